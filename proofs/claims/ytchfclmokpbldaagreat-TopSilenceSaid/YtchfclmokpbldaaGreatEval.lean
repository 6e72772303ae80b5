/-
  Merged texts. By an AI agent.
-/
import Derived.Test.YtchfclmokpbldaaGreatWinR
import Derived.Test.YtchfclmokpbldaaGreatRule
set_option linter.all false
set_option maxHeartbeats 4000000
set_option maxRecDepth 20000
namespace Go.Proofs.YtchfclmokpbldaaGreat
open Go.Aw Go
section
attribute [local irreducible] CJ LJ DJ Tri YV Gives Uq J2 Km Ur RV J4 OwL.L
section
variable {A B:Prop}
def V4f(h:A→B:=by exact Jy zvb rfl):=h
def J6g(h:B:=by exact ⟨by rw [K8,if_neg za,if_neg za,if_neg za,if_neg za,if_neg za,e],rfl,rfl⟩):=h
def Vdg(h:A→B:=by exact Kp zib rfl rfl rfl rfl):=h
end
def Ydd {e:Int} (h:e=0):nzO e=none:=by rw [nzO,if_pos h]
def Yic {e:Int} (h:e≠0):nzO e=some e:=by rw [nzO,if_neg h]
abbrev Vig (s:XSite):XCond→Option Int:=fun c=>nzO (Kt s.sensors.l s.air.mine.roads.l.length c)
abbrev Jjg (s:XSite):XZone→Option Int:=fun z=>nzO (V4 s.conds.l.length s.air.mine.roads.l.length z)
abbrev Z9e:Int→Option Int:=fun p=>if p < 1∨3 < p then some 19 else none
def Kza (s:XSite) (L:LB) (R:LS) (hs:SiteR s R):
 Tri Tryz.prog 74 [s.val].toArray L R (fun v M U=>v=.int .i64 (K8 s)∧L=M∧R=U):=by
 have hsR:=hs.sensors;have hcR:=hs.conds;have hzR:=hs.zones;have hpR:=hs.persons;refine Jd 90 Tryz.call74 Tryz.func74 rfl rfl rfl ?_;apply (Xaf);intro b1;apply Xap∘qab∘qa8;refine q_l rfl (Jha s.air _ _ hs.air) ?_;apply (Xbi);refine q_c ?_ ?_<;>intro hc0;·apply (Xd6);refine q_i L R ?_;exact ⟨by rw [K8,if_pos hc0],rfl,rfl⟩
 apply qbo∘Xdw∘qah;apply Kd (G:=[_,_,_,_]) (j:=4) (cj:=23) rfl rfl zb rfl zmb rfl;·exact zLd
 intro junk5;apply (qah);apply Kd (G:=[_,_,_,_]) (j:=10) (cj:=29) rfl rfl zb rfl zmb rfl;·intro hg11;replace hg11:=qb hg11;exact (Xdw) qai
 intro junk11;apply (qah);apply Kd (G:=[_,_,_,_]) (j:=16) (cj:=35) rfl rfl zb rfl zmb rfl;·intro hg17;replace hg17:=qb hg17;exact (Xdw) qai
 intro junk17;apply (qaf);refine q_c ?_ ?_<;>intro hc1;·apply (Xa7);refine q_i L R ?_;exact ⟨by rw [K8,if_neg za,if_pos za],rfl,rfl⟩
 apply qbo∘V4f;refine q_l rfl (Vub s _ _ hsR za) ?_;apply (Xbi);refine q_c ?_ ?_<;>intro hc2;·apply (Xd6);refine q_i L R ?_;exact ⟨by rw [K8,if_neg za,if_neg za,if_pos hc2],rfl,rfl⟩
 apply (Xc4);refine Jl [(1,.pointer _),(47,.slice _ _ _),(48,.int _ _),(49,.int _ _)] zh fun tq0=>?_;refine q_s ([2,6,7]++rg 49 11) (fun g:FS (Vig s) (s.conds.l)=>[(49,.int .i64 ((g.1:Nat):Int))]) (fun g=>(s.conds.l).length - g.1) ⟨0,K4a _ _⟩ ?_;rintro ⟨k0,hk0,hp0⟩ junk;try dsimp only
 apply (Xan);refine q_c ?_ ?_<;>intro hc3;·
  obtain ⟨c,hc⟩:=Kn (l:=s.conds.l) (k:=k0) za;apply (qbb);refine Jy zca rfl ?_;refine Jy zHa rfl ?_;apply (qaq);intro b6;apply Xa0∘V4f;refine Jy zrc rfl ?_;refine q_l rfl (Uuc s c _ _ hsR za) ?_;apply (Xbi);refine q_c ?_ ?_<;>intro hc4;·apply Xd4∘qbt;refine q_i L R ?_;(have e:K2a s=Kt s.sensors.l s.air.mine.roads.l.length c:=by rw [K2a,Z5 (f:=Vig s) hp0 hc (Yic hc4)];rfl);exact ⟨by rw [K8,if_neg za,if_neg za,if_neg za,if_pos (by rw [e];exact hc4),e],rfl,rfl⟩
  apply (Xay);exact q_k ⟨k0 + 1,Kqa hp0 hc (Ydd za)⟩
 have hn0:=Kla hp0 za;refine K7 (Kq (K4 (Kb (Jb (Jp (Jp ?_))))));have hce:K2a s=0:=by rw [K2a,hn0];rfl
 apply qay∘Xaz;refine Jl [(1,.pointer _),(61,.slice _ _ _),(62,.int _ _),(63,.int _ _)] zh fun tq1=>?_;refine q_s ([2,9,10]++rg 63 11) (fun g:FS (Jjg s) (s.zones.l)=>[(63,.int .i64 ((g.1:Nat):Int))]) (fun g=>(s.zones.l).length - g.1) ⟨0,K4a _ _⟩ ?_;rintro ⟨k1,hk1,hp1⟩ junk;try dsimp only
 apply (Xan);refine q_c ?_ ?_<;>intro hc5;·
  obtain ⟨z,hz⟩:=Kn (l:=s.zones.l) (k:=k1) za;apply (qbb);refine Jy zMa rfl ?_;apply (Xcs);intro b9;apply Xa0∘V4f∘qa8;refine q_l rfl (V9c s z _ _ (InR.rule hzR hz) (InR.zroads hzR hz)) ?_;apply (Xbi);refine q_c ?_ ?_<;>intro hc6;·apply Xd4∘qbt;refine q_i L R ?_;(have e:Zl s=V4 s.conds.l.length s.air.mine.roads.l.length z:=by rw [Zl,Z5 (f:=Jjg s) hp1 hz (Yic hc6)];rfl);exact ⟨by rw [K8,if_neg za,if_neg za,if_neg za,if_neg za,if_pos (by rw [e];exact hc6),e],rfl,rfl⟩
  apply (Xay);exact q_k ⟨k1 + 1,Kqa hp1 hz (Ydd za)⟩
 have hn1:=Kla hp1 za;refine K7 (Kq (K4 (Kb (Jb (Jp (Jp ?_))))));have hze:Zl s=0:=by rw [Zl,hn1];rfl
 apply qay∘Xaz;refine Jl [(75,.slice _ _ _),(76,.int _ _),(77,.int _ _)] zh fun tq2=>?_;refine q_s ([2,12]++rg 77 13) (fun g:FS (Z9e) (s.persons.l)=>[(77,.int .i64 ((g.1:Nat):Int))]) (fun g=>(s.persons.l).length - g.1) ⟨0,K4a _ _⟩ ?_;rintro ⟨k2,hk2,hp2⟩ junk;try dsimp only
 apply (Xan);refine q_c ?_ ?_<;>intro hc7;·
  obtain ⟨p,hp⟩:=Kn (l:=s.persons.l) (k:=k2) za;apply (qbb);refine Jy zNa rfl ?_;refine Jy (by first | exact Ky (row:=[_]) tb rfl rfl rfl zy zi zb zb | exact Jm (row:=[_]) tb rfl rfl rfl zf zb zb) rfl ?_;apply (qaq);intro b12;apply Xa0∘Xbt;apply Kd (G:=[_,_,_]) (j:=3) (cj:=84) rfl rfl zb rfl zmb rfl;·exact ztd
  intro junk4;apply (qaf);refine q_c ?_ ?_<;>intro hc8;·apply (Xch);refine q_i L R ?_;(have e:J4a s=19:=by rw [J4a,Z5 (f:=Z9e) hp2 hp (show Z9e p=some 19 from if_pos hc8)];rfl);exact J6g
  apply (Xay);exact q_k ⟨k2 + 1,Kqa hp2 hp (show Z9e p=none from if_neg za)⟩
 have hn2:=Kla hp2 za;apply (Xcx);refine q_i L R ?_;have e:J4a s=0:=by rw [J4a,hn2];rfl
 exact J6g
def Zrb (s:XSite) (m:Arr XMeas) (n t:Int) (L:LB) (R:LS) (hs:InR (Kcd s.sensors) R) (hm:InR (Ya m) R) (hok:∀x∈m.l,Uaa x) (ht:0≤t∧t≤2147483648):
 Tri Tryz.prog 103 [s.val,m.val,.int .i64 n,.int .i64 t].toArray L R (fun v M U=>v=(Y2 s.sensors.l m.l n t).val∧L=M∧R=U):=by
 refine Jd 42 Tryz.call103 Tryz.func103 rfl rfl rfl ?_;apply (Xaf);intro b4;apply (qaq);intro b8;apply qaw∘Xec;refine q_l rfl (Kka n (s.sensors.l.length:Int) _ _) ?_;apply (Xda);apply Kd (G:=[_,_,_,_]) (j:=6) (cj:=15) rfl rfl zb rfl zmb rfl;·intro hg7;replace hg7:=qb hg7;exact (qaa∘Xaq) zAd
 intro junk7;apply (qah);apply Kd (G:=[_,_,_,_,_,_,_]) (j:=12) (cj:=21) rfl rfl zb rfl zmb rfl;·
  intro hg13;replace hg13:=qb hg13;have hmg:=Jt (l:=m.l) (k:=n.toNat) default (by (try simp at hg13);omega);apply (Xas);have hnn:0≤n∧n < m.l.length:=by (try simp at hg13);omega
  refine Jy zib rfl ?_;exact (Xbx∘qaa) zzd
 intro junk13;apply (qaf);refine q_c ?_ ?_<;>intro hc0;·apply (qae);refine q_l rfl (Ua _ _) ?_;apply (Xdt);refine q_r L R zTc ?_;exact ⟨by rw [Y2,if_neg za],rfl,rfl⟩
 have hmg:=Jt (l:=m.l) (k:=n.toNat) default za;have hsg:=Jt (l:=s.sensors.l) (k:=n.toNat) default za;have hmo:=hok _ (yi hmg);apply (qcl);refine J5 tb [] [0,1,2,3,4,5,6,7,8,9,10] [11] ([Blk.mk b8 _ _,Blk.mk b4 _ _]) _ Kr zc zg (by (repeat (first | apply List.Sublist.cons (a:=Blk.mk b8 _ _) | apply List.Sublist.cons_cons));exact yv _) ?_;apply Xcf∘Vdg;refine Kp zba rfl rfl rfl rfl ?_;apply Xdu∘Vdg;refine Kp zIa rfl rfl rfl rfl ?_;apply (qbf);refine Ks rfl (Vae _ _ t _ _ hmo ht) rfl rfl ?_;rintro v M U ⟨rfl,rfl,rfl⟩;refine ⟨zg,zq,?_⟩;apply (Xcm);refine J1 (Jb (K6 ?_));refine q_r L R zTc ?_;exact ⟨by rw [Y2,if_pos za],rfl,rfl⟩
def Ugd (x:XSpan) (L:LB) (R:LS):
 Tri Tryz.prog 231 [x.val].toArray L R (fun v M U=>v=.int .i64 (Upa x)∧L=M∧R=U):=by
 refine Jd 27 Tryz.call231 Tryz.func231 rfl rfl rfl ?_;apply (Xaf);intro b1;apply (qad);refine J7 (Jb (Jp (Kc (Jp (Jh ?_)))));apply Xbe∘qa5∘Xar;refine q_c ?_ ?_<;>intro hc0;·apply (Xbg);refine q_i L R ?_;exact yc
 apply Xcl∘Xcc;apply Uy (G:=[_,_,_]) (j:=3) (cj:=13) rfl rfl zb rfl zmb rfl;·exact zre
 intro junk4;apply (Xar);refine q_c ?_ ?_<;>intro hc1;·apply (Xbg);refine q_i L R ?_;exact yc
 apply qae∘Xbr∘qah;apply Kd (G:=[_,_,_]) (j:=3) (cj:=22) rfl rfl zb rfl zmb rfl;·exact zxe
 intro junk4;apply (Xar);refine q_c ?_ ?_<;>intro hc2;·apply (Xbg);refine q_i L R ?_;exact yc
 refine J3 (Jf (Jb (Jp (Jh ?_))));apply (Xai);refine q_i L R ?_;exact yc
def Ucf (c:XCond) (w:XWatch) (x:XSpan) (L:LB) (R:LS):
 Tri Tryz.prog 229 [c.val,w.val,x.val].toArray L R (fun v M U=>v=.int .i64 (if w.over=false then -1 else if Z6 x c.level.cut=1 then 1 else 0)∧L=M∧R=U):=by
 refine Jd 18 Tryz.call229 Tryz.func229 rfl rfl rfl ?_;apply (Xaf);intro b3;apply (qax);intro b4;apply (qax);intro b5;apply (qad);refine J7 (Jb (Jp (Kc (Jp (Jh ?_)))));apply Xaa∘qb4∘Xar;refine q_c ?_ ?_<;>intro hc0;·apply (Xbg);refine q_i L R ?_;exact ⟨by rw [if_pos zE],rfl,rfl⟩
 apply qae∘qbe∘Xdv;refine q_l rfl (Zpb x c.level.cut _ _) ?_;apply (Xax);refine q_c ?_ ?_<;>intro hc1;·apply (Xbg);refine q_i L R ?_;exact ⟨by rw [if_neg zE,if_pos hc1],rfl,rfl⟩
 refine J3 (Jf (Jb (Jp (Jh ?_))));apply (Xai);refine q_i L R ?_;exact ⟨by rw [if_neg zE,if_neg hc1],rfl,rfl⟩
end
section
attribute [local irreducible] CJ LJ DJ Tri YV Gives Uq J2 Km Ur RV J4 OwL.L
section
variable {A B:Prop}
def Zqe(h:A→B:=by exact Kp zwc rfl rfl rfl rfl):=h
def Ymf(h:A→B:=by exact Jy zcb rfl):=h
def U1g(h:A→B:=by exact Jy zad rfl):=h
def Ujg(h:A→B:=by exact Jy zwc rfl):=h
def Kpg(h:A→B:=by exact J5 tb [] [0,1,2,3,4,5,6,7,8,9,10,11,12,13] [14] ((⟨b7,XNode.cells x,172⟩ :: ((⟨.own b13 l.l.length [],vs⟩:OwL Int).L 3 Jk ++ []))) _ Kr zc zg yd):=h
def Vwg(h:A→B:=by exact Kp zZc rfl rfl rfl rfl):=h
def Kag(h:A→B:=by exact Kp (Jw tb ((⟨.own b13 l.l.length [],vs⟩:OwL Int)) _ rfl rfl ((show _=Value.slice _ _ _ from rfl).trans (Uu hvl)) rfl zi (i:=x.right.toNat) zk zw) rfl rfl rfl rfl):=h
def Uyg(h:A→B:=by exact Kp zad rfl rfl rfl rfl):=h
end
def Z4 (l:List XNode) (vals:List Int) (k:Nat):List Int:=Uf l vals k ++ List.replicate (l.length - k) 0
def Yaf {l:List XNode} {vals:List Int} {k:Nat} (h:k≤l.length):(Z4 l vals k).length=l.length:=by rw [Z4,yj,Yu,yoa];omega
def V7f {l:List XNode} {vals:List Int} {k:Nat} {v:Int} (hk:k < l.length) (h:v=Una vals (Uf l vals k) (l.getD k default)):(Z4 l vals k).set k v=Z4 l vals (k + 1):=by have hl:=Yu (l:=l) (vals:=vals) k;rw [Z4,Z4,Uf,← h,show l.length - k=(l.length - (k + 1)) + 1 by omega,yyb,List.set_append_right k v za,hl,yzb,yec];simp
def Uef {l:List XNode} {vals:List Int} {k:Nat} (hk:k < l.length) (h:Una vals (Uf l vals k) (l.getD k default)=0):Z4 l vals k=Z4 l vals (k + 1):=by rw [Z4,Z4,Uf,h,show l.length - k=(l.length - (k + 1)) + 1 by omega,yyb];simp
def K9d {l:List XNode} {vals:List Int} {k j:Nat} (h:j < k):(Z4 l vals k)[j]?=some ((Uf l vals k).getD j 0):=by have hl:=Yu (l:=l) (vals:=vals) k;rw [Z4,yz za];exact Jt 0 za
def Kcf {l:List XNode} {vals:List Int}:Z4 l vals l.length=Uf l vals l.length:=by rw [Z4,yzb];simp
def U1c {vals v:List Int} {x:XNode} (h:x.kind=1):Una vals v x=Kec vals x.cond:=by rw [Una,if_pos h]
def V0e {vals v:List Int} {x:XNode} (h:x.kind=2):Una vals v x= -(v.getD x.left.toNat 0):=by rw [Una,if_neg za,if_pos h]
def K8e {vals v:List Int} {x:XNode} (h:x.kind=3):Una vals v x=min (v.getD x.left.toNat 0) (v.getD x.right.toNat 0):=by rw [Una,if_neg za,if_neg za,if_pos h]
def Y8e {vals v:List Int} {x:XNode} (h1:¬ x.kind=1) (h2:¬ x.kind=2) (h3:¬ x.kind=3):Una vals v x=max (v.getD x.left.toNat 0) (v.getD x.right.toNat 0):=by rw [Una,if_neg h1,if_neg h2,if_neg h3]
def Kgc (l:Arr XNode) (vals:Arr Int) (L:LB) (R:LS) (hl:InR (Yfc l) R) (hv:InR (isl vals) R):
 Tri Tryz.prog 160 [l.val,vals.val].toArray L R (fun v M U=>v=.int .i64 (Kpa l.l vals.l)∧L=M∧R=U):=by
 refine Jd 102 Tryz.call160 Tryz.func160 rfl rfl rfl ?_;apply Xac∘qaw∘qbm;refine q_l rfl (Jvb l _ _ hl) ?_;apply (Xbl);refine q_c ?_ ?_<;>intro hc0;·apply (Xa7);refine q_i L R ?_;exact ⟨by rw [Kpa,if_neg zE],rfl,rfl⟩
 have hr:Y6 l.l=true:=by simpa using hc0
 have hln:=(Jxa.1 hr).1;apply qbv∘Xaq∘qc7;rintro v M U ⟨b13,rfl,rfl,hR13⟩;replace hR13:=hR13.symm;subst hR13;apply qc4∘qco;refine U0 (Yo (f:=Jk) (x:=0) rfl _) ?_;apply qay∘Xb5;refine Jl [(1,.slice _ _ _),(5,.slice _ _ _),(14,.slice _ _ _),(15,.int _ _),(16,.int _ _)] zh fun tq0=>?_;refine q_p ([6,7]++rg 16 80) ((⟨fun g=>[(16,.int .i64 ((g.1.1:Nat):Int))],fun g=>(⟨.own b13 l.l.length [],g.1.2⟩:OwL Int).L 3 Jk ++ L,fun _=>R,fun g=>l.l.length - g.1.1⟩:Head {g:Nat×List Int // g.1≤l.l.length∧g.2=Z4 l.l vals.l g.1})) (⟨(0,List.replicate l.l.length 0),by dsimp only;omega,rfl⟩) ?_;rintro ⟨⟨k,vs⟩,hk,hvs⟩ junk;try dsimp only
 dsimp only at hk hvs;have hvl:vs.length=l.l.length:=by rw [hvs];exact Yaf hk
 have hvk:(⟨.own b13 l.l.length [],vs⟩:OwL Int).ok 1 Jk:=by have:=Yl (f:=Jk) (wd:=1) (b:=b13) (n:=l.l.length) (x:=0) U8 zF;exact OwL.len_ok U8 this (by simp;exact hvl)
 apply (Xan);refine q_c ?_ ?_<;>intro hc1;·
  have hxg:=Jt (l:=l.l) (k:=k) default za;have hno:=Zsb hr k za;have hvg:=Jt (l:=vs) (k:=k) 0 za;have hset:=fun (v:Int)=>V7f (l:=l.l) (vals:=vals.l) (k:=k) (v:=v) za;have hst:=Uef (l:=l.l) (vals:=vals.l) (k:=k) za;rw [← hvs] at hset hst;rw [Vlb] at hno;obtain ⟨x,hx⟩:∃x,x=l.l.getD k default:=⟨_,rfl⟩;rw [← hx] at hxg hno hset hst;apply (Xa4);refine Jy zC rfl ?_;apply (Xcs);intro b7;apply qad∘Xb9;refine J7 (Jb (Kc (Jp (Jh ?_))));apply (Xax);refine q_c ?_ ?_<;>intro hc2;·
   apply Xcl∘Xaq∘Xau;apply Uy (G:=[_,_,_,_,_,_]) (j:=5) (cj:=44) rfl rfl zb rfl zmb rfl;·intro hg6;replace hg6:=qb hg6;have hcg:=Jt (l:=vals.l) (k:=x.cond.toNat) 0 za;exact (Xb8∘Ymf∘qa7) zAd
   intro junk6;apply (qah);apply Uy (G:=[_,_,_,_,_,_]) (j:=13) (cj:=52) rfl rfl zb rfl zmb rfl;·intro hg14;replace hg14:=qb hg14;have hcg:=Jt (l:=vals.l) (k:=x.cond.toNat) 0 za;exact (Xb8∘Ymf∘qa7∘qbx) qai
   intro junk14;apply (qaf);refine q_c ?_ ?_<;>intro hc3;·have hcg:=Jt (l:=vals.l) (k:=x.cond.toNat) 0 za;apply Xcg∘Xb8∘Ymf∘qa7∘U1g;refine Ye (Ju tb ((⟨.own b13 l.l.length [],vs⟩:OwL Int)) (vals.l.getD x.cond.toNat 0) rfl rfl rfl rfl zj zi yf zi ze zb zb) ?_;rintro v M U ⟨rfl,rfl⟩;refine J7 (Jf (Jf (Jb (Jh ?_))));apply (Xae);exact q_k ⟨(k + 1,vs.set k (vals.l.getD x.cond.toNat 0)),by dsimp only;omega,hset _ (by rw [U1c hc2,Kec,if_pos za])⟩
   refine J3 (Jf (Jf (Jb (Jh ?_))));apply (Xae);exact q_k ⟨(k + 1,vs),by dsimp only;omega,hst (by rw [U1c hc2,Kec,if_neg za])⟩
  apply (Xbj);refine q_c ?_ ?_<;>intro hc4;·(have hlt:x.left.toNat < k:=by omega);have hlg:=K9d (l:=l.l) (vals:=vals.l) hlt;rw [← hvs] at hlg;have hlr:=Uta (l:=l.l) (vals:=vals.l) k x.left.toNat;apply Xcg∘Xb8;refine Jy zZc rfl ?_;apply Ujg∘qcq∘U1g;refine Ye (Ju tb ((⟨.own b13 l.l.length [],vs⟩:OwL Int)) (-((Uf l.l vals.l k).getD x.left.toNat 0)) rfl rfl rfl rfl zj zi yf zi ze zb zb) ?_;rintro v M U ⟨rfl,rfl⟩;refine J7 (Jf (Jf (Jb (Jh ?_))));apply (Xae);exact q_k ⟨(k + 1,vs.set k (-((Uf l.l vals.l k).getD x.left.toNat 0))),by dsimp only;omega,hset _ (by rw [V0e hc4])⟩
  have hlt:x.left.toNat < k:=by omega
  have hlg:=K9d (l:=l.l) (vals:=vals.l) hlt;have hrt:x.right.toNat < k:=by omega
  have hrg:=K9d (l:=l.l) (vals:=vals.l) hrt;rw [← hvs] at hlg hrg;apply (Xbj);refine q_c ?_ ?_<;>intro hc5;·apply Kpg∘Xdu∘Xdi∘Vwg∘Zqe∘Xdi∘Kag∘Zqe;refine Kp zHc rfl rfl rfl rfl ?_;apply Uyg∘qba;refine Jnb (Ju tb ((⟨.own b13 l.l.length [],vs⟩:OwL Int)) (min ((Uf l.l vals.l k).getD x.left.toNat 0) ((Uf l.l vals.l k).getD x.right.toNat 0)) rfl rfl rfl rfl zj zi yf zi ze zb zb) rfl rfl ?_;rintro v M U ⟨rfl,rfl⟩;apply (qa1);refine J1 (Jf (Jf (Jb (Jh ?_))));apply (Xae);exact q_k ⟨(k + 1,vs.set k (min ((Uf l.l vals.l k).getD x.left.toNat 0) ((Uf l.l vals.l k).getD x.right.toNat 0))),by dsimp only;omega,hset _ (by rw [K8e hc5])⟩
  apply Kpg∘Xdu∘Xdi∘Vwg∘Zqe∘Xdi∘Kag∘Zqe;refine Kp zgc rfl rfl rfl rfl ?_;apply Uyg∘qba;refine Jnb (Ju tb ((⟨.own b13 l.l.length [],vs⟩:OwL Int)) (max ((Uf l.l vals.l k).getD x.left.toNat 0) ((Uf l.l vals.l k).getD x.right.toNat 0)) rfl rfl rfl rfl zj zi yf zi ze zb zb) rfl rfl ?_;rintro v M U ⟨rfl,rfl⟩;apply (qa1);refine J1 (Jf (Jf (Jb (Jh ?_))));apply (Xae);exact q_k ⟨(k + 1,vs.set k (max ((Uf l.l vals.l k).getD x.left.toNat 0) ((Uf l.l vals.l k).getD x.right.toNat 0))),by dsimp only;omega,hset _ (by rw [Y8e hc2 hc4 hc5])⟩
 obtain rfl:k=l.l.length:=by omega
 rw [Kcf] at hvs;have hvg:=Jt (l:=vs) (k:=l.l.length - 1) 0 za;have hev:Kpa l.l vals.l=vs.getD (l.l.length - 1) 0:=by rw [Kpa,if_pos hr,hvs]
 apply Xc7∘Xdz;refine Jy (Jw tb ((⟨.own b13 l.l.length [],vs⟩:OwL Int)) _ rfl rfl ((show _=Value.slice _ _ _ from rfl).trans (Uu hvl)) rfl zi (i:=l.l.length - 1) zk zw) rfl ?_;apply Ujg∘Xai;refine q_i L R ?_;exact ⟨by rw [hev],rfl,rfl⟩
end
end Go.Proofs.YtchfclmokpbldaaGreat
