/-
  Merged texts. By an AI agent.
-/
import Derived.Test.YtchfclmokpbldaaGreatWinR
import Derived.Test.YtchfclmokpbldaaGreatRule
import Derived.Test.YtchfclmokpbldaaGreatAnal
set_option linter.all false
set_option maxHeartbeats 4000000
set_option maxRecDepth 20000
namespace Go.Proofs.YtchfclmokpbldaaGreat
open Go.Aw Go
section
attribute [local irreducible] CJ LJ DJ Tri YV Gives Ur J3 Ko Uq RV J5 OwL.L
section
variable {A B:Prop}
def Vff(h:A→B:=by exact Jx zvb rfl):=h
def Jyg(h:B:=by exact ⟨by rw [K5,if_neg za,if_neg za,if_neg za,if_neg za,if_neg za,e],rfl,rfl⟩):=h
def Kjg(h:A→B:=by exact Kr zgb rfl rfl rfl rfl):=h
end
def Y9d {e:Int} (h:e=0):nzO e=none:=by rw [nzO,if_pos h]
def Vjc {e:Int} (h:e≠0):nzO e=some e:=by rw [nzO,if_neg h]
abbrev Kcg (s:XSite):XCond→Option Int:=fun c=>nzO (Ks s.sensors.l s.air.mine.roads.l.length c)
abbrev Usg (s:XSite):XZone→Option Int:=fun z=>nzO (Yo s.conds.l.length s.air.mine.roads.l.length z)
abbrev Kmf:Int→Option Int:=fun p=>if p < 1∨3 < p then some 19 else none
def Ksa (s:XSite) (L:LB) (R:LS) (hs:SiteR s R):
 Tri Tryz.prog 74 [s.val].toArray L R (fun v M U=>v=.int .i64 (K5 s)∧L=M∧R=U):=by
 have hsR:=hs.sensors;have hcR:=hs.conds;have hzR:=hs.zones;have hpR:=hs.persons;refine Jd 90 Tryz.call74 Tryz.func74 rfl rfl rfl ?_;apply (Xaf);intro b1;apply Xar∘qab∘qa8;refine q_l rfl (Jfa s.air _ _ hs.air) ?_;apply (Xbm);refine q_c ?_ ?_<;>intro hc0;·apply (Xd4);refine q_i L R ?_;exact ⟨by rw [K5,if_pos hc0],rfl,rfl⟩
 apply qbo∘Xdq∘qah;apply Kf (G:=[_,_,_,_]) (j:=4) (cj:=23) rfl rfl zb rfl zmb rfl;·exact zLd
 intro junk5;apply (qah);apply Kf (G:=[_,_,_,_]) (j:=10) (cj:=29) rfl rfl zb rfl zmb rfl;·intro hg11;replace hg11:=qb hg11;exact (Xdq) qai
 intro junk11;apply (qah);apply Kf (G:=[_,_,_,_]) (j:=16) (cj:=35) rfl rfl zb rfl zmb rfl;·intro hg17;replace hg17:=qb hg17;exact (Xdq) qai
 intro junk17;apply (qaf);refine q_c ?_ ?_<;>intro hc1;·apply (Xbc);refine q_i L R ?_;exact ⟨by rw [K5,if_neg za,if_pos za],rfl,rfl⟩
 apply qbo∘Vff;refine q_l rfl (Vkb s _ _ hsR za) ?_;apply (Xbm);refine q_c ?_ ?_<;>intro hc2;·apply (Xd4);refine q_i L R ?_;exact ⟨by rw [K5,if_neg za,if_neg za,if_pos hc2],rfl,rfl⟩
 apply (Xc0);refine Jl [(1,.pointer _),(47,.slice _ _ _),(48,.int _ _),(49,.int _ _)] zh fun tq0=>?_;refine q_s ([2,6,7]++rg 49 11) (fun g:FS (Kcg s) (s.conds.l)=>[(49,.int .i64 ((g.1:Nat):Int))]) (fun g=>(s.conds.l).length - g.1) ⟨0,K8a _ _⟩ ?_;rintro ⟨k0,hk0,hp0⟩ junk;try dsimp only
 apply (Xan);refine q_c ?_ ?_<;>intro hc3;·
  obtain ⟨c,hc⟩:=Kn (l:=s.conds.l) (k:=k0) za;apply (qbb);refine Jx zea rfl ?_;refine Jx zLa rfl ?_;apply (qaq);intro b6;apply Xa2∘Vff;refine Jx zsc rfl ?_;refine q_l rfl (Uwc s c _ _ hsR za) ?_;apply (Xbm);refine q_c ?_ ?_<;>intro hc4;·apply Xd2∘qbt;refine q_i L R ?_;(have e:Kza s=Ks s.sensors.l s.air.mine.roads.l.length c:=by rw [Kza,Zs (f:=Kcg s) hp0 hc (Vjc hc4)];rfl);exact ⟨by rw [K5,if_neg za,if_neg za,if_neg za,if_pos (by rw [e];exact hc4),e],rfl,rfl⟩
  apply (Xa0);exact q_k ⟨k0 + 1,Kma hp0 hc (Y9d za)⟩
 have hn0:=Kla hp0 za;refine K4 (Kp (K3 (J8 (Jb (Jp (Jp ?_))))));have hce:Kza s=0:=by rw [Kza,hn0];rfl
 apply qay∘Xaz;refine Jl [(1,.pointer _),(61,.slice _ _ _),(62,.int _ _),(63,.int _ _)] zh fun tq1=>?_;refine q_s ([2,9,10]++rg 63 11) (fun g:FS (Usg s) (s.zones.l)=>[(63,.int .i64 ((g.1:Nat):Int))]) (fun g=>(s.zones.l).length - g.1) ⟨0,K8a _ _⟩ ?_;rintro ⟨k1,hk1,hp1⟩ junk;try dsimp only
 apply (Xan);refine q_c ?_ ?_<;>intro hc5;·
  obtain ⟨z,hz⟩:=Kn (l:=s.zones.l) (k:=k1) za;apply (qbb);refine Jx zPa rfl ?_;apply (Xdr);intro b9;apply Xa2∘Vff∘qa8;refine q_l rfl (Umc s z _ _ (InR.rule hzR hz) (InR.zroads hzR hz)) ?_;apply (Xbm);refine q_c ?_ ?_<;>intro hc6;·apply Xd2∘qbt;refine q_i L R ?_;(have e:Zf s=Yo s.conds.l.length s.air.mine.roads.l.length z:=by rw [Zf,Zs (f:=Usg s) hp1 hz (Vjc hc6)];rfl);exact ⟨by rw [K5,if_neg za,if_neg za,if_neg za,if_neg za,if_pos (by rw [e];exact hc6),e],rfl,rfl⟩
  apply (Xa0);exact q_k ⟨k1 + 1,Kma hp1 hz (Y9d za)⟩
 have hn1:=Kla hp1 za;refine K4 (Kp (K3 (J8 (Jb (Jp (Jp ?_))))));have hze:Zf s=0:=by rw [Zf,hn1];rfl
 apply qay∘Xaz;refine Jl [(75,.slice _ _ _),(76,.int _ _),(77,.int _ _)] zh fun tq2=>?_;refine q_s ([2,12]++rg 77 13) (fun g:FS (Kmf) (s.persons.l)=>[(77,.int .i64 ((g.1:Nat):Int))]) (fun g=>(s.persons.l).length - g.1) ⟨0,K8a _ _⟩ ?_;rintro ⟨k2,hk2,hp2⟩ junk;try dsimp only
 apply (Xan);refine q_c ?_ ?_<;>intro hc7;·
  obtain ⟨p,hp⟩:=Kn (l:=s.persons.l) (k:=k2) za;apply (qbb);refine Jx zQa rfl ?_;refine Jx (by first | exact Kx (row:=[_]) tb rfl rfl rfl zy zi zb zb | exact Jn (row:=[_]) tb rfl rfl rfl zf zb zb) rfl ?_;apply (qaq);intro b12;apply Xa2∘Xbu;apply Kf (G:=[_,_,_]) (j:=3) (cj:=84) rfl rfl zb rfl zmb rfl;·exact zud
  intro junk4;apply (qaf);refine q_c ?_ ?_<;>intro hc8;·apply (Xcf);refine q_i L R ?_;(have e:J7a s=19:=by rw [J7a,Zs (f:=Kmf) hp2 hp (show Kmf p=some 19 from if_pos hc8)];rfl);exact Jyg
  apply (Xa0);exact q_k ⟨k2 + 1,Kma hp2 hp (show Kmf p=none from if_neg za)⟩
 have hn2:=Kla hp2 za;apply (Xcr);refine q_i L R ?_;have e:J7a s=0:=by rw [J7a,hn2];rfl
 exact Jyg
def V4b (s:XSite) (m:Arr XMeas) (n t:Int) (L:LB) (R:LS) (hs:InR (J2d s.sensors) R) (hm:InR (Yf m) R) (hok:∀x∈m.l,Uda x) (ht:0≤t∧t≤2147483648):
 Tri Tryz.prog 103 [s.val,m.val,.int .i64 n,.int .i64 t].toArray L R (fun v M U=>v=(U4 s.sensors.l m.l n t).val∧L=M∧R=U):=by
 refine Jd 42 Tryz.call103 Tryz.func103 rfl rfl rfl ?_;apply (Xaf);intro b4;apply (qaq);intro b8;apply qaw∘Xd5;refine q_l rfl (Kna n (s.sensors.l.length:Int) _ _) ?_;apply (Xc4);apply Kf (G:=[_,_,_,_]) (j:=6) (cj:=15) rfl rfl zb rfl zmb rfl;·intro hg7;replace hg7:=qb hg7;exact (qaa∘Xao) zCd
 intro junk7;apply (qah);apply Kf (G:=[_,_,_,_,_,_,_]) (j:=12) (cj:=21) rfl rfl zb rfl zmb rfl;·
  intro hg13;replace hg13:=qb hg13;have hmg:=Ju (l:=m.l) (k:=n.toNat) default (by (try simp at hg13);omega);apply (Xas);have hnn:0≤n∧n < m.l.length:=by (try simp at hg13);omega
  refine Jx zgb rfl ?_;exact (Xb1∘qaa) zAd
 intro junk13;apply (qaf);refine q_c ?_ ?_<;>intro hc0;·apply (qae);refine q_l rfl (K8 _ _) ?_;apply (Xds);refine q_r L R zUc ?_;exact ⟨by rw [U4,if_neg za],rfl,rfl⟩
 have hmg:=Ju (l:=m.l) (k:=n.toNat) default za;have hsg:=Ju (l:=s.sensors.l) (k:=n.toNat) default za;have hmo:=hok _ (yi hmg);apply (qcl);refine J6 tb [] [0,1,2,3,4,5,6,7,8,9,10] [11] ([Blk.mk b8 _ _,Blk.mk b4 _ _]) _ Kq zc zg (by (repeat (first | apply List.Sublist.cons (a:=Blk.mk b8 _ _) | apply List.Sublist.cons_cons));exact yv _) ?_;apply Xcb∘Kjg;refine Kr zda rfl rfl rfl rfl ?_;apply Xdt∘Kjg;refine Kr zya rfl rfl rfl rfl ?_;apply (qbf);refine Ku rfl (K3f _ _ t _ _ hmo ht) rfl rfl ?_;rintro v M U ⟨rfl,rfl,rfl⟩;refine ⟨zg,zq,?_⟩;apply (Xcs);refine J2 (Jb (Ui ?_));refine q_r L R zUc ?_;exact ⟨by rw [U4,if_pos za],rfl,rfl⟩
def Uud (x:XSpan) (L:LB) (R:LS):
 Tri Tryz.prog 231 [x.val].toArray L R (fun v M U=>v=.int .i64 (Ura x)∧L=M∧R=U):=by
 refine Jd 27 Tryz.call231 Tryz.func231 rfl rfl rfl ?_;apply (Xaf);intro b1;apply (qad);refine J7 (Jb (Jp (Ka (Jp (Jg ?_)))));apply Xa6∘qa5∘Xaq;refine q_c ?_ ?_<;>intro hc0;·apply (Xbk);refine q_i L R ?_;exact yc
 apply Xck∘Xcc;apply Us (G:=[_,_,_]) (j:=3) (cj:=13) rfl rfl zb rfl zmb rfl;·exact zMd
 intro junk4;apply (Xaq);refine q_c ?_ ?_<;>intro hc1;·apply (Xbk);refine q_i L R ?_;exact yc
 apply qae∘Xbs∘qah;apply Kf (G:=[_,_,_]) (j:=3) (cj:=22) rfl rfl zb rfl zmb rfl;·exact zxe
 intro junk4;apply (Xaq);refine q_c ?_ ?_<;>intro hc2;·apply (Xbk);refine q_i L R ?_;exact yc
 refine J1 (Je (Jb (Jp (Jg ?_))));apply (Xaj);refine q_i L R ?_;exact yc
def J5f (c:XCond) (w:XWatch) (x:XSpan) (L:LB) (R:LS):
 Tri Tryz.prog 229 [c.val,w.val,x.val].toArray L R (fun v M U=>v=.int .i64 (if w.over=false then -1 else if Jha x c.level.cut=1 then 1 else 0)∧L=M∧R=U):=by
 refine Jd 18 Tryz.call229 Tryz.func229 rfl rfl rfl ?_;apply (Xaf);intro b3;apply (qax);intro b4;apply (qax);intro b5;apply (qad);refine J7 (Jb (Jp (Ka (Jp (Jg ?_)))));apply Xaa∘qb4∘Xaq;refine q_c ?_ ?_<;>intro hc0;·apply (Xbk);refine q_i L R ?_;exact ⟨by rw [if_pos zF],rfl,rfl⟩
 apply qae∘qbe∘Xd6;refine q_l rfl (Zpb x c.level.cut _ _) ?_;apply (Xax);refine q_c ?_ ?_<;>intro hc1;·apply (Xbk);refine q_i L R ?_;exact ⟨by rw [if_neg zF,if_pos hc1],rfl,rfl⟩
 refine J1 (Je (Jb (Jp (Jg ?_))));apply (Xaj);refine q_i L R ?_;exact ⟨by rw [if_neg zF,if_neg hc1],rfl,rfl⟩
end
section
attribute [local irreducible] CJ LJ DJ Tri YV Gives Ur J3 Ko Uq RV J5 OwL.L
section
variable {A B:Prop}
def Jjf(h:A→B:=by exact Kr zwc rfl rfl rfl rfl):=h
def Ujf(h:A→B:=by exact Jx (by first | exact Jf tb rfl rfl rfl rfl zy (i:=x.cond.toNat) zk za | exact Jq tb rfl rfl rfl rfl (i:=x.cond.toNat) zk za) rfl):=h
def Zef(h:A→B:=by exact Jx zbd rfl):=h
def Uwg(h:A→B:=by exact Jx zwc rfl):=h
def Zqf(h:A→B:=by exact J6 tb [] [0,1,2,3,4,5,6,7,8,9,10,11,12,13] [14] ((⟨b7,XNode.cells x,172⟩ :: ((⟨.own b13 l.l.length [],vs⟩:OwL Int).L 3 Jk ++ []))) _ Kq zc zg yd):=h
def Jpg(h:A→B:=by exact Kr zad rfl rfl rfl rfl):=h
def Kog(h:A→B:=by exact Kr (Jw tb ((⟨.own b13 l.l.length [],vs⟩:OwL Int)) _ rfl rfl ((show _=Value.slice _ _ _ from rfl).trans (Ul hvl)) rfl zi (i:=x.right.toNat) zk zw) rfl rfl rfl rfl):=h
def Keg(h:A→B:=by exact Kr zbd rfl rfl rfl rfl):=h
end
def Zw (l:List XNode) (vals:List Int) (k:Nat):List Int:=U1 l vals k ++ List.replicate (l.length - k) 0
def Ydf {l:List XNode} {vals:List Int} {k:Nat} (h:k≤l.length):(Zw l vals k).length=l.length:=by rw [Zw,yj,Yq,yna];omega
def V8f {l:List XNode} {vals:List Int} {k:Nat} {v:Int} (hk:k < l.length) (h:v=V2a vals (U1 l vals k) (l.getD k default)):(Zw l vals k).set k v=Zw l vals (k + 1):=by have hl:=Yq (l:=l) (vals:=vals) k;rw [Zw,Zw,U1,← h,show l.length - k=(l.length - (k + 1)) + 1 by omega,ytb,List.set_append_right k v za,hl,yHb,yac];simp
def Zhe {l:List XNode} {vals:List Int} {k:Nat} (hk:k < l.length) (h:V2a vals (U1 l vals k) (l.getD k default)=0):Zw l vals k=Zw l vals (k + 1):=by rw [Zw,Zw,U1,h,show l.length - k=(l.length - (k + 1)) + 1 by omega,ytb];simp
def Vld {l:List XNode} {vals:List Int} {k j:Nat} (h:j < k):(Zw l vals k)[j]?=some ((U1 l vals k).getD j 0):=by have hl:=Yq (l:=l) (vals:=vals) k;rw [Zw,yB za];exact Ju 0 za
def Kkf {l:List XNode} {vals:List Int}:Zw l vals l.length=U1 l vals l.length:=by rw [Zw,yHb];simp
def Ude {vals v:List Int} {x:XNode} (h:x.kind=1):V2a vals v x=Uwd vals x.cond:=by rw [V2a,if_pos h]
def Uxf {vals v:List Int} {x:XNode} (h:x.kind=2):V2a vals v x= -(v.getD x.left.toNat 0):=by rw [V2a,if_neg za,if_pos h]
def Vhf {vals v:List Int} {x:XNode} (h:x.kind=3):V2a vals v x=min (v.getD x.left.toNat 0) (v.getD x.right.toNat 0):=by rw [V2a,if_neg za,if_neg za,if_pos h]
def Vuf {vals v:List Int} {x:XNode} (h1:¬ x.kind=1) (h2:¬ x.kind=2) (h3:¬ x.kind=3):V2a vals v x=max (v.getD x.left.toNat 0) (v.getD x.right.toNat 0):=by rw [V2a,if_neg h1,if_neg h2,if_neg h3]
def J4c (l:Arr XNode) (vals:Arr Int) (L:LB) (R:LS) (hl:InR (J9e l) R) (hv:InR (isl vals) R):
 Tri Tryz.prog 160 [l.val,vals.val].toArray L R (fun v M U=>v=.int .i64 (Jla l.l vals.l)∧L=M∧R=U):=by
 refine Jd 102 Tryz.call160 Tryz.func160 rfl rfl rfl ?_;apply Xac∘qaw∘qbm;refine q_l rfl (Zlb l _ _ hl) ?_;apply (Xbr);refine q_c ?_ ?_<;>intro hc0;·apply (Xbc);refine q_i L R ?_;exact ⟨by rw [Jla,if_neg zF],rfl,rfl⟩
 have hr:Ula l.l=true:=by simpa using hc0
 have hln:=(Zha.1 hr).1;apply qbv∘Xao∘qc7;rintro v M U ⟨b13,rfl,rfl,hR13⟩;replace hR13:=hR13.symm;subst hR13;apply qc4∘qco;refine Uu (Yt (f:=Jk) (x:=0) rfl _) ?_;apply qay∘Xb7;refine Jl [(1,.slice _ _ _),(5,.slice _ _ _),(14,.slice _ _ _),(15,.int _ _),(16,.int _ _)] zh fun tq0=>?_;refine q_p ([6,7]++rg 16 80) ((⟨fun g=>[(16,.int .i64 ((g.1.1:Nat):Int))],fun g=>(⟨.own b13 l.l.length [],g.1.2⟩:OwL Int).L 3 Jk ++ L,fun _=>R,fun g=>l.l.length - g.1.1⟩:Head {g:Nat×List Int // g.1≤l.l.length∧g.2=Zw l.l vals.l g.1})) (⟨(0,List.replicate l.l.length 0),by dsimp only;omega,rfl⟩) ?_;rintro ⟨⟨k,vs⟩,hk,hvs⟩ junk;try dsimp only
 dsimp only at hk hvs;have hvl:vs.length=l.l.length:=by rw [hvs];exact Ydf hk
 have hvk:(⟨.own b13 l.l.length [],vs⟩:OwL Int).ok 1 Jk:=by have:=Yw (f:=Jk) (wd:=1) (b:=b13) (n:=l.l.length) (x:=0) U2 zE;exact OwL.len_ok U2 this (by simp;exact hvl)
 apply (Xan);refine q_c ?_ ?_<;>intro hc1;·
  have hxg:=Ju (l:=l.l) (k:=k) default za;have hno:=Ued hr k za;have hvg:=Ju (l:=vs) (k:=k) 0 za;have hset:=fun (v:Int)=>V8f (l:=l.l) (vals:=vals.l) (k:=k) (v:=v) za;have hst:=Zhe (l:=l.l) (vals:=vals.l) (k:=k) za;rw [← hvs] at hset hst;rw [Ksc] at hno;obtain ⟨x,hx⟩:∃x,x=l.l.getD k default:=⟨_,rfl⟩;rw [← hx] at hxg hno hset hst;apply (Xa9);refine Jx zC rfl ?_;apply (Xdr);intro b7;apply qad∘Xb9;refine J7 (Jb (Ka (Jp (Jg ?_))));apply (Xax);refine q_c ?_ ?_<;>intro hc2;·
   apply Xck∘Xao∘Xaw;apply Us (G:=[_,_,_,_,_,_]) (j:=5) (cj:=44) rfl rfl zb rfl zmb rfl;·intro hg6;replace hg6:=qb hg6;have hcg:=Ju (l:=vals.l) (k:=x.cond.toNat) 0 za;exact (Xct∘Ujf∘qa7) zCd
   intro junk6;apply (qah);apply Us (G:=[_,_,_,_,_,_]) (j:=13) (cj:=52) rfl rfl zb rfl zmb rfl;·intro hg14;replace hg14:=qb hg14;have hcg:=Ju (l:=vals.l) (k:=x.cond.toNat) 0 za;exact (Xct∘Ujf∘qa7∘qbx) qai
   intro junk14;apply (qaf);refine q_c ?_ ?_<;>intro hc3;·have hcg:=Ju (l:=vals.l) (k:=x.cond.toNat) 0 za;apply Xcl∘Xct∘Ujf∘qa7∘Zef;refine V8 (Jt tb ((⟨.own b13 l.l.length [],vs⟩:OwL Int)) (vals.l.getD x.cond.toNat 0) rfl rfl rfl rfl zj zi yf zi ze zb zb) ?_;rintro v M U ⟨rfl,rfl⟩;refine J7 (Je (Je (Jb (Jg ?_))));apply (Xae);exact q_k ⟨(k + 1,vs.set k (vals.l.getD x.cond.toNat 0)),by dsimp only;omega,hset _ (by rw [Ude hc2,Uwd,if_pos za])⟩
   refine J1 (Je (Je (Jb (Jg ?_))));apply (Xae);exact q_k ⟨(k + 1,vs),by dsimp only;omega,hst (by rw [Ude hc2,Uwd,if_neg za])⟩
  apply (Xbj);refine q_c ?_ ?_<;>intro hc4;·(have hlt:x.left.toNat < k:=by omega);have hlg:=Vld (l:=l.l) (vals:=vals.l) hlt;rw [← hvs] at hlg;have hlr:=Yya (l:=l.l) (vals:=vals.l) k x.left.toNat;apply Xcl∘Xct;refine Jx zad rfl ?_;apply Uwg∘qcq∘Zef;refine V8 (Jt tb ((⟨.own b13 l.l.length [],vs⟩:OwL Int)) (-((U1 l.l vals.l k).getD x.left.toNat 0)) rfl rfl rfl rfl zj zi yf zi ze zb zb) ?_;rintro v M U ⟨rfl,rfl⟩;refine J7 (Je (Je (Jb (Jg ?_))));apply (Xae);exact q_k ⟨(k + 1,vs.set k (-((U1 l.l vals.l k).getD x.left.toNat 0))),by dsimp only;omega,hset _ (by rw [Uxf hc4])⟩
  have hlt:x.left.toNat < k:=by omega
  have hlg:=Vld (l:=l.l) (vals:=vals.l) hlt;have hrt:x.right.toNat < k:=by omega
  have hrg:=Vld (l:=l.l) (vals:=vals.l) hrt;rw [← hvs] at hlg hrg;apply (Xbj);refine q_c ?_ ?_<;>intro hc5;·apply Zqf∘Xdt∘Xdd∘Jpg∘Jjf∘Xdd∘Kog∘Jjf;refine Kr zPc rfl rfl rfl rfl ?_;apply Keg∘qba;refine Jlb (Jt tb ((⟨.own b13 l.l.length [],vs⟩:OwL Int)) (min ((U1 l.l vals.l k).getD x.left.toNat 0) ((U1 l.l vals.l k).getD x.right.toNat 0)) rfl rfl rfl rfl zj zi yf zi ze zb zb) rfl rfl ?_;rintro v M U ⟨rfl,rfl⟩;apply (qa1);refine J2 (Je (Je (Jb (Jg ?_))));apply (Xae);exact q_k ⟨(k + 1,vs.set k (min ((U1 l.l vals.l k).getD x.left.toNat 0) ((U1 l.l vals.l k).getD x.right.toNat 0))),by dsimp only;omega,hset _ (by rw [Vhf hc5])⟩
  apply Zqf∘Xdt∘Xdd∘Jpg∘Jjf∘Xdd∘Kog∘Jjf;refine Kr zhc rfl rfl rfl rfl ?_;apply Keg∘qba;refine Jlb (Jt tb ((⟨.own b13 l.l.length [],vs⟩:OwL Int)) (max ((U1 l.l vals.l k).getD x.left.toNat 0) ((U1 l.l vals.l k).getD x.right.toNat 0)) rfl rfl rfl rfl zj zi yf zi ze zb zb) rfl rfl ?_;rintro v M U ⟨rfl,rfl⟩;apply (qa1);refine J2 (Je (Je (Jb (Jg ?_))));apply (Xae);exact q_k ⟨(k + 1,vs.set k (max ((U1 l.l vals.l k).getD x.left.toNat 0) ((U1 l.l vals.l k).getD x.right.toNat 0))),by dsimp only;omega,hset _ (by rw [Vuf hc2 hc4 hc5])⟩
 obtain rfl:k=l.l.length:=by omega
 rw [Kkf] at hvs;have hvg:=Ju (l:=vs) (k:=l.l.length - 1) 0 za;have hev:Jla l.l vals.l=vs.getD (l.l.length - 1) 0:=by rw [Jla,if_pos hr,hvs]
 apply Xc7∘Xao∘qa9;refine Jx (Jw tb ((⟨.own b13 l.l.length [],vs⟩:OwL Int)) _ rfl rfl ((show _=Value.slice _ _ _ from rfl).trans (Ul hvl)) rfl zi (i:=l.l.length - 1) zk zw) rfl ?_;apply Uwg∘Xaj;refine q_i L R ?_;exact ⟨by rw [hev],rfl,rfl⟩
end
section
attribute [local irreducible] CJ LJ DJ Tri YV Gives Ur J3 Ko Uq RV J5 OwL.L
def Zkc (x:XSpan):Int:=if Jxe x=1 then x.low else if Jxe x= -1 then -x.high else 0
def J7e (r:XRoad) (fr:Int):Int:=1000 * r.len * r.area * fr
def Vcc (r:XRoad) (x:XSpan) (fr sec:Int):Prop:=J7e r fr=0∨0 < Zkc x∧J7e r fr≤Zkc x * sec
instance (r:XRoad) (x:XSpan) (fr sec:Int):Decidable (Vcc r x fr sec):=by unfold Vcc;infer_instance
def Yrf {x:XSpan} (h:Jxe x=1):Zkc x=x.low∧0 < x.low:=by
 refine ⟨by rw [Zkc,if_pos h],?_⟩;rw [Jxe] at h;split at h;·cases h
 split at h;·assumption
 split at h <;> cases h
def Ukf {x:XSpan} (h:Jxe x= -1):Zkc x= -x.high∧x.high < 0:=by
 refine ⟨by rw [Zkc,if_neg za,if_pos h],?_⟩;rw [Jxe] at h;split at h;·cases h
 split at h;·cases h
 split at h;·assumption
 ·cases h
def Zcf {x:XSpan} (h:Jxe x≠1) (h':Jxe x≠-1):Zkc x=0:=by rw [Zkc,if_neg h,if_neg h']
def Jkf {r:XRoad} {fr:Int} (h1:1≤r.len∧r.len≤100000) (h2:1≤r.area∧r.area≤1000) (h3:0≤fr∧fr≤100):
 (0≤1000 * r.len * r.area∧1000 * r.len * r.area≤100000000000)∧0≤1000 * r.len * r.area * fr∧1000 * r.len * r.area * fr≤10000000000000:=by have a0:0≤1000 * r.len * r.area:=yT za za;have a1:1000 * r.len * r.area≤100000000 * 1000:=yla za za za za;have b0:0≤1000 * r.len * r.area * fr:=yT a0 za;have b1:1000 * r.len * r.area * fr≤100000000000 * 100:=yla za za za za;omega
def Jmf {n s l:Int} (hn:1≤n) (hs:0 < s):(n + s - 1).tdiv s≤l↔n≤l * s:=by rw [yca za];have h:=Int.ediv_lt_iff_lt_mul (a:=n + s - 1) (b:=l + 1) hs;rw [Int.add_mul,Int.one_mul] at h;omega
def Udd (r:XRoad) (x:XSpan) (fr sec:Int) (L:LB) (R:LS) (h1:1≤r.len∧r.len≤100000) (h2:1≤r.area∧r.area≤1000) (h3:0≤fr∧fr≤100) (h4:0≤sec∧sec≤2147483648):
 Tri Tryz.prog 233 [r.val,x.val,.int .i64 fr,.int .i64 sec].toArray L R (fun v M U=>v=.bool (decide (Vcc r x fr sec))∧L=M∧R=U):=by
 have hN:=Jkf h1 h2 h3;refine Jd 44 Tryz.call233 Tryz.func233 rfl rfl rfl ?_;apply (Xaf);intro b4;apply (qax);intro b5;apply qaz∘Xd7∘qcm∘Xaa∘qcm∘Xdn∘Xdf∘Xbo;refine q_c ?_ ?_<;>intro hc0;·apply (Xc8);refine q_b L R ?_;exact ⟨by rw [decide_eq_true (p:=Vcc r x fr sec) (.inl hc0)],rfl,rfl⟩
 have hn1:1≤1000 * r.len * r.area * fr:=by omega
 apply qbo∘qaa∘Xbo;refine q_c ?_ ?_<;>intro hc1;·apply (Xc8);refine q_b L R ?_;refine ⟨by rw [decide_eq_false (p:=Vcc r x fr sec)];rintro (h | ⟨_,h⟩) <;> rw [J7e] at h;omega;rw [hc1,yoc] at h;omega,rfl,rfl⟩
 have hcl:=fun l=>Jmf (l:=l) hn1 (show 0 < sec by omega);have hq0:0≤(1000 * r.len * r.area * fr + sec - 1).tdiv sec:=Int.tdiv_nonneg za za;have hq1:(1000 * r.len * r.area * fr + sec - 1).tdiv sec≤100000000000000:=by rw [yca za];have:=ypb (a:=1000 * r.len * r.area * fr + sec - 1) sec za;omega
 apply qbv∘qaa∘Xa1∘qa9∘qaa∘qdd∘Xar∘qbe;refine q_l rfl (Uhc x _ _) ?_;refine J7 (Jb (Ka (Jp (Jg ?_))));apply (Xax);refine q_c ?_ ?_<;>intro hc2;·apply qae∘Xai∘qbz∘qaz∘qdb;refine q_b L R ?_;have hd:=Yrf hc2;refine ⟨congrArg Value.bool (decide_eq_decide.2 ?_),rfl,rfl⟩;rw [hcl,Vcc,J7e,hd.1];omega
 apply (Xbj);refine q_c ?_ ?_<;>intro hc3;·apply qae∘Xai∘qcq∘qbx∘qaz∘qdb;refine q_b L R ?_;have hd:=Ukf hc3;refine ⟨congrArg Value.bool (decide_eq_decide.2 ?_),rfl,rfl⟩;have:=hcl (-x.high);rw [Vcc,J7e,hd.1];omega
 refine J1 (Je (Jb (Jp (Jg ?_))));apply (Xbf);refine q_b L R ?_;have hd:=Zcf hc2 hc3;refine ⟨by rw [decide_eq_false (p:=Vcc r x fr sec)];rintro (h | ⟨h,_⟩);rw [J7e] at h;omega;omega,rfl,rfl⟩
end
end Go.Proofs.YtchfclmokpbldaaGreat
