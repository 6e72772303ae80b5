/-
  Merged texts. By an AI agent.
-/
import Derived.Test.YtchfclmokpbldaaGreatWinR
import Derived.Test.YtchfclmokpbldaaGreatRule
import Derived.Test.YtchfclmokpbldaaGreatSeqS
set_option linter.all false
set_option maxHeartbeats 4000000
set_option maxRecDepth 20000
namespace Go.Proofs.YtchfclmokpbldaaGreat
open Go.Aw Go
section
attribute [local irreducible] CJ LJ DJ Tri YV Gives U5 J2 Kn U6 RV J4 OwL.L
section
variable {A B:Prop}
def Yif(h:A→B:=by exact Jy zAb rfl):=h
def Vcg(h:B:=by exact ⟨by rw [Ue,if_neg za,if_neg za,if_neg za,if_neg za,if_neg za,e],rfl,rfl⟩):=h
def Jhg(h:A→B:=by exact Kt zmb rfl rfl rfl rfl):=h
end
def V4d {e:Int} (h:e=0):nzO e=none:=by rw [nzO,if_pos h]
def Ymc {e:Int} (h:e≠0):nzO e=some e:=by rw [nzO,if_neg h]
abbrev Z2f (s:XSite):XCond→Option Int:=fun c=>nzO (Kv s.sensors.l s.air.mine.roads.l.length c)
abbrev U4g (s:XSite):XZone→Option Int:=fun z=>nzO (Y8 s.conds.l.length s.air.mine.roads.l.length z)
abbrev Kef:Int→Option Int:=fun p=>if p < 1∨3 < p then some 19 else none
def Kqa (s:XSite) (L:LB) (R:LS) (hs:SiteR s R):
 Tri Tryz.prog 74 [s.val].toArray L R (fun v U J=>v=.int .i64 (Ue s)∧L=U∧R=J):=by
 have hsR:=hs.sensors;have hcR:=hs.conds;have hzR:=hs.zones;have hpR:=hs.persons;refine Je 90 Tryz.call74 Tryz.func74 rfl rfl rfl ?_;apply (Xaf);intro b1;apply Xar∘qab∘qa8;refine q_l rfl (Zc s.air _ _ hs.air) ?_;apply (Xbh);refine q_c ?_ ?_<;>intro hc0;·apply (Xdm);refine q_i L R ?_;exact ⟨by rw [Ue,if_pos hc0],rfl,rfl⟩
 apply qbo∘Xc8∘qah;apply J6 (G:=[_,_,_,_]) (j:=4) (cj:=23) rfl rfl zb rfl zsb rfl;·exact zZd
 intro junk5;apply (qah);apply J6 (G:=[_,_,_,_]) (j:=10) (cj:=29) rfl rfl zb rfl zsb rfl;·intro hg11;replace hg11:=qb hg11;exact (Xc8) qai
 intro junk11;apply (qah);apply J6 (G:=[_,_,_,_]) (j:=16) (cj:=35) rfl rfl zb rfl zsb rfl;·intro hg17;replace hg17:=qb hg17;exact (Xc8) qai
 intro junk17;apply (qaf);refine q_c ?_ ?_<;>intro hc1;·apply (Xba);refine q_i L R ?_;exact ⟨by rw [Ue,if_neg za,if_pos za],rfl,rfl⟩
 apply qbo∘Yif;refine q_l rfl (Yab s _ _ hsR za) ?_;apply (Xbh);refine q_c ?_ ?_<;>intro hc2;·apply (Xdm);refine q_i L R ?_;exact ⟨by rw [Ue,if_neg za,if_neg za,if_pos hc2],rfl,rfl⟩
 apply (Xc3);refine Jm [(1,.pointer _),(47,.slice _ _ _),(48,.int _ _),(49,.int _ _)] zh fun tq0=>?_;refine q_s ([2,6,7]++rg 49 11) (fun g:FS (Z2f s) (s.conds.l)=>[(49,.int .i64 ((g.1:Nat):Int))]) (fun g=>(s.conds.l).length - g.1) ⟨0,Zx _ _⟩ ?_;rintro ⟨k0,hk0,hp0⟩ junk;try dsimp only
 apply (Xam);refine q_c ?_ ?_<;>intro hc3;·
  obtain ⟨c,hc⟩:=Kh (l:=s.conds.l) (k:=k0) za;apply (qbb);refine Jy zX rfl ?_;refine Jy zhb rfl ?_;apply (qaq);intro b6;apply Xaz∘Yif;refine Jy (Jo (row:=[_,_,_,_,_,_]) tb rfl rfl rfl zf zb zb) rfl ?_;refine q_l rfl (Y5c s c _ _ hsR za) ?_;apply (Xbh);refine q_c ?_ ?_<;>intro hc4;·apply Xd1∘qbt;refine q_i L R ?_;(have e:Kpa s=Kv s.sensors.l s.air.mine.roads.l.length c:=by rw [Kpa,Yh (f:=Z2f s) hp0 hc (Ymc hc4)];rfl);exact ⟨by rw [Ue,if_neg za,if_neg za,if_neg za,if_pos (by rw [e];exact hc4),e],rfl,rfl⟩
  apply (Xaw);exact q_k ⟨k0 + 1,Zl hp0 hc (V4d za)⟩
 have hn0:=Zo hp0 za;refine K5 (Kj (K7 (J3 (Jb (Jq (Jq ?_))))));have hce:Kpa s=0:=by rw [Kpa,hn0];rfl
 apply qay∘Xay;refine Jm [(1,.pointer _),(61,.slice _ _ _),(62,.int _ _),(63,.int _ _)] zh fun tq1=>?_;refine q_s ([2,9,10]++rg 63 11) (fun g:FS (U4g s) (s.zones.l)=>[(63,.int .i64 ((g.1:Nat):Int))]) (fun g=>(s.zones.l).length - g.1) ⟨0,Zx _ _⟩ ?_;rintro ⟨k1,hk1,hp1⟩ junk;try dsimp only
 apply (Xam);refine q_c ?_ ?_<;>intro hc5;·
  obtain ⟨z,hz⟩:=Kh (l:=s.zones.l) (k:=k1) za;apply (qbb);refine Jy zza rfl ?_;apply (Xdo);intro b9;apply Xaz∘Yif∘qa8;refine q_l rfl (Vrc s z _ _ (InR.rule hzR hz) (InR.zroads hzR hz)) ?_;apply (Xbh);refine q_c ?_ ?_<;>intro hc6;·apply Xd1∘qbt;refine q_i L R ?_;(have e:Zk s=Y8 s.conds.l.length s.air.mine.roads.l.length z:=by rw [Zk,Yh (f:=U4g s) hp1 hz (Ymc hc6)];rfl);exact ⟨by rw [Ue,if_neg za,if_neg za,if_neg za,if_neg za,if_pos (by rw [e];exact hc6),e],rfl,rfl⟩
  apply (Xaw);exact q_k ⟨k1 + 1,Zl hp1 hz (V4d za)⟩
 have hn1:=Zo hp1 za;refine K5 (Kj (K7 (J3 (Jb (Jq (Jq ?_))))));have hze:Zk s=0:=by rw [Zk,hn1];rfl
 apply qay∘Xay;refine Jm [(75,.slice _ _ _),(76,.int _ _),(77,.int _ _)] zh fun tq2=>?_;refine q_s ([2,12]++rg 77 13) (fun g:FS (Kef) (s.persons.l)=>[(77,.int .i64 ((g.1:Nat):Int))]) (fun g=>(s.persons.l).length - g.1) ⟨0,Zx _ _⟩ ?_;rintro ⟨k2,hk2,hp2⟩ junk;try dsimp only
 apply (Xam);refine q_c ?_ ?_<;>intro hc7;·
  obtain ⟨p,hp⟩:=Kh (l:=s.persons.l) (k:=k2) za;apply (qbb);refine Jy zOa rfl ?_;refine Jy (by first | exact K3 (row:=[_]) tb rfl rfl rfl zu zg zb zb | exact Jo (row:=[_]) tb rfl rfl rfl zf zb zb) rfl ?_;apply (qaq);intro b12;apply Xaz∘Xbj;apply J6 (G:=[_,_,_]) (j:=3) (cj:=84) rfl rfl zb rfl zsb rfl;·exact zHd
  intro junk4;apply (qaf);refine q_c ?_ ?_<;>intro hc8;·apply (Xby);refine q_i L R ?_;(have e:Jza s=19:=by rw [Jza,Yh (f:=Kef) hp2 hp (show Kef p=some 19 from if_pos hc8)];rfl);exact Vcg
  apply (Xaw);exact q_k ⟨k2 + 1,Zl hp2 hp (show Kef p=none from if_neg za)⟩
 have hn2:=Zo hp2 za;apply (Xco);refine q_i L R ?_;have e:Jza s=0:=by rw [Jza,hn2];rfl
 exact Vcg
def Kbd (s:XSite) (m:Arr XMeas) (n t:Int) (L:LB) (R:LS) (hs:InR (Zbd s.sensors) R) (hm:InR (Yy m) R) (hok:∀x∈m.l,K9a x) (ht:0≤t∧t≤2147483648):
 Tri Tryz.prog 103 [s.val,m.val,.int .i64 n,.int .i64 t].toArray L R (fun v U J=>v=(Uca s.sensors.l m.l n t).val∧L=U∧R=J):=by
 refine Je 42 Tryz.call103 Tryz.func103 rfl rfl rfl ?_;apply (Xaf);intro b4;apply (qaq);intro b8;apply qaw∘qaa∘Xab;refine q_l rfl (Kja n (s.sensors.l.length:Int) _ _) ?_;apply (Xcq);apply J6 (G:=[_,_,_,_]) (j:=6) (cj:=15) rfl rfl zb rfl zsb rfl;·intro hg7;replace hg7:=qb hg7;exact (qaa∘Xaq) zhe
 intro junk7;apply (qah);apply J6 (G:=[_,_,_,_,_,_,_]) (j:=12) (cj:=21) rfl rfl zb rfl zsb rfl;·
  intro hg13;replace hg13:=qb hg13;have hmg:=Jn (l:=m.l) (k:=n.toNat) default (by (try simp at hg13);omega);apply (Xap);have hnn:0≤n∧n < m.l.length:=by (try simp at hg13);omega
  refine Jy zmb rfl ?_;exact (Xa9∘qaa) zNd
 intro junk13;apply (qaf);refine q_c ?_ ?_<;>intro hc0;·apply (qae);refine q_l rfl (Ud _ _) ?_;apply (Xdp);refine q_r L R zhd ?_;exact ⟨by rw [Uca,if_neg za],rfl,rfl⟩
 have hmg:=Jn (l:=m.l) (k:=n.toNat) default za;have hsg:=Jn (l:=s.sensors.l) (k:=n.toNat) default za;have hmo:=hok _ (yi hmg);apply (qcl);refine J7 tb [] [0,1,2,3,4,5,6,7,8,9,10] [11] ([Blk.mk b8 _ _,Blk.mk b4 _ _]) _ Kq zc zi (by (repeat (first | apply List.Sublist.cons (a:=Blk.mk b8 _ _) | apply List.Sublist.cons_cons));exact yt _) ?_;apply Xca∘Jhg;refine Kt zga rfl rfl rfl rfl ?_;apply Xdq∘Jhg;refine Kt zKa rfl rfl rfl rfl ?_;apply (qbf);refine K6 rfl (Ulf _ _ t _ _ hmo ht) rfl rfl ?_;rintro v U J ⟨rfl,rfl,rfl⟩;refine ⟨zi,zq,?_⟩;apply (Xcr);refine J1 (Jb (Uq ?_));refine q_r L R zhd ?_;exact ⟨by rw [Uca,if_pos za],rfl,rfl⟩
def K0d (x:XSpan) (L:LB) (R:LS):
 Tri Tryz.prog 231 [x.val].toArray L R (fun v U J=>v=.int .i64 (Uqa x)∧L=U∧R=J):=by
 refine Je 27 Tryz.call231 Tryz.func231 rfl rfl rfl ?_;apply (Xaf);intro b1;apply (qad);refine Kc (Jb (Jq (Kk (Jq (Jh ?_)))));apply Xa2∘qa5∘Xau;refine q_c ?_ ?_<;>intro hc0;·apply (Xbi);refine q_i L R ?_;exact yc
 apply Xcw∘Xcn;apply K9 (G:=[_,_,_]) (j:=3) (cj:=13) rfl rfl zb rfl zsb rfl;·exact zRe
 intro junk4;apply (Xau);refine q_c ?_ ?_<;>intro hc1;·apply (Xbi);refine q_i L R ?_;exact yc
 apply qae∘Xbg∘qah;apply J6 (G:=[_,_,_]) (j:=3) (cj:=22) rfl rfl zb rfl zsb rfl;·intro hg4;replace hg4:=qb hg4;exact zYd
 intro junk4;apply (Xau);refine q_c ?_ ?_<;>intro hc2;·apply (Xbi);refine q_i L R ?_;exact yc
 refine J5 (Ji (Jb (Jq (Jh ?_))));apply (Xak);refine q_i L R ?_;exact yc
def K5f (c:XCond) (w:XWatch) (x:XSpan) (L:LB) (R:LS):
 Tri Tryz.prog 229 [c.val,w.val,x.val].toArray L R (fun v U J=>v=.int .i64 (if w.over=false then -1 else if Kea x c.level.cut=1 then 1 else 0)∧L=U∧R=J):=by
 refine Je 18 Tryz.call229 Tryz.func229 rfl rfl rfl ?_;apply (Xaf);intro b3;apply (qax);intro b4;apply (qax);intro b5;apply (qad);refine Kc (Jb (Jq (Kk (Jq (Jh ?_)))));apply Xaa∘qb4∘Xau;refine q_c ?_ ?_<;>intro hc0;·apply (Xbi);refine q_i L R ?_;exact ⟨by rw [if_pos zI],rfl,rfl⟩
 apply qae∘qbe∘Xdr;refine q_l rfl (Jcc x c.level.cut _ _) ?_;apply (Xa6);refine q_c ?_ ?_<;>intro hc1;·apply (Xbi);refine q_i L R ?_;exact ⟨by rw [if_neg zI,if_pos hc1],rfl,rfl⟩
 refine J5 (Ji (Jb (Jq (Jh ?_))));apply (Xak);refine q_i L R ?_;exact ⟨by rw [if_neg zI,if_neg hc1],rfl,rfl⟩
end
section
attribute [local irreducible] CJ LJ DJ Tri YV Gives U5 J2 Kn U6 RV J4 OwL.L
section
variable {A B:Prop}
def Zqe(h:A→B:=by exact Kt zHc rfl rfl rfl rfl):=h
def Zgf(h:A→B:=by exact Jy (by first | exact Jd tb rfl rfl rfl rfl zu (i:=x.cond.toNat) zk za | exact Jl tb rfl rfl rfl rfl (i:=x.cond.toNat) zk za) rfl):=h
def K6g(h:A→B:=by exact Jy zod rfl):=h
def Kxg(h:A→B:=by exact Jy zHc rfl):=h
def K8g(h:A→B:=by exact J7 tb [] [0,1,2,3,4,5,6,7,8,9,10,11,12,13] [14] ((⟨b7,XNode.cells x,172⟩ :: ((⟨.own b13 l.l.length [],vs⟩:OwL Int).L 3 Jk ++ []))) _ Kq zc zi yd):=h
def K7g(h:A→B:=by exact Kt znd rfl rfl rfl rfl):=h
def Kag(h:A→B:=by exact Kt (Js tb ((⟨.own b13 l.l.length [],vs⟩:OwL Int)) _ rfl rfl ((show _=Value.slice _ _ _ from rfl).trans (Un hvl)) rfl zg (i:=x.right.toNat) zk zt) rfl rfl rfl rfl):=h
def Ulg(h:A→B:=by exact Kt zod rfl rfl rfl rfl):=h
end
def Zz (l:List XNode) (vals:List Int) (k:Nat):List Int:=Vd l vals k ++ List.replicate (l.length - k) 0
def Zqf {l:List XNode} {vals:List Int} {k:Nat} (h:k≤l.length):(Zz l vals k).length=l.length:=by rw [Zz,yl,Yx,yua];omega
def Vtf {l:List XNode} {vals:List Int} {k:Nat} {v:Int} (hk:k < l.length) (h:v=Yia vals (Vd l vals k) (l.getD k default)):(Zz l vals k).set k v=Zz l vals (k + 1):=by have hl:=Yx (l:=l) (vals:=vals) k;rw [Zz,Zz,Vd,← h,show l.length - k=(l.length - (k + 1)) + 1 by omega,ytb,List.set_append_right k v za,hl,yub,yZb];simp
def Zue {l:List XNode} {vals:List Int} {k:Nat} (hk:k < l.length) (h:Yia vals (Vd l vals k) (l.getD k default)=0):Zz l vals k=Zz l vals (k + 1):=by rw [Zz,Zz,Vd,h,show l.length - k=(l.length - (k + 1)) + 1 by omega,ytb];simp
def Vgd {l:List XNode} {vals:List Int} {k j:Nat} (h:j < k):(Zz l vals k)[j]?=some ((Vd l vals k).getD j 0):=by have hl:=Yx (l:=l) (vals:=vals) k;rw [Zz,yG za];exact Jn 0 za
def Uaf {l:List XNode} {vals:List Int}:Zz l vals l.length=Vd l vals l.length:=by rw [Zz,yub];simp
def Vae {vals v:List Int} {x:XNode} (h:x.kind=1):Yia vals v x=Ktd vals x.cond:=by rw [Yia,if_pos h]
def Ybf {vals v:List Int} {x:XNode} (h:x.kind=2):Yia vals v x= -(v.getD x.left.toNat 0):=by rw [Yia,if_neg za,if_pos h]
def Vpf {vals v:List Int} {x:XNode} (h:x.kind=3):Yia vals v x=min (v.getD x.left.toNat 0) (v.getD x.right.toNat 0):=by rw [Yia,if_neg za,if_neg za,if_pos h]
def Yhf {vals v:List Int} {x:XNode} (h1:¬ x.kind=1) (h2:¬ x.kind=2) (h3:¬ x.kind=3):Yia vals v x=max (v.getD x.left.toNat 0) (v.getD x.right.toNat 0):=by rw [Yia,if_neg h1,if_neg h2,if_neg h3]
def K8c (l:Arr XNode) (vals:Arr Int) (L:LB) (R:LS) (hl:InR (Zbe l) R) (hv:InR (isl vals) R):
 Tri Tryz.prog 160 [l.val,vals.val].toArray L R (fun v U J=>v=.int .i64 (Z6a l.l vals.l)∧L=U∧R=J):=by
 refine Je 102 Tryz.call160 Tryz.func160 rfl rfl rfl ?_;apply Xae∘qaw∘qbm;refine q_l rfl (J1c l _ _ hl) ?_;apply (Xbl);refine q_c ?_ ?_<;>intro hc0;·apply (Xba);refine q_i L R ?_;exact ⟨by rw [Z6a,if_neg zI],rfl,rfl⟩
 have hr:Uya l.l=true:=by simpa using hc0
 have hln:=(Utb.1 hr).1;apply qbv∘Xaq∘qc7;rintro v U J ⟨b13,rfl,rfl,hR13⟩;replace hR13:=hR13.symm;subst hR13;apply (Xd5);refine U4 (Yg (f:=Jk) (x:=0) rfl _) ?_;apply qay∘Xbz;refine Jm [(1,.slice _ _ _),(5,.slice _ _ _),(14,.slice _ _ _),(15,.int _ _),(16,.int _ _)] zh fun tq0=>?_;refine q_p ([6,7]++rg 16 80) ((⟨fun g=>[(16,.int .i64 ((g.1.1:Nat):Int))],fun g=>(⟨.own b13 l.l.length [],g.1.2⟩:OwL Int).L 3 Jk ++ L,fun _=>R,fun g=>l.l.length - g.1.1⟩:Head {g:Nat×List Int // g.1≤l.l.length∧g.2=Zz l.l vals.l g.1})) (⟨(0,List.replicate l.l.length 0),by dsimp only;omega,rfl⟩) ?_;rintro ⟨⟨k,vs⟩,hk,hvs⟩ junk;try dsimp only
 dsimp only at hk hvs;have hvl:vs.length=l.l.length:=by rw [hvs];exact Zqf hk
 have hvk:(⟨.own b13 l.l.length [],vs⟩:OwL Int).ok 1 Jk:=by have:=Yc (f:=Jk) (wd:=1) (b:=b13) (n:=l.l.length) (x:=0) Vh zD;exact OwL.len_ok Vh this (by simp;exact hvl)
 apply (Xam);refine q_c ?_ ?_<;>intro hc1;·
  have hxg:=Jn (l:=l.l) (k:=k) default za;have hno:=Vwd hr k za;have hvg:=Jn (l:=vs) (k:=k) 0 za;have hset:=fun (v:Int)=>Vtf (l:=l.l) (vals:=vals.l) (k:=k) (v:=v) za;have hst:=Zue (l:=l.l) (vals:=vals.l) (k:=k) za;rw [← hvs] at hset hst;rw [U5c] at hno;obtain ⟨x,hx⟩:∃x,x=l.l.getD k default:=⟨_,rfl⟩;rw [← hx] at hxg hno hset hst;apply (Xa1);refine Jy zC rfl ?_;apply (Xdo);intro b7;apply qad∘Xcd;refine Kc (Jb (Kk (Jq (Jh ?_))));apply (Xa6);refine q_c ?_ ?_<;>intro hc2;·
   apply Xcw∘Xaq∘Xav;apply K9 (G:=[_,_,_,_,_,_]) (j:=5) (cj:=44) rfl rfl zb rfl zsb rfl;·intro hg6;replace hg6:=qb hg6;have hcg:=Jn (l:=vals.l) (k:=x.cond.toNat) 0 za;exact (Xb4∘Zgf∘qa7) zhe
   intro junk6;apply (qah);apply K9 (G:=[_,_,_,_,_,_]) (j:=13) (cj:=52) rfl rfl zb rfl zsb rfl;·intro hg14;replace hg14:=qb hg14;have hcg:=Jn (l:=vals.l) (k:=x.cond.toNat) 0 za;exact (Xb4∘Zgf∘qa7) zye
   intro junk14;apply (qaf);refine q_c ?_ ?_<;>intro hc3;·have hcg:=Jn (l:=vals.l) (k:=x.cond.toNat) 0 za;apply Xb5∘Xb4∘Zgf∘qa7∘K6g;refine V6 (Ju tb ((⟨.own b13 l.l.length [],vs⟩:OwL Int)) (vals.l.getD x.cond.toNat 0) rfl rfl rfl rfl zj zg yf zg ze zb zb) ?_;rintro v U J ⟨rfl,rfl⟩;refine Kc (Ji (Ji (Jb (Jh ?_))));apply (Xad);exact q_k ⟨(k + 1,vs.set k (vals.l.getD x.cond.toNat 0)),by dsimp only;omega,hset _ (by rw [Vae hc2,Ktd,if_pos za])⟩
   refine J5 (Ji (Ji (Jb (Jh ?_))));apply (Xad);exact q_k ⟨(k + 1,vs),by dsimp only;omega,hst (by rw [Vae hc2,Ktd,if_neg za])⟩
  apply (Xbx);refine q_c ?_ ?_<;>intro hc4;·(have hlt:x.left.toNat < k:=by omega);have hlg:=Vgd (l:=l.l) (vals:=vals.l) hlt;rw [← hvs] at hlg;have hlr:=Zia (l:=l.l) (vals:=vals.l) k x.left.toNat;apply Xb5∘Xb4;refine Jy znd rfl ?_;apply Kxg∘qcq∘K6g;refine V6 (Ju tb ((⟨.own b13 l.l.length [],vs⟩:OwL Int)) (-((Vd l.l vals.l k).getD x.left.toNat 0)) rfl rfl rfl rfl zj zg yf zg ze zb zb) ?_;rintro v U J ⟨rfl,rfl⟩;refine Kc (Ji (Ji (Jb (Jh ?_))));apply (Xad);exact q_k ⟨(k + 1,vs.set k (-((Vd l.l vals.l k).getD x.left.toNat 0))),by dsimp only;omega,hset _ (by rw [Ybf hc4])⟩
  have hlt:x.left.toNat < k:=by omega
  have hlg:=Vgd (l:=l.l) (vals:=vals.l) hlt;have hrt:x.right.toNat < k:=by omega
  have hrg:=Vgd (l:=l.l) (vals:=vals.l) hrt;rw [← hvs] at hlg hrg;apply (Xbx);refine q_c ?_ ?_<;>intro hc5;·apply K8g∘Xdq∘Xcx∘K7g∘Zqe∘Xcx∘Kag∘Zqe;refine Kt (Jsc rfl rfl) rfl rfl rfl rfl ?_;apply Ulg∘qba;refine Kjb (Ju tb ((⟨.own b13 l.l.length [],vs⟩:OwL Int)) (min ((Vd l.l vals.l k).getD x.left.toNat 0) ((Vd l.l vals.l k).getD x.right.toNat 0)) rfl rfl rfl rfl zj zg yf zg ze zb zb) rfl rfl ?_;rintro v U J ⟨rfl,rfl⟩;apply (qa1);refine J1 (Ji (Ji (Jb (Jh ?_))));apply (Xad);exact q_k ⟨(k + 1,vs.set k (min ((Vd l.l vals.l k).getD x.left.toNat 0) ((Vd l.l vals.l k).getD x.right.toNat 0))),by dsimp only;omega,hset _ (by rw [Vpf hc5])⟩
  apply K8g∘Xdq∘Xcx∘K7g∘Zqe∘Xcx∘Kag∘Zqe;refine Kt ztc rfl rfl rfl rfl ?_;apply Ulg∘qba;refine Kjb (Ju tb ((⟨.own b13 l.l.length [],vs⟩:OwL Int)) (max ((Vd l.l vals.l k).getD x.left.toNat 0) ((Vd l.l vals.l k).getD x.right.toNat 0)) rfl rfl rfl rfl zj zg yf zg ze zb zb) rfl rfl ?_;rintro v U J ⟨rfl,rfl⟩;apply (qa1);refine J1 (Ji (Ji (Jb (Jh ?_))));apply (Xad);exact q_k ⟨(k + 1,vs.set k (max ((Vd l.l vals.l k).getD x.left.toNat 0) ((Vd l.l vals.l k).getD x.right.toNat 0))),by dsimp only;omega,hset _ (by rw [Yhf hc2 hc4 hc5])⟩
 obtain rfl:k=l.l.length:=by omega
 rw [Uaf] at hvs;have hvg:=Jn (l:=vs) (k:=l.l.length - 1) 0 za;have hev:Z6a l.l vals.l=vs.getD (l.l.length - 1) 0:=by rw [Z6a,if_pos hr,hvs]
 apply Xcm∘Xaq∘qa9;refine Jy (Js tb ((⟨.own b13 l.l.length [],vs⟩:OwL Int)) _ rfl rfl ((show _=Value.slice _ _ _ from rfl).trans (Un hvl)) rfl zg (i:=l.l.length - 1) zk zt) rfl ?_;apply Kxg∘Xak;refine q_i L R ?_;exact ⟨by rw [hev],rfl,rfl⟩
end
section
attribute [local irreducible] CJ LJ DJ Tri YV Gives U5 J2 Kn U6 RV J4 OwL.L
def Jgd (x:XSpan):Int:=if Kpd x=1 then x.low else if Kpd x= -1 then -x.high else 0
def J8e (r:XRoad) (fr:Int):Int:=1000 * r.len * r.area * fr
def V7c (r:XRoad) (x:XSpan) (fr sec:Int):Prop:=J8e r fr=0∨0 < Jgd x∧J8e r fr≤Jgd x * sec
instance (r:XRoad) (x:XSpan) (fr sec:Int):Decidable (V7c r x fr sec):=by unfold V7c;infer_instance
def Zaf {x:XSpan} (h:Kpd x=1):Jgd x=x.low∧0 < x.low:=by
 refine ⟨by rw [Jgd,if_pos h],?_⟩;rw [Kpd] at h;split at h;·cases h
 split at h;·assumption
 split at h <;> cases h
def Yof {x:XSpan} (h:Kpd x= -1):Jgd x= -x.high∧x.high < 0:=by
 refine ⟨by rw [Jgd,if_neg za,if_pos h],?_⟩;rw [Kpd] at h;split at h;·cases h
 split at h;·cases h
 split at h;·assumption
 ·cases h
def Jyg {x:XSpan} (h:Kpd x≠1) (h':Kpd x≠-1):Jgd x=0:=by rw [Jgd,if_neg h,if_neg h']
def Jzf {r:XRoad} {fr:Int} (h1:1≤r.len∧r.len≤100000) (h2:1≤r.area∧r.area≤1000) (h3:0≤fr∧fr≤100):
 (0≤1000 * r.len * r.area∧1000 * r.len * r.area≤100000000000)∧0≤1000 * r.len * r.area * fr∧1000 * r.len * r.area * fr≤10000000000000:=by have a0:0≤1000 * r.len * r.area:=yT za za;have a1:1000 * r.len * r.area≤100000000 * 1000:=yka za za za za;have b0:0≤1000 * r.len * r.area * fr:=yT a0 za;have b1:1000 * r.len * r.area * fr≤100000000000 * 100:=yka za za za za;omega
def Kqf {n s l:Int} (hn:1≤n) (hs:0 < s):(n + s - 1).tdiv s≤l↔n≤l * s:=by rw [yda za];have h:=Int.ediv_lt_iff_lt_mul (a:=n + s - 1) (b:=l + 1) hs;rw [Int.add_mul,Int.one_mul] at h;omega
def Kqd (r:XRoad) (x:XSpan) (fr sec:Int) (L:LB) (R:LS) (h1:1≤r.len∧r.len≤100000) (h2:1≤r.area∧r.area≤1000) (h3:0≤fr∧fr≤100) (h4:0≤sec∧sec≤2147483648):
 Tri Tryz.prog 233 [r.val,x.val,.int .i64 fr,.int .i64 sec].toArray L R (fun v U J=>v=.bool (decide (V7c r x fr sec))∧L=U∧R=J):=by
 have hN:=Jzf h1 h2 h3;refine Je 44 Tryz.call233 Tryz.func233 rfl rfl rfl ?_;apply (Xaf);intro b4;apply (qax);intro b5;apply Xbn∘Xaa∘qcm∘Xaa∘qcm∘Xdl∘Xck∘Xbu;refine q_c ?_ ?_<;>intro hc0;·apply Xcc∘qbh;refine q_b L R ?_;exact ⟨by rw [decide_eq_true (p:=V7c r x fr sec) (.inl hc0)],rfl,rfl⟩
 have hn1:1≤1000 * r.len * r.area * fr:=by omega
 apply Xc4∘Xbu;refine q_c ?_ ?_<;>intro hc1;·apply Xcc∘qbh;refine q_b L R ?_;refine ⟨by rw [decide_eq_false (p:=V7c r x fr sec)];rintro (h | ⟨_,h⟩) <;> rw [J8e] at h;omega;rw [hc1,ykc] at h;omega,rfl,rfl⟩
 have hcl:=fun l=>Kqf (l:=l) hn1 (show 0 < sec by omega);have hq0:0≤(1000 * r.len * r.area * fr + sec - 1).tdiv sec:=Int.tdiv_nonneg za za;have hq1:(1000 * r.len * r.area * fr + sec - 1).tdiv sec≤100000000000000:=by rw [yda za];have:=yqb (a:=1000 * r.len * r.area * fr + sec - 1) sec za;omega
 apply Xd6∘Xa0∘qa9∘qaa∘qdd∘Xar∘qbe;refine q_l rfl (Kcb x _ _) ?_;refine Kc (Jb (Kk (Jq (Jh ?_))));apply (Xa6);refine q_c ?_ ?_<;>intro hc2;·apply qae∘Xah∘qbz∘qaz∘qdb;refine q_b L R ?_;have hd:=Zaf hc2;refine ⟨congrArg Value.bool (decide_eq_decide.2 ?_),rfl,rfl⟩;rw [hcl,V7c,J8e,hd.1];omega
 apply (Xbx);refine q_c ?_ ?_<;>intro hc3;·apply qae∘Xah∘qcq∘qbx∘qaz∘qdb;refine q_b L R ?_;have hd:=Yof hc3;refine ⟨congrArg Value.bool (decide_eq_decide.2 ?_),rfl,rfl⟩;have:=hcl (-x.high);rw [V7c,J8e,hd.1];omega
 refine J5 (Ji (Jb (Jq (Jh ?_))));apply (Xbb);refine q_b L R ?_;have hd:=Jyg hc2 hc3;refine ⟨by rw [decide_eq_false (p:=V7c r x fr sec)];rintro (h | ⟨h,_⟩);rw [J8e] at h;omega;omega,rfl,rfl⟩
end
end Go.Proofs.YtchfclmokpbldaaGreat
