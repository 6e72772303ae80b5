/-
  Merged texts. By an AI agent.
-/
import Derived.Test.YtchfclmokpbldaaGreatWinR
import Derived.Test.YtchfclmokpbldaaGreatRule
import Derived.Test.YtchfclmokpbldaaGreatCongrS
set_option linter.all false
set_option maxHeartbeats 4000000
set_option maxRecDepth 20000
namespace Go.Proofs.YtchfclmokpbldaaGreat
open Go.Aw Go
section
attribute [local irreducible] CJ LJ DJ Tri YV Gives Uq J2 Kj Ut RV J3 OwL.L
section
variable {A B:Prop}
def Vvf(h:A→B:=by exact Jw zvb rfl):=h
def Z0f(h:B:=by exact ⟨by rw [Uf,if_neg za,if_neg za,if_neg za,if_neg za,if_neg za,e],rfl,rfl⟩):=h
def Kbg(h:A→B:=by exact Ku zgb rfl rfl rfl rfl):=h
end
def Yed {e:Int} (h:e=0):nzO e=none:=by rw [nzO,if_pos h]
def Ujc {e:Int} (h:e≠0):nzO e=some e:=by rw [nzO,if_neg h]
abbrev Z6f (s:XSite):XCond→Option Int:=fun c=>nzO (Kv s.sensors.l s.air.mine.roads.l.length c)
abbrev Zif (s:XSite):XZone→Option Int:=fun z=>nzO (Y5 s.conds.l.length s.air.mine.roads.l.length z)
abbrev Jdf:Int→Option Int:=fun p=>if p < 1∨3 < p then some 19 else none
def Kia (s:XSite) (L:LB) (R:LS) (hs:SiteR s R):
 Tri Tryz.prog 74 [s.val].toArray L R (fun v U J=>v=.int .i64 (Uf s)∧L=U∧R=J):=by
 have hsR:=hs.sensors;have hcR:=hs.conds;have hzR:=hs.zones;have hpR:=hs.persons;refine Je 90 Tryz.call74 Tryz.func74 rfl rfl rfl ?_;apply (Xaf);intro b1;apply Xar∘qab∘qa8;refine q_l rfl (Z1 s.air _ _ hs.air) ?_;apply (Xbb);refine q_c ?_ ?_<;>intro hc0;·apply (Xdx);refine q_i L R ?_;exact ⟨by rw [Uf,if_pos hc0],rfl,rfl⟩
 apply qbo∘Xdj∘qah;apply Kf (G:=[_,_,_,_]) (j:=4) (cj:=23) rfl rfl zb rfl zmb rfl;·exact zId
 intro junk5;apply (qah);apply Kf (G:=[_,_,_,_]) (j:=10) (cj:=29) rfl rfl zb rfl zmb rfl;·intro hg11;replace hg11:=qb hg11;exact (Xdj) qai
 intro junk11;apply (qah);apply Kf (G:=[_,_,_,_]) (j:=16) (cj:=35) rfl rfl zb rfl zmb rfl;·intro hg17;replace hg17:=qb hg17;exact (Xdj) qai
 intro junk17;apply (qaf);refine q_c ?_ ?_<;>intro hc1;·apply (Xa8);refine q_i L R ?_;exact ⟨by rw [Uf,if_neg za,if_pos za],rfl,rfl⟩
 apply qbo∘Vvf;refine q_l rfl (Vnb s _ _ hsR za) ?_;apply (Xbb);refine q_c ?_ ?_<;>intro hc2;·apply (Xdx);refine q_i L R ?_;exact ⟨by rw [Uf,if_neg za,if_neg za,if_pos hc2],rfl,rfl⟩
 apply (Xc2);refine Jm [(1,.pointer _),(47,.slice _ _ _),(48,.int _ _),(49,.int _ _)] zh fun tq0=>?_;refine q_s ([2,6,7]++rg 49 11) (fun g:FS (Z6f s) (s.conds.l)=>[(49,.int .i64 ((g.1:Nat):Int))]) (fun g=>(s.conds.l).length - g.1) ⟨0,Kva _ _⟩ ?_;rintro ⟨k0,hk0,hp0⟩ junk;try dsimp only
 apply (Xaj);refine q_c ?_ ?_<;>intro hc3;·
  obtain ⟨c,hc⟩:=Kn (l:=s.conds.l) (k:=k0) za;apply (qbb);refine Jw zea rfl ?_;refine Jw zdb rfl ?_;apply (qaq);intro b6;apply Xaz∘Vvf;refine Jw (Js (row:=[_,_,_,_,_,_]) tb rfl rfl rfl zf zb zb) rfl ?_;refine q_l rfl (Uwc s c _ _ hsR za) ?_;apply (Xbb);refine q_c ?_ ?_<;>intro hc4;·apply Xdv∘qbt;refine q_i L R ?_;(have e:Kka s=Kv s.sensors.l s.air.mine.roads.l.length c:=by rw [Kka,Zq (f:=Z6f s) hp0 hc (Ujc hc4)];rfl);exact ⟨by rw [Uf,if_neg za,if_neg za,if_neg za,if_pos (by rw [e];exact hc4),e],rfl,rfl⟩
  apply (Xaw);exact q_k ⟨k0 + 1,J7a hp0 hc (Yed za)⟩
 have hn0:=J8a hp0 za;refine K9 (Km (Uc (J6 (Jb (Jq (Jq ?_))))));have hce:Kka s=0:=by rw [Kka,hn0];rfl
 apply qay∘Xay;refine Jm [(1,.pointer _),(61,.slice _ _ _),(62,.int _ _),(63,.int _ _)] zh fun tq1=>?_;refine q_s ([2,9,10]++rg 63 11) (fun g:FS (Zif s) (s.zones.l)=>[(63,.int .i64 ((g.1:Nat):Int))]) (fun g=>(s.zones.l).length - g.1) ⟨0,Kva _ _⟩ ?_;rintro ⟨k1,hk1,hp1⟩ junk;try dsimp only
 apply (Xaj);refine q_c ?_ ?_<;>intro hc5;·
  obtain ⟨z,hz⟩:=Kn (l:=s.zones.l) (k:=k1) za;apply (qbb);refine Jw zOa rfl ?_;apply (Xdk);intro b9;apply Xaz∘Vvf∘qa8;refine q_l rfl (Vwc s z _ _ (InR.rule hzR hz) (InR.zroads hzR hz)) ?_;apply (Xbb);refine q_c ?_ ?_<;>intro hc6;·apply Xdv∘qbt;refine q_i L R ?_;(have e:Zb s=Y5 s.conds.l.length s.air.mine.roads.l.length z:=by rw [Zb,Zq (f:=Zif s) hp1 hz (Ujc hc6)];rfl);exact ⟨by rw [Uf,if_neg za,if_neg za,if_neg za,if_neg za,if_pos (by rw [e];exact hc6),e],rfl,rfl⟩
  apply (Xaw);exact q_k ⟨k1 + 1,J7a hp1 hz (Yed za)⟩
 have hn1:=J8a hp1 za;refine K9 (Km (Uc (J6 (Jb (Jq (Jq ?_))))));have hze:Zb s=0:=by rw [Zb,hn1];rfl
 apply qay∘Xay;refine Jm [(75,.slice _ _ _),(76,.int _ _),(77,.int _ _)] zh fun tq2=>?_;refine q_s ([2,12]++rg 77 13) (fun g:FS (Jdf) (s.persons.l)=>[(77,.int .i64 ((g.1:Nat):Int))]) (fun g=>(s.persons.l).length - g.1) ⟨0,Kva _ _⟩ ?_;rintro ⟨k2,hk2,hp2⟩ junk;try dsimp only
 apply (Xaj);refine q_c ?_ ?_<;>intro hc7;·
  obtain ⟨p,hp⟩:=Kn (l:=s.persons.l) (k:=k2) za;apply (qbb);refine Jw zPa rfl ?_;refine Jw (by first | exact K4 (row:=[_]) tb rfl rfl rfl zu zg zb zb | exact Js (row:=[_]) tb rfl rfl rfl zf zb zb) rfl ?_;apply (qaq);intro b12;apply Xaz∘Xbm;apply Kf (G:=[_,_,_]) (j:=3) (cj:=84) rfl rfl zb rfl zmb rfl;·exact zpd
  intro junk4;apply (qaf);refine q_c ?_ ?_<;>intro hc8;·apply (Xcf);refine q_i L R ?_;(have e:Jla s=19:=by rw [Jla,Zq (f:=Jdf) hp2 hp (show Jdf p=some 19 from if_pos hc8)];rfl);exact Z0f
  apply (Xaw);exact q_k ⟨k2 + 1,J7a hp2 hp (show Jdf p=none from if_neg za)⟩
 have hn2:=J8a hp2 za;apply (Xcq);refine q_i L R ?_;have e:Jla s=0:=by rw [Jla,hn2];rfl
 exact Z0f
def Y1c (s:XSite) (m:Arr XMeas) (n t:Int) (L:LB) (R:LS) (hs:InR (Jbe s.sensors) R) (hm:InR (Yu m) R) (hok:∀x∈m.l,K5a x) (ht:0≤t∧t≤2147483648):
 Tri Tryz.prog 103 [s.val,m.val,.int .i64 n,.int .i64 t].toArray L R (fun v U J=>v=(K0a s.sensors.l m.l n t).val∧L=U∧R=J):=by
 refine Je 42 Tryz.call103 Tryz.func103 rfl rfl rfl ?_;apply (Xaf);intro b4;apply (qaq);intro b8;apply qaw∘qaa∘Xab;refine q_l rfl (J9a n (s.sensors.l.length:Int) _ _) ?_;apply (Xcm);apply Kf (G:=[_,_,_,_]) (j:=6) (cj:=15) rfl rfl zb rfl zmb rfl;·intro hg7;replace hg7:=qb hg7;exact (qaa∘Xap) zyd
 intro junk7;apply (qah);apply Kf (G:=[_,_,_,_,_,_,_]) (j:=12) (cj:=21) rfl rfl zb rfl zmb rfl;·
  intro hg13;replace hg13:=qb hg13;have hmg:=Jp (l:=m.l) (k:=n.toNat) default (by (try simp at hg13);omega);apply (Xaq);have hnn:0≤n∧n < m.l.length:=by (try simp at hg13);omega
  refine Jw zgb rfl ?_;exact (Xbc∘qaa) zvd
 intro junk13;apply (qaf);refine q_c ?_ ?_<;>intro hc0;·apply (qae);refine q_l rfl (Ub _ _) ?_;apply (Xdb);refine q_r L R zQc ?_;exact ⟨by rw [K0a,if_neg za],rfl,rfl⟩
 have hmg:=Jp (l:=m.l) (k:=n.toNat) default za;have hsg:=Jp (l:=s.sensors.l) (k:=n.toNat) default za;have hmo:=hok _ (yh hmg);apply (qcl);refine J7 tb [] [0,1,2,3,4,5,6,7,8,9,10] [11] ([Blk.mk b8 _ _,Blk.mk b4 _ _]) _ Ko zc zi (by (repeat (first | apply List.Sublist.cons (a:=Blk.mk b8 _ _) | apply List.Sublist.cons_cons));exact yt _) ?_;apply Xcb∘Kbg;refine Ku zda rfl rfl rfl rfl ?_;apply Xdl∘Kbg;refine Ku zLa rfl rfl rfl rfl ?_;apply (qbf);refine K7 rfl (K8f _ _ t _ _ hmo ht) rfl rfl ?_;rintro v U J ⟨rfl,rfl,rfl⟩;refine ⟨zi,zt,?_⟩;apply (Xcs);refine J1 (Jb (Uk ?_));refine q_r L R zQc ?_;exact ⟨by rw [K0a,if_pos za],rfl,rfl⟩
def Und (x:XSpan) (L:LB) (R:LS):
 Tri Tryz.prog 231 [x.val].toArray L R (fun v U J=>v=.int .i64 (Uja x)∧L=U∧R=J):=by
 refine Je 27 Tryz.call231 Tryz.func231 rfl rfl rfl ?_;apply (Xaf);intro b1;apply (qad);refine J9 (Jb (Jq (Ki (Jq (Jg ?_)))));apply Xa0∘qa5∘Xas;refine q_c ?_ ?_<;>intro hc0;·apply (Xbe);refine q_i L R ?_;exact yc
 apply Xcr∘Xcl;apply Ui (G:=[_,_,_]) (j:=3) (cj:=13) rfl rfl zb rfl zmb rfl;·exact zJd
 intro junk4;apply (Xas);refine q_c ?_ ?_<;>intro hc1;·apply (Xbe);refine q_i L R ?_;exact yc
 apply qae∘Xbg∘qah;apply Kf (G:=[_,_,_]) (j:=3) (cj:=22) rfl rfl zb rfl zmb rfl;·intro hg4;replace hg4:=qb hg4;exact zHd
 intro junk4;apply (Xas);refine q_c ?_ ?_<;>intro hc2;·apply (Xbe);refine q_i L R ?_;exact yc
 refine J5 (Jh (Jb (Jq (Jg ?_))));apply (Xam);refine q_i L R ?_;exact yc
def Jmf (c:XCond) (w:XWatch) (x:XSpan) (L:LB) (R:LS):
 Tri Tryz.prog 229 [c.val,w.val,x.val].toArray L R (fun v U J=>v=.int .i64 (if w.over=false then -1 else if J2a x c.level.cut=1 then 1 else 0)∧L=U∧R=J):=by
 refine Je 18 Tryz.call229 Tryz.func229 rfl rfl rfl ?_;apply (Xaf);intro b3;apply (qax);intro b4;apply (qax);intro b5;apply (qad);refine J9 (Jb (Jq (Ki (Jq (Jg ?_)))));apply Xaa∘qb4∘Xas;refine q_c ?_ ?_<;>intro hc0;·apply (Xbe);refine q_i L R ?_;exact ⟨by rw [if_pos zF],rfl,rfl⟩
 apply qae∘qbe∘Xdc;refine q_l rfl (Zjb x c.level.cut _ _) ?_;apply (Xa2);refine q_c ?_ ?_<;>intro hc1;·apply (Xbe);refine q_i L R ?_;exact ⟨by rw [if_neg zF,if_pos hc1],rfl,rfl⟩
 refine J5 (Jh (Jb (Jq (Jg ?_))));apply (Xam);refine q_i L R ?_;exact ⟨by rw [if_neg zF,if_neg hc1],rfl,rfl⟩
end
section
attribute [local irreducible] CJ LJ DJ Tri YV Gives Uq J2 Kj Ut RV J3 OwL.L
section
variable {A B:Prop}
def Jvf(h:A→B:=by exact Ku zsc rfl rfl rfl rfl):=h
def U5f(h:A→B:=by exact Jw (by first | exact Jd tb rfl rfl rfl rfl zu (i:=x.cond.toNat) zk za | exact Jl tb rfl rfl rfl rfl (i:=x.cond.toNat) zk za) rfl):=h
def Uag(h:A→B:=by exact Jw zXc rfl):=h
def J2g(h:A→B:=by exact Jw zsc rfl):=h
def Kug(h:A→B:=by exact J7 tb [] [0,1,2,3,4,5,6,7,8,9,10,11,12,13] [14] ((⟨b7,XNode.cells x,172⟩ :: ((⟨.own b13 l.l.length [],vs⟩:OwL Int).L 3 Jj ++ []))) _ Ko zc zi yd):=h
def Jkg(h:A→B:=by exact Ku zWc rfl rfl rfl rfl):=h
def Jdg(h:A→B:=by exact Ku (Jo tb ((⟨.own b13 l.l.length [],vs⟩:OwL Int)) _ rfl rfl ((show _=Value.slice _ _ _ from rfl).trans (K6 hvl)) rfl zg (i:=x.right.toNat) zk zp) rfl rfl rfl rfl):=h
def Uyg(h:A→B:=by exact Ku zXc rfl rfl rfl rfl):=h
end
def Zl (l:List XNode) (vals:List Int) (k:Nat):List Int:=U8 l vals k ++ List.replicate (l.length - k) 0
def Udf {l:List XNode} {vals:List Int} {k:Nat} (h:k≤l.length):(Zl l vals k).length=l.length:=by rw [Zl,yl,Yo,yta];omega
def Uef {l:List XNode} {vals:List Int} {k:Nat} {v:Int} (hk:k < l.length) (h:v=Vka vals (U8 l vals k) (l.getD k default)):(Zl l vals k).set k v=Zl l vals (k + 1):=by have hl:=Yo (l:=l) (vals:=vals) k;rw [Zl,Zl,U8,← h,show l.length - k=(l.length - (k + 1)) + 1 by omega,yvb,List.set_append_right k v za,hl,ync,yzb];simp
def Zse {l:List XNode} {vals:List Int} {k:Nat} (hk:k < l.length) (h:Vka vals (U8 l vals k) (l.getD k default)=0):Zl l vals k=Zl l vals (k + 1):=by rw [Zl,Zl,U8,h,show l.length - k=(l.length - (k + 1)) + 1 by omega,yvb];simp
def Kkd {l:List XNode} {vals:List Int} {k j:Nat} (h:j < k):(Zl l vals k)[j]?=some ((U8 l vals k).getD j 0):=by have hl:=Yo (l:=l) (vals:=vals) k;rw [Zl,yP za];exact Jp 0 za
def Y7e {l:List XNode} {vals:List Int}:Zl l vals l.length=U8 l vals l.length:=by rw [Zl,ync];simp
def Ule {vals v:List Int} {x:XNode} (h:x.kind=1):Vka vals v x=J0d vals x.cond:=by rw [Vka,if_pos h]
def Vif {vals v:List Int} {x:XNode} (h:x.kind=2):Vka vals v x= -(v.getD x.left.toNat 0):=by rw [Vka,if_neg za,if_pos h]
def U3f {vals v:List Int} {x:XNode} (h:x.kind=3):Vka vals v x=min (v.getD x.left.toNat 0) (v.getD x.right.toNat 0):=by rw [Vka,if_neg za,if_neg za,if_pos h]
def Vuf {vals v:List Int} {x:XNode} (h1:¬ x.kind=1) (h2:¬ x.kind=2) (h3:¬ x.kind=3):Vka vals v x=max (v.getD x.left.toNat 0) (v.getD x.right.toNat 0):=by rw [Vka,if_neg h1,if_neg h2,if_neg h3]
def J9c (l:Arr XNode) (vals:Arr Int) (L:LB) (R:LS) (hl:InR (Yne l) R) (hv:InR (isl vals) R):
 Tri Tryz.prog 160 [l.val,vals.val].toArray L R (fun v U J=>v=.int .i64 (Zxa l.l vals.l)∧L=U∧R=J):=by
 refine Je 102 Tryz.call160 Tryz.func160 rfl rfl rfl ?_;apply Xae∘qaw∘qbm;refine q_l rfl (Jbc l _ _ hl) ?_;apply (Xbj);refine q_c ?_ ?_<;>intro hc0;·apply (Xa8);refine q_i L R ?_;exact ⟨by rw [Zxa,if_neg zF],rfl,rfl⟩
 have hr:Uca l.l=true:=by simpa using hc0
 have hln:=(Ukb.1 hr).1;apply qbv∘Xap∘qc7;rintro v U J ⟨b13,rfl,rfl,hR13⟩;replace hR13:=hR13.symm;subst hR13;apply (Xdd);refine U2 (Vh (f:=Jj) (x:=0) rfl _) ?_;apply qay∘Xbr;refine Jm [(1,.slice _ _ _),(5,.slice _ _ _),(14,.slice _ _ _),(15,.int _ _),(16,.int _ _)] zh fun tq0=>?_;refine q_p ([6,7]++rg 16 80) ((⟨fun g=>[(16,.int .i64 ((g.1.1:Nat):Int))],fun g=>(⟨.own b13 l.l.length [],g.1.2⟩:OwL Int).L 3 Jj ++ L,fun _=>R,fun g=>l.l.length - g.1.1⟩:Head {g:Nat×List Int // g.1≤l.l.length∧g.2=Zl l.l vals.l g.1})) (⟨(0,List.replicate l.l.length 0),by dsimp only;omega,rfl⟩) ?_;rintro ⟨⟨k,vs⟩,hk,hvs⟩ junk;try dsimp only
 dsimp only at hk hvs;have hvl:vs.length=l.l.length:=by rw [hvs];exact Udf hk
 have hvk:(⟨.own b13 l.l.length [],vs⟩:OwL Int).ok 1 Jj:=by have:=U0 (f:=Jj) (wd:=1) (b:=b13) (n:=l.l.length) (x:=0) K0 zB;exact OwL.len_ok K0 this (by simp;exact hvl)
 apply (Xaj);refine q_c ?_ ?_<;>intro hc1;·
  have hxg:=Jp (l:=l.l) (k:=k) default za;have hno:=K5d hr k za;have hvg:=Jp (l:=vs) (k:=k) 0 za;have hset:=fun (v:Int)=>Uef (l:=l.l) (vals:=vals.l) (k:=k) (v:=v) za;have hst:=Zse (l:=l.l) (vals:=vals.l) (k:=k) za;rw [← hvs] at hset hst;rw [Kgc] at hno;obtain ⟨x,hx⟩:∃x,x=l.l.getD k default:=⟨_,rfl⟩;rw [← hx] at hxg hno hset hst;apply (Xa1);refine Jw zD rfl ?_;apply (Xdk);intro b7;apply qad∘Xb9;refine J9 (Jb (Ki (Jq (Jg ?_))));apply (Xa2);refine q_c ?_ ?_<;>intro hc2;·
   apply Xcr∘Xap∘Xav;apply Ui (G:=[_,_,_,_,_,_]) (j:=5) (cj:=44) rfl rfl zb rfl zmb rfl;·intro hg6;replace hg6:=qb hg6;have hcg:=Jp (l:=vals.l) (k:=x.cond.toNat) 0 za;exact (Xbx∘U5f∘qa7) zyd
   intro junk6;apply (qah);apply Ui (G:=[_,_,_,_,_,_]) (j:=13) (cj:=52) rfl rfl zb rfl zmb rfl;·intro hg14;replace hg14:=qb hg14;have hcg:=Jp (l:=vals.l) (k:=x.cond.toNat) 0 za;exact (Xbx∘U5f∘qa7∘qbx) qai
   intro junk14;apply (qaf);refine q_c ?_ ?_<;>intro hc3;·have hcg:=Jp (l:=vals.l) (k:=x.cond.toNat) 0 za;apply Xb3∘Xbx∘U5f∘qa7∘Uag;refine Vk (Jn tb ((⟨.own b13 l.l.length [],vs⟩:OwL Int)) (vals.l.getD x.cond.toNat 0) rfl rfl rfl rfl zj zg yf zg ze zb zb) ?_;rintro v U J ⟨rfl,rfl⟩;refine J9 (Jh (Jh (Jb (Jg ?_))));apply (Xad);exact q_k ⟨(k + 1,vs.set k (vals.l.getD x.cond.toNat 0)),by dsimp only;omega,hset _ (by rw [Ule hc2,J0d,if_pos za])⟩
   refine J5 (Jh (Jh (Jb (Jg ?_))));apply (Xad);exact q_k ⟨(k + 1,vs),by dsimp only;omega,hst (by rw [Ule hc2,J0d,if_neg za])⟩
  apply (Xbv);refine q_c ?_ ?_<;>intro hc4;·(have hlt:x.left.toNat < k:=by omega);have hlg:=Kkd (l:=l.l) (vals:=vals.l) hlt;rw [← hvs] at hlg;have hlr:=Yza (l:=l.l) (vals:=vals.l) k x.left.toNat;apply Xb3∘Xbx;refine Jw zWc rfl ?_;apply J2g∘qcq∘Uag;refine Vk (Jn tb ((⟨.own b13 l.l.length [],vs⟩:OwL Int)) (-((U8 l.l vals.l k).getD x.left.toNat 0)) rfl rfl rfl rfl zj zg yf zg ze zb zb) ?_;rintro v U J ⟨rfl,rfl⟩;refine J9 (Jh (Jh (Jb (Jg ?_))));apply (Xad);exact q_k ⟨(k + 1,vs.set k (-((U8 l.l vals.l k).getD x.left.toNat 0))),by dsimp only;omega,hset _ (by rw [Vif hc4])⟩
  have hlt:x.left.toNat < k:=by omega
  have hlg:=Kkd (l:=l.l) (vals:=vals.l) hlt;have hrt:x.right.toNat < k:=by omega
  have hrg:=Kkd (l:=l.l) (vals:=vals.l) hrt;rw [← hvs] at hlg hrg;apply (Xbv);refine q_c ?_ ?_<;>intro hc5;·apply Kug∘Xdl∘Xcw∘Jkg∘Jvf∘Xcw∘Jdg∘Jvf;refine Ku zOc rfl rfl rfl rfl ?_;apply Uyg∘qba;refine Ywa (Jn tb ((⟨.own b13 l.l.length [],vs⟩:OwL Int)) (min ((U8 l.l vals.l k).getD x.left.toNat 0) ((U8 l.l vals.l k).getD x.right.toNat 0)) rfl rfl rfl rfl zj zg yf zg ze zb zb) rfl rfl ?_;rintro v U J ⟨rfl,rfl⟩;apply (qa1);refine J1 (Jh (Jh (Jb (Jg ?_))));apply (Xad);exact q_k ⟨(k + 1,vs.set k (min ((U8 l.l vals.l k).getD x.left.toNat 0) ((U8 l.l vals.l k).getD x.right.toNat 0))),by dsimp only;omega,hset _ (by rw [U3f hc5])⟩
  apply Kug∘Xdl∘Xcw∘Jkg∘Jvf∘Xcw∘Jdg∘Jvf;refine Ku zfc rfl rfl rfl rfl ?_;apply Uyg∘qba;refine Ywa (Jn tb ((⟨.own b13 l.l.length [],vs⟩:OwL Int)) (max ((U8 l.l vals.l k).getD x.left.toNat 0) ((U8 l.l vals.l k).getD x.right.toNat 0)) rfl rfl rfl rfl zj zg yf zg ze zb zb) rfl rfl ?_;rintro v U J ⟨rfl,rfl⟩;apply (qa1);refine J1 (Jh (Jh (Jb (Jg ?_))));apply (Xad);exact q_k ⟨(k + 1,vs.set k (max ((U8 l.l vals.l k).getD x.left.toNat 0) ((U8 l.l vals.l k).getD x.right.toNat 0))),by dsimp only;omega,hset _ (by rw [Vuf hc2 hc4 hc5])⟩
 obtain rfl:k=l.l.length:=by omega
 rw [Y7e] at hvs;have hvg:=Jp (l:=vs) (k:=l.l.length - 1) 0 za;have hev:Zxa l.l vals.l=vs.getD (l.l.length - 1) 0:=by rw [Zxa,if_pos hr,hvs]
 apply Xch∘Xap∘qa9;refine Jw (Jo tb ((⟨.own b13 l.l.length [],vs⟩:OwL Int)) _ rfl rfl ((show _=Value.slice _ _ _ from rfl).trans (K6 hvl)) rfl zg (i:=l.l.length - 1) zk zp) rfl ?_;apply J2g∘Xam;refine q_i L R ?_;exact ⟨by rw [hev],rfl,rfl⟩
end
section
attribute [local irreducible] CJ LJ DJ Tri YV Gives Uq J2 Kj Ut RV J3 OwL.L
def Z3c (x:XSpan):Int:=if Vhc x=1 then x.low else if Vhc x= -1 then -x.high else 0
def Zzd (r:XRoad) (fr:Int):Int:=1000 * r.len * r.area * fr
def Uyc (r:XRoad) (x:XSpan) (fr sec:Int):Prop:=Zzd r fr=0∨0 < Z3c x∧Zzd r fr≤Z3c x * sec
instance (r:XRoad) (x:XSpan) (fr sec:Int):Decidable (Uyc r x fr sec):=by unfold Uyc;infer_instance
def Y2f {x:XSpan} (h:Vhc x=1):Z3c x=x.low∧0 < x.low:=by
 refine ⟨by rw [Z3c,if_pos h],?_⟩;rw [Vhc] at h;split at h;·cases h
 split at h;·assumption
 split at h <;> cases h
def Uwf {x:XSpan} (h:Vhc x= -1):Z3c x= -x.high∧x.high < 0:=by
 refine ⟨by rw [Z3c,if_neg za,if_pos h],?_⟩;rw [Vhc] at h;split at h;·cases h
 split at h;·cases h
 split at h;·assumption
 ·cases h
def Ueg {x:XSpan} (h:Vhc x≠1) (h':Vhc x≠-1):Z3c x=0:=by rw [Z3c,if_neg h,if_neg h']
def J4f {r:XRoad} {fr:Int} (h1:1≤r.len∧r.len≤100000) (h2:1≤r.area∧r.area≤1000) (h3:0≤fr∧fr≤100):
 (0≤1000 * r.len * r.area∧1000 * r.len * r.area≤100000000000)∧0≤1000 * r.len * r.area * fr∧1000 * r.len * r.area * fr≤10000000000000:=by have a0:0≤1000 * r.len * r.area:=yQ za za;have a1:1000 * r.len * r.area≤100000000 * 1000:=yka za za za za;have b0:0≤1000 * r.len * r.area * fr:=yQ a0 za;have b1:1000 * r.len * r.area * fr≤100000000000 * 100:=yka za za za za;omega
def Kaf {n s l:Int} (hn:1≤n) (hs:0 < s):(n + s - 1).tdiv s≤l↔n≤l * s:=by rw [yT za];have h:=Int.ediv_lt_iff_lt_mul (a:=n + s - 1) (b:=l + 1) hs;rw [Int.add_mul,Int.one_mul] at h;omega
def K6d (r:XRoad) (x:XSpan) (fr sec:Int) (L:LB) (R:LS) (h1:1≤r.len∧r.len≤100000) (h2:1≤r.area∧r.area≤1000) (h3:0≤fr∧fr≤100) (h4:0≤sec∧sec≤2147483648):
 Tri Tryz.prog 233 [r.val,x.val,.int .i64 fr,.int .i64 sec].toArray L R (fun v U J=>v=.bool (decide (Uyc r x fr sec))∧L=U∧R=J):=by
 have hN:=J4f h1 h2 h3;refine Je 44 Tryz.call233 Tryz.func233 rfl rfl rfl ?_;apply (Xaf);intro b4;apply (qax);intro b5;apply qaz∘Xde∘qcm∘Xaa∘qcm∘Xdh∘Xc5∘Xbu;refine q_c ?_ ?_<;>intro hc0;·apply Xbt∘qbh;refine q_b L R ?_;exact ⟨by rw [decide_eq_true (p:=Uyc r x fr sec) (.inl hc0)],rfl,rfl⟩
 have hn1:1≤1000 * r.len * r.area * fr:=by omega
 apply qbo∘qaa∘Xbu;refine q_c ?_ ?_<;>intro hc1;·apply Xbt∘qbh;refine q_b L R ?_;refine ⟨by rw [decide_eq_false (p:=Uyc r x fr sec)];rintro (h | ⟨_,h⟩) <;> rw [Zzd] at h;omega;rw [hc1,ypc] at h;omega,rfl,rfl⟩
 have hcl:=fun l=>Kaf (l:=l) hn1 (show 0 < sec by omega);have hq0:0≤(1000 * r.len * r.area * fr + sec - 1).tdiv sec:=Int.tdiv_nonneg za za;have hq1:(1000 * r.len * r.area * fr + sec - 1).tdiv sec≤100000000000000:=by rw [yT za];have:=yib (a:=1000 * r.len * r.area * fr + sec - 1) sec za;omega
 apply Xdz∘Xbf∘qa9∘qaa∘qdd∘Xar∘qbe;refine q_l rfl (Kmb x _ _) ?_;refine J9 (Jb (Ki (Jq (Jg ?_))));apply (Xa2);refine q_c ?_ ?_<;>intro hc2;·apply qae∘Xah∘qbz∘qaz∘qdb;refine q_b L R ?_;have hd:=Y2f hc2;refine ⟨congrArg Value.bool (decide_eq_decide.2 ?_),rfl,rfl⟩;rw [hcl,Uyc,Zzd,hd.1];omega
 apply (Xbv);refine q_c ?_ ?_<;>intro hc3;·apply qae∘Xah∘qcq∘qbx∘qaz∘qdb;refine q_b L R ?_;have hd:=Uwf hc3;refine ⟨congrArg Value.bool (decide_eq_decide.2 ?_),rfl,rfl⟩;have:=hcl (-x.high);rw [Uyc,Zzd,hd.1];omega
 refine J5 (Jh (Jb (Jq (Jg ?_))));apply (Xbs);refine q_b L R ?_;have hd:=Ueg hc2 hc3;refine ⟨by rw [decide_eq_false (p:=Uyc r x fr sec)];rintro (h | ⟨h,_⟩);rw [Zzd] at h;omega;omega,rfl,rfl⟩
end
end Go.Proofs.YtchfclmokpbldaaGreat
