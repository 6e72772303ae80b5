/-
  Restoring power: the switch that is closed next, and whether that gives power to others. By an AI agent; no person has read it.
-/
import Derived.Test.YtchfclmokpbldaaGreatRuleD
import Derived.Test.YtchfclmokpbldaaGreatFeedD
import Derived.Test.YtchfclmokpbldaaGreatMadeB
set_option linter.all false
set_option maxHeartbeats 4000000
namespace Go.Proofs.YtchfclmokpbldaaGreat
open Go.Aw Go
set_option maxRecDepth 20000
attribute [local irreducible] CJ LJ DJ Tri YV Gives U0 J3 Kj Uz RV J5 OwL.L
section
variable {A B:Prop}
def V9f(h:A→B:=by exact Jx zB rfl):=h
def Jqg(h:A→B:=by exact Jx zva rfl):=h
end
def Ugc (x:Arr Int) (g:Int→Bool) (fid:FuncId) (cap:Array Value) (L:LB) (R:LS) (hx:InR (isl x) R) (hc:∀y∈x.l,Tri Tryz.prog fid (.int .i64 y :: cap.toList).toArray L R (fun v M U=>v=.bool (g y)∧L=M∧R=U)):
 Tri Tryz.prog 234 [x.val,.func (.func fid) #[] cap].toArray L R (fun v M U=>∃r:Int,v=.int .i64 r∧(0≤r↔∃y∈x.l,g y=true)∧L=M∧R=U):=by
 refine Zba Tryz.call234 hx fun hcap=>?_;refine Jj 19 Tryz.call234 Tryz.func234 rfl rfl rfl ?_;apply Xac∘qaw∘Xbt;refine Jp [(0,.slice _ _ _),(1,_),(7,.int _ _),(8,.int _ _)] zh fun tq0=>?_;refine q_s ([4,5]++rg 8 11) (fun g:{k:Nat // k≤x.l.length∧∀j:Nat,j < k→g (x.l.getD j 0)=false}=>[(8,.int .i64 ((g.1:Nat):Int))]) (fun g=>x.l.length - g.1) (⟨0,by omega,fun j hj=>by omega⟩) ?_;rintro ⟨k,hk,hal⟩ junk;try dsimp only
 apply (Xak);refine q_c ?_ ?_<;>intro hc0;·
  have hg:=Jw (l:=x.l) (k:=k) 0 za;apply Xa0∘Xag;refine Jx zCb rfl ?_;apply Xat∘V9f∘qa7;refine K3c (Jra rfl rfl (hc (x.l.getD k 0) (yj hg))) rfl rfl ?_;rintro v M U ⟨rfl,rfl,rfl⟩;apply (qaf);refine q_c ?_ ?_<;>intro hc1;·apply Xdj∘qbt;refine q_i L R ?_;exact ⟨k,rfl,⟨fun _=>⟨_,yj hg,hc1⟩,fun _=>by omega⟩,rfl,rfl⟩
  apply (Xax);exact Kr (⟨k + 1,by omega,fun j hj=>by
  rcases yk j k with h | h;·exact hal j h
  ·(obtain rfl : j = k := by omega);simpa using hc1⟩) zm zh zi ztb zx
 apply (Xca);refine q_i L R ?_;refine ⟨-1,rfl,⟨fun h=>by omega,fun ⟨y,hy,hgy⟩=>?_⟩,rfl,rfl⟩;obtain ⟨j,hj,rfl⟩:=yMa hy;have:=hal j za;rw [yh,yC hj] at this;rw [show (some x.l[j]).getD 0=x.l[j] from rfl,hgy] at this;cases this
def Vab (x:Arr Int) (g:Int→Bool) (fid:FuncId) (cap:Array Value) (L:LB) (R:LS) (hx:InR (isl x) R) (hc:∀y∈x.l,Tri Tryz.prog fid (.int .i64 y :: cap.toList).toArray L R (fun v M U=>v=.bool (g y)∧L=M∧R=U)):
 Tri Tryz.prog 167 [x.val,.func (.func fid) #[] cap].toArray L R (fun v M U=>v=.bool (decide (∃y∈x.l,g y=true))∧L=M∧R=U):=by refine Jj 9 Tryz.call167 Tryz.func167 rfl rfl rfl ?_;apply Xbe∘Xc7;refine Jx zCb rfl ?_;refine Jy rfl (Ugc x g fid cap _ _ hx hc) rfl ?_;exact zBd
def Vbd (sw:List XSwitch) (a y:Int):Bool:=decide (y≠a∧(sw.getD y.toNat default).shown= -1)
def Z9d (f:XFeeder) (a y:Int) (b9 b4:Nat) (L:LB) (R:LS) (hf:FeederR f R) (hy:0≤y∧y < f.switches.l.length):
 Tri Tryz.prog 168 [.int .i64 y,.pointer (some ⟨b9,0,none⟩),.pointer (some ⟨b4,0,none⟩)].toArray (⟨b9,[.int .i64 a],3⟩ :: ⟨b4,f.cells,42⟩ :: L) R (fun v M U=>v=.bool (Vbd f.switches.l a y)∧(⟨b9,[.int .i64 a],3⟩ :: ⟨b4,f.cells,42⟩ :: L)=M∧R=U):=by
 have hsR:=hf.sw;have hg:=Jw (l:=f.switches.l) (k:=y.toNat) default za;refine Jj 17 Tryz.call168 Tryz.func168 rfl rfl rfl ?_;apply Xbe∘Xdh∘qac∘Xbu;apply Ui (G:=[_,_,_,_,_,_,_]) (j:=3) (cj:=8) rfl rfl zb rfl zfb rfl;·intro hg4;replace hg4:=qb hg4;apply (Xam);refine Jx (by first | exact Jf tb rfl rfl rfl rfl zt (i:=y.toNat) zk za | exact Jl tb rfl rfl rfl rfl (i:=y.toNat) zk za) rfl ?_;exact (Xbv∘qbn) qai
 intro junk4;apply (Xa2);refine q_b (⟨b9,[.int .i64 a],3⟩ :: ⟨b4,f.cells,42⟩ :: L) R ?_;exact ⟨by refine congrArg Value.bool ?_;rw [ytb,Vbd,decide_eq_true_iff];simp,rfl,rfl⟩
def Zqd (sw:List XSwitch) (l:List Int):Int:=l.foldl (fun a x=>if (sw.getD x.toNat default).shown≠1 then x else a) (l.getD 0 0)
def Kqe (sw:List XSwitch) (l:List Int) (k:Nat):Int:=(l.take k).foldl (fun a x=>if (sw.getD x.toNat default).shown≠1 then x else a) (l.getD 0 0)
def Kxc {sw:List XSwitch} {l:List Int} {k:Nat} (h:k < l.length):Kqe sw l (k + 1)=if (sw.getD (l.getD k 0).toNat default).shown≠1 then l.getD k 0 else Kqe sw l k:=by have hg:=Jw (l:=l) (k:=k) 0 h;rw [Kqe,yfa,hg,Option.toList_some,ywa];rfl
def Kbb (c:List XCut) (sw:List XSwitch) (zn:List Int) (rp zone a:Int) (k:Nat):Prop:=
 ((k:Int)≠zone∧(c.getD k default).off=true)∧a∈Kma sw zn rp (zn.getD k 0)∧¬∃y∈Kma sw zn rp (zn.getD k 0),Vbd sw a y=true
instance (c:List XCut) (sw:List XSwitch) (zn:List Int) (rp zone a:Int) (k:Nat):Decidable (Kbb c sw zn rp zone a k):=by unfold Kbb;infer_instance
def Jpc (c:List XCut) (sw:List XSwitch) (zn:List Int) (rp zone a:Int):Prop:=∃k:Nat,k < zn.length∧Kbb c sw zn rp zone a k
instance (c:List XCut) (sw:List XSwitch) (zn:List Int) (rp zone a:Int):Decidable (Jpc c sw zn rp zone a):=by unfold Jpc;infer_instance
def Vyd (c:Arr XCut) (f:XFeeder) (zone:Int) (L:LB) (R:LS) (hcR:InR (Unc c) R) (hf:FeederR f R) (hfe:feedE f.switches.l f.zones.l f.reply=0) (hz:0≤zone∧zone < f.zones.l.length) (hcl:c.l.length=f.zones.l.length):
 Tri Tryz.prog 88 [c.val,f.val,.int .i64 zone].toArray L R (fun v M U=>v=.tuple #[.int .i64 (Zqd f.switches.l (Kma f.switches.l f.zones.l f.reply (f.zones.l.getD zone.toNat 0))),.bool (decide (Jpc c.l f.switches.l f.zones.l f.reply zone (Zqd f.switches.l (Kma f.switches.l f.zones.l f.reply (f.zones.l.getD zone.toNat 0)))))]∧L=M∧∀r∈R,InR r U):=by
 have hsR:=hf.sw;have hzR:=hf.zn;have hok:=Vq hfe;have hsn:=hok.sn;have hzl:=hok.zl;have hzg:=Jw (l:=f.zones.l) (k:=zone.toNat) 0 za;have hzr:=hok.zr zone.toNat za;refine Jj 76 Tryz.call88 Tryz.func88 rfl rfl rfl ?_;apply (Xaf);intro b4;apply Xbk∘qa4;refine Kp tb [0,1,2,3,4,5,6,7] _ K3 zc ye ?_;refine K2 zkb rfl rfl rfl ?_;apply (Xb4);refine K2 (by first | exact Jf tb rfl rfl rfl rfl zt (i:=zone.toNat) zk za | exact Jl tb rfl rfl rfl rfl (i:=zone.toNat) zk za) rfl rfl rfl ?_;apply (qbl);refine Yj rfl (Vib f (f.zones.l.getD zone.toNat 0) _ _ hf) rfl rfl ?_;rintro v M U ⟨q,rfl,hqk,hql,rfl,rfl⟩;refine ⟨zi,zw,?_⟩;refine K2 (Uc zhb) rfl rfl rfl ?_;apply (qb9);have hqn:=V0c (sw:=f.switches.l) (zn:=f.zones.l) (rp:=f.reply) (s:=f.zones.l.getD zone.toNat 0);rw [← hql] at hqn;have hq0:0 < q.l.length:=by rw [hql,Kma,if_neg za,Kqa hok.up za za,yw];omega
 have hqm:∀x∈q.l,0≤x∧x < f.switches.l.length:=fun x hx=>by have:=V7b (sw:=f.switches.l) (zn:=f.zones.l) (rp:=f.reply) (s:=f.zones.l.getD zone.toNat 0) (x:=x) (by rw [← hql];exact hx);omega
 have hqg0:=Jw (l:=q.l) (k:=0) 0 hq0;refine Vla (A:=[]) (wd:=1) [] yf ze hqk yg ?_;refine Vf zya ?_;obtain ⟨R2,hR2e⟩:∃R2,R2=isl q.arr :: R:=⟨_,rfl⟩;have hR2:∀r∈R,InR r R2:=fun r hr=>Ja (by rw [hR2e];exact .tail _ hr);have hqR:InR (isl q.arr) R2:=Ja zqa;have hcR2:=hcR.mono hR2;have hf2:=hf.mono hR2;have hsR2:=hf2.sw;have hzR2:=hf2.zn;refine Vvc (show _=R2 by rw [hR2e]) ?_;apply Xcy∘qdt∘qa7∘qaq;intro b9;apply qcn∘qaw∘Xbt;refine Jp [(0,.slice _ _ _),(2,.int _ _),(4,.pointer _),(9,.pointer _),(26,.slice _ _ _),(27,.int _ _),(28,.int _ _)] zh fun tq0=>?_;refine q_p ([11]++rg 28 13) ((⟨fun g=>[(28,.int .i64 ((g.1.1:Nat):Int))],fun g=>⟨b9,[.int .i64 g.1.2],3⟩ :: ⟨b4,f.cells,42⟩ :: L,fun _=>R2,fun g=>q.l.length - g.1.1⟩:Head {g:Nat×Int // g.1≤q.l.length∧g.2=Kqe f.switches.l q.l g.1})) (⟨(0,q.l.getD 0 0),by dsimp only;omega,rfl⟩) ?_;rintro ⟨⟨k,a⟩,hk,ha⟩ junk;try dsimp only
 dsimp only at hk ha;apply (Xak);refine q_c ?_ ?_<;>intro hc0;·
  have hqg:=Jw (l:=q.l) (k:=k) 0 za;have hqr:=hqm _ (yj hqg);have hsg:=Jw (l:=f.switches.l) (k:=(q.l.getD k 0).toNat) default za;apply qbb∘V9f∘qa7∘Xag∘Xam;refine Jx zWa rfl ?_;apply Xbv∘Xao;refine q_c ?_ ?_<;>intro hc1;·apply Xa1∘qcn∘Xa7;exact q_k ⟨(k + 1,q.l.getD k 0),by dsimp only;omega,by dsimp only;rw [Kxc za,if_pos hc1]⟩
  apply (Xax);exact q_k ⟨(k + 1,a),by dsimp only;omega,by dsimp only;rw [Kxc za,if_neg hc1];exact ha⟩
 obtain rfl:k=q.l.length:=by omega
 have hat:(Zqd f.switches.l (Kma f.switches.l f.zones.l f.reply (f.zones.l.getD zone.toNat 0)))=a:=by rw [ha,Kqe,yab,← hql];rfl
 apply qcf∘Xaw;refine Jp [(0,.slice _ _ _),(2,.int _ _),(4,.pointer _),(9,.pointer _),(42,.slice _ _ _),(43,.int _ _),(44,.int _ _)] zh fun tq1=>?_;refine q_p ([6,7,12,13,14,15]++rg 44 31) ((⟨fun g=>[(44,.int .i64 ((g.1:Nat):Int))],fun g=>⟨b9,[.int .i64 a],3⟩ :: ⟨b4,f.cells,42⟩ :: L,fun _=>R2,fun g=>f.zones.l.length - g.1⟩:Head {i:Nat // i≤f.zones.l.length∧∀j:Nat,j < i→¬ Kbb c.l f.switches.l f.zones.l f.reply zone a j})) (⟨0,by omega,fun j hj=>by omega⟩) ?_;rintro ⟨i,hi,hal⟩ junk;try dsimp only
 apply (Xak);refine q_c ?_ ?_<;>intro hc2;·
  have hig:=Jw (l:=f.zones.l) (k:=i) 0 za;have hcg:=Jw (l:=c.l) (k:=i) default za;apply Xa0∘Jqg∘qa7∘qad∘Xap∘Xbg∘qbn∘qah;apply J9 (G:=[_,_,_,_,_,_]) (j:=3) (cj:=52) rfl rfl zb rfl zfb rfl;·intro hg4;replace hg4:=qb hg4;exact (Xat∘Jqg∘Xbv) zLd
  intro junk4;apply (qaf);refine q_c ?_ ?_<;>intro hc3;·
   refine Ug (Kw (Kd (Jc (Jh ?_))));apply (Xae);exact Kr ⟨i + 1,by omega,fun j hj=>by
   rcases yk j i with h | h;·exact hal j h
   ·
    (obtain rfl : j = i := by omega);rintro ⟨⟨h1,h2⟩,_⟩;rcases hc3 with h3 | h3;·exact h1 h3
    ·rw [h2] at h3;cases h3⟩ zm zh zi ztb zx
  apply (qbv);refine Jx zkb rfl ?_;apply (qaa);refine Jy rfl (Vib f (f.zones.l.getD i 0) _ _ hf2) rfl ?_;rintro v M U ⟨q2,rfl,hq2k,hq2l,rfl,rfl⟩;apply (Xcx);have hq2m:∀x∈q2.l,0≤x∧x < f.switches.l.length:=fun x hx=>by have:=V7b (sw:=f.switches.l) (zn:=f.zones.l) (rp:=f.reply) (s:=f.zones.l.getD i 0) (x:=x) (by rw [← hq2l];exact hx);omega
  refine Vla (A:=[]) (wd:=1) [] yf ze hq2k yg ?_;refine Vf zya ?_;obtain ⟨R3,hR3e⟩:∃R3,R3=isl q2.arr :: R2:=⟨_,rfl⟩;have hR3:∀r∈R2,InR r R3:=fun r hr=>Ja (by rw [hR3e];exact .tail _ hr);have hq2R:InR (isl q2.arr) R3:=Ja (by rw [hR3e];exact .head _);have hf3:=hf2.mono hR3;refine Vvc (show _=R3 by rw [hR3e]) ?_;apply (Xcy);refine Jx (Uic rfl) rfl ?_;refine q_l rfl (Vab q2.arr (Vbd f.switches.l a) 168 #[.pointer (some ⟨b9,0,none⟩),.pointer (some ⟨b4,0,none⟩)] _ _ hq2R (fun y hy=>Z9d f a y b9 b4 L _ hf3 (hq2m y hy))) ?_;apply qaz∘Xc7∘qac;refine q_l rfl (V9c q2.arr a _ _ hq2R) ?_;apply (qah);apply Ui (G:=[_,_]) (j:=3) (cj:=69) rfl rfl zb rfl zfb rfl;·intro hg4;replace hg4:=qb hg4;exact (qah) zLd
  intro junk4;apply (qaf);refine q_c ?_ ?_<;>intro hc4;·have hpa:Kbb c.l f.switches.l f.zones.l f.reply zone a i:=⟨hc3,by rw [← hq2l];exact hc4⟩;apply qae∘qac∘Xbk∘qbt;refine q_r L R3 zWc ?_;exact ⟨by rw [hat,decide_eq_true (p:=Jpc c.l f.switches.l f.zones.l f.reply zone a) ⟨i,by omega,hpa⟩],rfl,fun r hr=>(hR2 r hr).mono hR3⟩
  apply (Xax);exact Kr ⟨i + 1,by omega,fun j hj=>by
  rcases yk j i with h | h;·exact hal j h
  ·
   (obtain rfl : j = i := by omega);rintro ⟨_,h2⟩;rw [← hq2l] at h2;rcases hc4 with h4 | h4;·exact h4 h2.1
   ·exact h2.2 h4⟩ zm zh zi hR3 zx
 apply qbk∘qac∘qad∘Xa2;refine q_r L R2 zWc ?_;exact ⟨by rw [hat,decide_eq_false (p:=Jpc c.l f.switches.l f.zones.l f.reply zone a)];rintro ⟨j,hj,hpa⟩;exact hal j za hpa,rfl,hR2⟩
end Go.Proofs.YtchfclmokpbldaaGreat
