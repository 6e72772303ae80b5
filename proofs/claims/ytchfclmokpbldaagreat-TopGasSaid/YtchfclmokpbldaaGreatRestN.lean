/-
  Restoring power: the switch that is closed next, and whether that gives power to others. By an AI agent; no person has read it.
-/
import Derived.Test.YtchfclmokpbldaaGreatRuleD
import Derived.Test.YtchfclmokpbldaaGreatFeedD
import Derived.Test.YtchfclmokpbldaaGreatCircS
set_option linter.all false
set_option maxHeartbeats 4000000
namespace Go.Proofs.YtchfclmokpbldaaGreat
open Go.Aw Go
set_option maxRecDepth 20000
attribute [local irreducible] CJ LJ DJ Tri YV Gives Uq J2 Kj Ut RV J3 OwL.L
section
variable {A B:Prop}
def Zuf(h:A→B:=by exact Jw zD rfl):=h
def Uwg(h:A→B:=by exact Jw zV rfl):=h
end
def U7c (x:Arr Int) (g:Int→Bool) (fid:FuncId) (cap:Array Value) (L:LB) (R:LS) (hx:InR (isl x) R) (hc:∀y∈x.l,Tri Tryz.prog fid (.int .i64 y :: cap.toList).toArray L R (fun v U J=>v=.bool (g y)∧L=U∧R=J)):
 Tri Tryz.prog 234 [x.val,.func (.func fid) #[] cap].toArray L R (fun v U J=>∃r:Int,v=.int .i64 r∧(0≤r↔∃y∈x.l,g y=true)∧L=U∧R=J):=by
 refine Jgb Tryz.call234 hx fun hcap=>?_;refine Je 19 Tryz.call234 Tryz.func234 rfl rfl rfl ?_;apply Xae∘qaw∘Xbr;refine Jm [(0,.slice _ _ _),(1,_),(7,.int _ _),(8,.int _ _)] zh fun tq0=>?_;refine q_s ([4,5]++rg 8 11) (fun g:{k:Nat // k≤x.l.length∧∀j:Nat,j < k→g (x.l.getD j 0)=false}=>[(8,.int .i64 ((g.1:Nat):Int))]) (fun g=>x.l.length - g.1) (⟨0,by omega,fun j hj=>by omega⟩) ?_;rintro ⟨k,hk,hal⟩ junk;try dsimp only
 apply (Xaj);refine q_c ?_ ?_<;>intro hc0;·
  have hg:=Jp (l:=x.l) (k:=k) 0 za;apply Xa1∘Xag;refine Jw zRb rfl ?_;apply Xaq∘Zuf∘qa7;refine Uic (Jha rfl rfl (hc (x.l.getD k 0) (yh hg))) rfl rfl ?_;rintro v U J ⟨rfl,rfl,rfl⟩;apply (qaf);refine q_c ?_ ?_<;>intro hc1;·apply Xdv∘qbt;refine q_i L R ?_;exact ⟨k,rfl,⟨fun _=>⟨_,yh hg,hc1⟩,fun _=>by omega⟩,rfl,rfl⟩
  apply (Xaw);exact Ka (⟨k + 1,by omega,fun j hj=>by
  rcases yk j k with h | h;·exact hal j h
  ·(obtain rfl : j = k := by omega);simpa using hc1⟩) zm zh zi zAb zx
 apply (Xcq);refine q_i L R ?_;refine ⟨-1,rfl,⟨fun h=>by omega,fun ⟨y,hy,hgy⟩=>?_⟩,rfl,rfl⟩;obtain ⟨j,hj,rfl⟩:=yza hy;have:=hal j za;rw [yi,yB hj] at this;rw [show (some x.l[j]).getD 0=x.l[j] from rfl,hgy] at this;cases this
def Vmb (x:Arr Int) (g:Int→Bool) (fid:FuncId) (cap:Array Value) (L:LB) (R:LS) (hx:InR (isl x) R) (hc:∀y∈x.l,Tri Tryz.prog fid (.int .i64 y :: cap.toList).toArray L R (fun v U J=>v=.bool (g y)∧L=U∧R=J)):
 Tri Tryz.prog 167 [x.val,.func (.func fid) #[] cap].toArray L R (fun v U J=>v=.bool (decide (∃y∈x.l,g y=true))∧L=U∧R=J):=by refine Je 9 Tryz.call167 Tryz.func167 rfl rfl rfl ?_;apply Xbt∘Xdu;refine Jw zRb rfl ?_;refine Jv rfl (U7c x g fid cap _ _ hx hc) rfl ?_;exact zRd
def V2d (sw:List XSwitch) (a y:Int):Bool:=decide (y≠a∧(sw.getD y.toNat default).shown= -1)
def Jre (f:XFeeder) (a y:Int) (b9 b4:Nat) (L:LB) (R:LS) (hf:FeederR f R) (hy:0≤y∧y < f.switches.l.length):
 Tri Tryz.prog 168 [.int .i64 y,.pointer (some ⟨b9,0,none⟩),.pointer (some ⟨b4,0,none⟩)].toArray (⟨b9,[.int .i64 a],3⟩ :: ⟨b4,f.cells,42⟩ :: L) R (fun v U J=>v=.bool (V2d f.switches.l a y)∧(⟨b9,[.int .i64 a],3⟩ :: ⟨b4,f.cells,42⟩ :: L)=U∧R=J):=by
 have hsR:=hf.sw;have hg:=Jp (l:=f.switches.l) (k:=y.toNat) default za;refine Je 17 Tryz.call168 Tryz.func168 rfl rfl rfl ?_;apply Xbt∘Xc8∘qac∘Xb7;apply Ui (G:=[_,_,_,_,_,_,_]) (j:=3) (cj:=8) rfl rfl zb rfl zmb rfl;·intro hg4;replace hg4:=qb hg4;apply (Xah);refine Jw (by first | exact Jd tb rfl rfl rfl rfl zu (i:=y.toNat) zk za | exact Jl tb rfl rfl rfl rfl (i:=y.toNat) zk za) rfl ?_;exact (Xbc) zLd
 intro junk4;apply (Xbs);refine q_b (⟨b9,[.int .i64 a],3⟩ :: ⟨b4,f.cells,42⟩ :: L) R ?_;exact ⟨by refine congrArg Value.bool ?_;rw [yCb,V2d,decide_eq_true_iff];simp,rfl,rfl⟩
def Jff (sw:List XSwitch) (l:List Int):Int:=l.foldl (fun a x=>if (sw.getD x.toNat default).shown≠1 then x else a) (l.getD 0 0)
def Kme (sw:List XSwitch) (l:List Int) (k:Nat):Int:=(l.take k).foldl (fun a x=>if (sw.getD x.toNat default).shown≠1 then x else a) (l.getD 0 0)
def Uhc {sw:List XSwitch} {l:List Int} {k:Nat} (h:k < l.length):Kme sw l (k + 1)=if (sw.getD (l.getD k 0).toNat default).shown≠1 then l.getD k 0 else Kme sw l k:=by have hg:=Jp (l:=l) (k:=k) 0 h;rw [Kme,yfa,hg,Option.toList_some,yAa];rfl
def J0b (c:List XCut) (sw:List XSwitch) (zn:List Int) (rp zone a:Int) (k:Nat):Prop:=
 ((k:Int)≠zone∧(c.getD k default).off=true)∧a∈Y9a sw zn rp (zn.getD k 0)∧¬∃y∈Y9a sw zn rp (zn.getD k 0),V2d sw a y=true
instance (c:List XCut) (sw:List XSwitch) (zn:List Int) (rp zone a:Int) (k:Nat):Decidable (J0b c sw zn rp zone a k):=by unfold J0b;infer_instance
def K5c (c:List XCut) (sw:List XSwitch) (zn:List Int) (rp zone a:Int):Prop:=∃k:Nat,k < zn.length∧J0b c sw zn rp zone a k
instance (c:List XCut) (sw:List XSwitch) (zn:List Int) (rp zone a:Int):Decidable (K5c c sw zn rp zone a):=by unfold K5c;infer_instance
def Vyd (c:Arr XCut) (f:XFeeder) (zone:Int) (L:LB) (R:LS) (hcR:InR (Vuc c) R) (hf:FeederR f R) (hfe:feedE f.switches.l f.zones.l f.reply=0) (hz:0≤zone∧zone < f.zones.l.length) (hcl:c.l.length=f.zones.l.length):
 Tri Tryz.prog 88 [c.val,f.val,.int .i64 zone].toArray L R (fun v U J=>v=.tuple #[.int .i64 (Jff f.switches.l (Y9a f.switches.l f.zones.l f.reply (f.zones.l.getD zone.toNat 0))),.bool (decide (K5c c.l f.switches.l f.zones.l f.reply zone (Jff f.switches.l (Y9a f.switches.l f.zones.l f.reply (f.zones.l.getD zone.toNat 0)))))]∧L=U∧∀r∈R,InR r J):=by
 have hsR:=hf.sw;have hzR:=hf.zn;have hok:=Yn hfe;have hsn:=hok.sn;have hzl:=hok.zl;have hzg:=Jp (l:=f.zones.l) (k:=zone.toNat) 0 za;have hzr:=hok.zr zone.toNat za;refine Je 76 Tryz.call88 Tryz.func88 rfl rfl rfl ?_;apply (Xaf);intro b4;apply Xa7∘qa4;refine Ke tb [0,1,2,3,4,5,6,7] _ Ko zc ye ?_;refine Ks zrb rfl rfl rfl ?_;apply (Xby);refine Ks (by first | exact Jd tb rfl rfl rfl rfl zu (i:=zone.toNat) zk za | exact Jl tb rfl rfl rfl rfl (i:=zone.toNat) zk za) rfl rfl rfl ?_;apply (qbl);refine Vo rfl (U6c f (f.zones.l.getD zone.toNat 0) _ _ hf) rfl rfl ?_;rintro v U J ⟨q,rfl,hqk,hql,rfl,rfl⟩;refine ⟨zi,zt,?_⟩;refine Ks (K8 zob) rfl rfl rfl ?_;apply (qb9);have hqn:=Yec (sw:=f.switches.l) (zn:=f.zones.l) (rp:=f.reply) (s:=f.zones.l.getD zone.toNat 0);rw [← hql] at hqn;have hq0:0 < q.l.length:=by rw [hql,Y9a,if_neg za,Zoa hok.up za za,yA];omega
 have hqm:∀x∈q.l,0≤x∧x < f.switches.l.length:=fun x hx=>by have:=Yub (sw:=f.switches.l) (zn:=f.zones.l) (rp:=f.reply) (s:=f.zones.l.getD zone.toNat 0) (x:=x) (by rw [← hql];exact hx);omega
 have hqg0:=Jp (l:=q.l) (k:=0) 0 hq0;refine Vg (A:=[]) (wd:=1) [] yf ze hqk yg ?_;refine U2 zfa ?_;obtain ⟨R2,hR2e⟩:∃R2,R2=isl q.arr :: R:=⟨_,rfl⟩;have hR2:∀r∈R,InR r R2:=fun r hr=>Ja (by rw [hR2e];exact .tail _ hr);have hqR:InR (isl q.arr) R2:=Ja zta;have hcR2:=hcR.mono hR2;have hf2:=hf.mono hR2;have hsR2:=hf2.sw;have hzR2:=hf2.zn;refine Jic (show _=R2 by rw [hR2e]) ?_;apply Xcj∘qdt∘qa7∘qaq;intro b9;apply qcn∘qaw∘Xbr;refine Jm [(0,.slice _ _ _),(2,.int _ _),(4,.pointer _),(9,.pointer _),(26,.slice _ _ _),(27,.int _ _),(28,.int _ _)] zh fun tq0=>?_;refine q_p ([11]++rg 28 13) ((⟨fun g=>[(28,.int .i64 ((g.1.1:Nat):Int))],fun g=>⟨b9,[.int .i64 g.1.2],3⟩ :: ⟨b4,f.cells,42⟩ :: L,fun _=>R2,fun g=>q.l.length - g.1.1⟩:Head {g:Nat×Int // g.1≤q.l.length∧g.2=Kme f.switches.l q.l g.1})) (⟨(0,q.l.getD 0 0),by dsimp only;omega,rfl⟩) ?_;rintro ⟨⟨k,a⟩,hk,ha⟩ junk;try dsimp only
 dsimp only at hk ha;apply (Xaj);refine q_c ?_ ?_<;>intro hc0;·
  have hqg:=Jp (l:=q.l) (k:=k) 0 za;have hqr:=hqm _ (yh hqg);have hsg:=Jp (l:=f.switches.l) (k:=(q.l.getD k 0).toNat) default za;apply qbb∘Zuf∘qa7∘Xag∘Xah;refine Jw zcb rfl ?_;apply Xbc∘Xat;refine q_c ?_ ?_<;>intro hc1;·apply Xa5∘qcn∘Xa4;exact q_k ⟨(k + 1,q.l.getD k 0),by dsimp only;omega,by dsimp only;rw [Uhc za,if_pos hc1]⟩
  apply (Xaw);exact q_k ⟨(k + 1,a),by dsimp only;omega,by dsimp only;rw [Uhc za,if_neg hc1];exact ha⟩
 obtain rfl:k=q.l.length:=by omega
 have hat:(Jff f.switches.l (Y9a f.switches.l f.zones.l f.reply (f.zones.l.getD zone.toNat 0)))=a:=by rw [ha,Kme,ygb,← hql];rfl
 apply qcf∘Xay;refine Jm [(0,.slice _ _ _),(2,.int _ _),(4,.pointer _),(9,.pointer _),(42,.slice _ _ _),(43,.int _ _),(44,.int _ _)] zh fun tq1=>?_;refine q_p ([6,7,12,13,14,15]++rg 44 31) ((⟨fun g=>[(44,.int .i64 ((g.1:Nat):Int))],fun g=>⟨b9,[.int .i64 a],3⟩ :: ⟨b4,f.cells,42⟩ :: L,fun _=>R2,fun g=>f.zones.l.length - g.1⟩:Head {i:Nat // i≤f.zones.l.length∧∀j:Nat,j < i→¬ J0b c.l f.switches.l f.zones.l f.reply zone a j})) (⟨0,by omega,fun j hj=>by omega⟩) ?_;rintro ⟨i,hi,hal⟩ junk;try dsimp only
 apply (Xaj);refine q_c ?_ ?_<;>intro hc2;·
  have hig:=Jp (l:=f.zones.l) (k:=i) 0 za;have hcg:=Jp (l:=c.l) (k:=i) default za;apply Xa1∘Uwg∘qa7∘qad∘Xar∘Xb4∘Xcl;apply Kf (G:=[_,_,_,_,_,_]) (j:=3) (cj:=52) rfl rfl zb rfl zmb rfl;·intro hg4;replace hg4:=qb hg4;exact (Xaq∘Uwg∘Xbc) zNd
  intro junk4;apply (qaf);refine q_c ?_ ?_<;>intro hc3;·
   refine K9 (Km (J6 (Jb (Jg ?_))));apply (Xad);exact Ka ⟨i + 1,by omega,fun j hj=>by
   rcases yk j i with h | h;·exact hal j h
   ·
    (obtain rfl : j = i := by omega);rintro ⟨⟨h1,h2⟩,_⟩;rcases hc3 with h3 | h3;·exact h1 h3
    ·rw [h2] at h3;cases h3⟩ zm zh zi zAb zx
  apply (qbv);refine Jw zrb rfl ?_;apply (qaa);refine Jv rfl (U6c f (f.zones.l.getD i 0) _ _ hf2) rfl ?_;rintro v U J ⟨q2,rfl,hq2k,hq2l,rfl,rfl⟩;apply (Xc0);have hq2m:∀x∈q2.l,0≤x∧x < f.switches.l.length:=fun x hx=>by have:=Yub (sw:=f.switches.l) (zn:=f.zones.l) (rp:=f.reply) (s:=f.zones.l.getD i 0) (x:=x) (by rw [← hq2l];exact hx);omega
  refine Vg (A:=[]) (wd:=1) [] yf ze hq2k yg ?_;refine U2 zfa ?_;obtain ⟨R3,hR3e⟩:∃R3,R3=isl q2.arr :: R2:=⟨_,rfl⟩;have hR3:∀r∈R2,InR r R3:=fun r hr=>Ja (by rw [hR3e];exact .tail _ hr);have hq2R:InR (isl q2.arr) R3:=Ja (by rw [hR3e];exact .head _);have hf3:=hf2.mono hR3;refine Jic (show _=R3 by rw [hR3e]) ?_;apply (Xcj);refine Jw (Vdc rfl) rfl ?_;refine q_l rfl (Vmb q2.arr (V2d f.switches.l a) 168 #[.pointer (some ⟨b9,0,none⟩),.pointer (some ⟨b4,0,none⟩)] _ _ hq2R (fun y hy=>Jre f a y b9 b4 L _ hf3 (hq2m y hy))) ?_;apply qaz∘Xdu∘qac;refine q_l rfl (Yic q2.arr a _ _ hq2R) ?_;apply (qah);apply Ui (G:=[_,_]) (j:=3) (cj:=69) rfl rfl zb rfl zmb rfl;·intro hg4;replace hg4:=qb hg4;exact (qah) zNd
  intro junk4;apply (qaf);refine q_c ?_ ?_<;>intro hc4;·have hpa:J0b c.l f.switches.l f.zones.l f.reply zone a i:=⟨hc3,by rw [← hq2l];exact hc4⟩;apply qae∘qac∘Xa7∘qbt;refine q_r L R3 zgd ?_;exact ⟨by rw [hat,decide_eq_true (p:=K5c c.l f.switches.l f.zones.l f.reply zone a) ⟨i,by omega,hpa⟩],rfl,fun r hr=>(hR2 r hr).mono hR3⟩
  apply (Xaw);exact Ka ⟨i + 1,by omega,fun j hj=>by
  rcases yk j i with h | h;·exact hal j h
  ·
   (obtain rfl : j = i := by omega);rintro ⟨_,h2⟩;rw [← hq2l] at h2;rcases hc4 with h4 | h4;·exact h4 h2.1
   ·exact h2.2 h4⟩ zm zh zi hR3 zx
 apply qbk∘qac∘Xa7∘qa0;refine q_r L R2 zgd ?_;exact ⟨by rw [hat,decide_eq_false (p:=K5c c.l f.switches.l f.zones.l f.reply zone a)];rintro ⟨j,hj,hpa⟩;exact hal j za hpa,rfl,hR2⟩
end Go.Proofs.YtchfclmokpbldaaGreat
