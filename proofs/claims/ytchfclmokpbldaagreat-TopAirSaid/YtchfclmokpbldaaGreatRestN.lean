/-
  Restoring power: the switch that is closed next, and whether that gives power to others. By an AI agent; no person has read it.
-/
import Derived.Test.YtchfclmokpbldaaGreatRuleD
import Derived.Test.YtchfclmokpbldaaGreatFeedD
import Derived.Test.YtchfclmokpbldaaGreatLaw12a
set_option linter.all false
set_option maxHeartbeats 4000000
namespace Go.Proofs.YtchfclmokpbldaaGreat
open Go.Aw Go
set_option maxRecDepth 20000
attribute [local irreducible] CJ LJ DJ Tri YV Gives U5 J2 Kn U6 RV J4 OwL.L
section
variable {A B:Prop}
def Udg(h:A→B:=by exact Jy zC rfl):=h
def Jdg(h:A→B:=by exact Jy zR rfl):=h
end
def Vgc (x:Arr Int) (g:Int→Bool) (fid:FuncId) (cap:Array Value) (L:LB) (R:LS) (hx:InR (isl x) R) (hc:∀y∈x.l,Tri Tryz.prog fid (.int .i64 y :: cap.toList).toArray L R (fun v U J=>v=.bool (g y)∧L=U∧R=J)):
 Tri Tryz.prog 234 [x.val,.func (.func fid) #[] cap].toArray L R (fun v U J=>∃r:Int,v=.int .i64 r∧(0≤r↔∃y∈x.l,g y=true)∧L=U∧R=J):=by
 refine J0b Tryz.call234 hx fun hcap=>?_;refine Je 19 Tryz.call234 Tryz.func234 rfl rfl rfl ?_;apply Xae∘qaw∘Xbz;refine Jm [(0,.slice _ _ _),(1,_),(7,.int _ _),(8,.int _ _)] zh fun tq0=>?_;refine q_s ([4,5]++rg 8 11) (fun g:{k:Nat // k≤x.l.length∧∀j:Nat,j < k→g (x.l.getD j 0)=false}=>[(8,.int .i64 ((g.1:Nat):Int))]) (fun g=>x.l.length - g.1) (⟨0,by omega,fun j hj=>by omega⟩) ?_;rintro ⟨k,hk,hal⟩ junk;try dsimp only
 apply (Xam);refine q_c ?_ ?_<;>intro hc0;·
  have hg:=Jn (l:=x.l) (k:=k) 0 za;apply Xa1∘Xag;refine Jy zSb rfl ?_;apply Xap∘Udg∘qa7;refine Vwc (J0a rfl rfl (hc (x.l.getD k 0) (yi hg))) rfl rfl ?_;rintro v U J ⟨rfl,rfl,rfl⟩;apply (qaf);refine q_c ?_ ?_<;>intro hc1;·apply Xd1∘qbt;refine q_i L R ?_;exact ⟨k,rfl,⟨fun _=>⟨_,yi hg,hc1⟩,fun _=>by omega⟩,rfl,rfl⟩
  apply (Xaw);exact Kd (⟨k + 1,by omega,fun j hj=>by
  rcases yk j k with h | h;·exact hal j h
  ·(obtain rfl : j = k := by omega);simpa using hc1⟩) zm zh zi zLb zx
 apply (Xco);refine q_i L R ?_;refine ⟨-1,rfl,⟨fun h=>by omega,fun ⟨y,hy,hgy⟩=>?_⟩,rfl,rfl⟩;obtain ⟨j,hj,rfl⟩:=yWa hy;have:=hal j za;rw [yh,yC hj] at this;rw [show (some x.l[j]).getD 0=x.l[j] from rfl,hgy] at this;cases this
def V9b (x:Arr Int) (g:Int→Bool) (fid:FuncId) (cap:Array Value) (L:LB) (R:LS) (hx:InR (isl x) R) (hc:∀y∈x.l,Tri Tryz.prog fid (.int .i64 y :: cap.toList).toArray L R (fun v U J=>v=.bool (g y)∧L=U∧R=J)):
 Tri Tryz.prog 167 [x.val,.func (.func fid) #[] cap].toArray L R (fun v U J=>v=.bool (decide (∃y∈x.l,g y=true))∧L=U∧R=J):=by refine Je 9 Tryz.call167 Tryz.func167 rfl rfl rfl ?_;apply Xdz∘qbm;refine Jy zSb rfl ?_;refine Jw rfl (Vgc x g fid cap _ _ hx hc) rfl ?_;exact zqe
def V7d (sw:List XSwitch) (a y:Int):Bool:=decide (y≠a∧(sw.getD y.toNat default).shown= -1)
def J9e (f:XFeeder) (a y:Int) (b9 b4:Nat) (L:LB) (R:LS) (hf:FeederR f R) (hy:0≤y∧y < f.switches.l.length):
 Tri Tryz.prog 168 [.int .i64 y,.pointer (some ⟨b9,0,none⟩),.pointer (some ⟨b4,0,none⟩)].toArray (⟨b9,[.int .i64 a],3⟩ :: ⟨b4,f.cells,42⟩ :: L) R (fun v U J=>v=.bool (V7d f.switches.l a y)∧(⟨b9,[.int .i64 a],3⟩ :: ⟨b4,f.cells,42⟩ :: L)=U∧R=J):=by
 have hsR:=hf.sw;have hg:=Jn (l:=f.switches.l) (k:=y.toNat) default za;refine Je 17 Tryz.call168 Tryz.func168 rfl rfl rfl ?_;apply Xdz∘qaa∘qac∘Xb7;apply K9 (G:=[_,_,_,_,_,_,_]) (j:=3) (cj:=8) rfl rfl zb rfl zsb rfl;·intro hg4;replace hg4:=qb hg4;apply (Xah);refine Jy (by first | exact Jd tb rfl rfl rfl rfl zu (i:=y.toNat) zk za | exact Jl tb rfl rfl rfl rfl (i:=y.toNat) zk za) rfl ?_;exact (Xa9) zee
 intro junk4;apply (Xbb);refine q_b (⟨b9,[.int .i64 a],3⟩ :: ⟨b4,f.cells,42⟩ :: L) R ?_;exact ⟨by refine congrArg Value.bool ?_;rw [yzb,V7d,decide_eq_true_iff];simp,rfl,rfl⟩
def Kof (sw:List XSwitch) (l:List Int):Int:=l.foldl (fun a x=>if (sw.getD x.toNat default).shown≠1 then x else a) (l.getD 0 0)
def Kpe (sw:List XSwitch) (l:List Int) (k:Nat):Int:=(l.take k).foldl (fun a x=>if (sw.getD x.toNat default).shown≠1 then x else a) (l.getD 0 0)
def Kzc {sw:List XSwitch} {l:List Int} {k:Nat} (h:k < l.length):Kpe sw l (k + 1)=if (sw.getD (l.getD k 0).toNat default).shown≠1 then l.getD k 0 else Kpe sw l k:=by have hg:=Jn (l:=l) (k:=k) 0 h;rw [Kpe,yha,hg,Option.toList_some,yCa];rfl
def Ufb (c:List XCut) (sw:List XSwitch) (zn:List Int) (rp zone a:Int) (k:Nat):Prop:=
 ((k:Int)≠zone∧(c.getD k default).off=true)∧a∈Zba sw zn rp (zn.getD k 0)∧¬∃y∈Zba sw zn rp (zn.getD k 0),V7d sw a y=true
instance (c:List XCut) (sw:List XSwitch) (zn:List Int) (rp zone a:Int) (k:Nat):Decidable (Ufb c sw zn rp zone a k):=by unfold Ufb;infer_instance
def K9c (c:List XCut) (sw:List XSwitch) (zn:List Int) (rp zone a:Int):Prop:=∃k:Nat,k < zn.length∧Ufb c sw zn rp zone a k
instance (c:List XCut) (sw:List XSwitch) (zn:List Int) (rp zone a:Int):Decidable (K9c c sw zn rp zone a):=by unfold K9c;infer_instance
def Ycd (c:Arr XCut) (f:XFeeder) (zone:Int) (L:LB) (R:LS) (hcR:InR (Vic c) R) (hf:FeederR f R) (hfe:feedE f.switches.l f.zones.l f.reply=0) (hz:0≤zone∧zone < f.zones.l.length) (hcl:c.l.length=f.zones.l.length):
 Tri Tryz.prog 88 [c.val,f.val,.int .i64 zone].toArray L R (fun v U J=>v=.tuple #[.int .i64 (Kof f.switches.l (Zba f.switches.l f.zones.l f.reply (f.zones.l.getD zone.toNat 0))),.bool (decide (K9c c.l f.switches.l f.zones.l f.reply zone (Kof f.switches.l (Zba f.switches.l f.zones.l f.reply (f.zones.l.getD zone.toNat 0)))))]∧L=U∧∀r∈R,InR r J):=by
 have hsR:=hf.sw;have hzR:=hf.zn;have hok:=Ys hfe;have hsn:=hok.sn;have hzl:=hok.zl;have hzg:=Jn (l:=f.zones.l) (k:=zone.toNat) 0 za;have hzr:=hok.zr zone.toNat za;refine Je 76 Tryz.call88 Tryz.func88 rfl rfl rfl ?_;apply (Xaf);intro b4;apply Xb6∘qa4;refine Ki tb [0,1,2,3,4,5,6,7] _ Kq zc ye ?_;refine K0 zxb rfl rfl rfl ?_;apply (Xbs);refine K0 (by first | exact Jd tb rfl rfl rfl rfl zu (i:=zone.toNat) zk za | exact Jl tb rfl rfl rfl rfl (i:=zone.toNat) zk za) rfl rfl rfl ?_;apply (qbl);refine Yp rfl (Yec f (f.zones.l.getD zone.toNat 0) _ _ hf) rfl rfl ?_;rintro v U J ⟨q,rfl,hqk,hql,rfl,rfl⟩;refine ⟨zi,zq,?_⟩;refine K0 (Uo zub) rfl rfl rfl ?_;apply (qb9);have hqn:=Zdc (sw:=f.switches.l) (zn:=f.zones.l) (rp:=f.reply) (s:=f.zones.l.getD zone.toNat 0);rw [← hql] at hqn;have hq0:0 < q.l.length:=by rw [hql,Zba,if_neg za,Zwa hok.up za za,yA];omega
 have hqm:∀x∈q.l,0≤x∧x < f.switches.l.length:=fun x hx=>by have:=Z9b (sw:=f.switches.l) (zn:=f.zones.l) (rp:=f.reply) (s:=f.zones.l.getD zone.toNat 0) (x:=x) (by rw [← hql];exact hx);omega
 have hqg0:=Jn (l:=q.l) (k:=0) 0 hq0;refine U9 (A:=[]) (wd:=1) [] yf ze hqk yg ?_;refine U4 zoa ?_;obtain ⟨R2,hR2e⟩:∃R2,R2=isl q.arr :: R:=⟨_,rfl⟩;have hR2:∀r∈R,InR r R2:=fun r hr=>Ja (by rw [hR2e];exact .tail _ hr);have hqR:InR (isl q.arr) R2:=Ja zia;have hcR2:=hcR.mono hR2;have hf2:=hf.mono hR2;have hsR2:=hf2.sw;have hzR2:=hf2.zn;refine J9c zfd ?_;apply Xcs∘qdt∘qa7∘qaq;intro b9;apply qcn∘qaw∘Xbz;refine Jm [(0,.slice _ _ _),(2,.int _ _),(4,.pointer _),(9,.pointer _),(26,.slice _ _ _),(27,.int _ _),(28,.int _ _)] zh fun tq0=>?_;refine q_p ([11]++rg 28 13) ((⟨fun g=>[(28,.int .i64 ((g.1.1:Nat):Int))],fun g=>⟨b9,[.int .i64 g.1.2],3⟩ :: ⟨b4,f.cells,42⟩ :: L,fun _=>R2,fun g=>q.l.length - g.1.1⟩:Head {g:Nat×Int // g.1≤q.l.length∧g.2=Kpe f.switches.l q.l g.1})) (⟨(0,q.l.getD 0 0),by dsimp only;omega,rfl⟩) ?_;rintro ⟨⟨k,a⟩,hk,ha⟩ junk;try dsimp only
 dsimp only at hk ha;apply (Xam);refine q_c ?_ ?_<;>intro hc0;·
  have hqg:=Jn (l:=q.l) (k:=k) 0 za;have hqr:=hqm _ (yi hqg);have hsg:=Jn (l:=f.switches.l) (k:=(q.l.getD k 0).toNat) default za;apply qbb∘Udg∘qa7∘Xag∘Xah;refine Jy zeb rfl ?_;apply Xa9∘Xat;refine q_c ?_ ?_<;>intro hc1;·apply Xbc∘qcn∘Xa8;exact q_k ⟨(k + 1,q.l.getD k 0),by dsimp only;omega,by dsimp only;rw [Kzc za,if_pos hc1]⟩
  apply (Xaw);exact q_k ⟨(k + 1,a),by dsimp only;omega,by dsimp only;rw [Kzc za,if_neg hc1];exact ha⟩
 obtain rfl:k=q.l.length:=by omega
 have hat:(Kof f.switches.l (Zba f.switches.l f.zones.l f.reply (f.zones.l.getD zone.toNat 0)))=a:=by rw [ha,Kpe,yKa,← hql];rfl
 apply qcf∘Xay;refine Jm [(0,.slice _ _ _),(2,.int _ _),(4,.pointer _),(9,.pointer _),(42,.slice _ _ _),(43,.int _ _),(44,.int _ _)] zh fun tq1=>?_;refine q_p ([6,7,12,13,14,15]++rg 44 31) ((⟨fun g=>[(44,.int .i64 ((g.1:Nat):Int))],fun g=>⟨b9,[.int .i64 a],3⟩ :: ⟨b4,f.cells,42⟩ :: L,fun _=>R2,fun g=>f.zones.l.length - g.1⟩:Head {i:Nat // i≤f.zones.l.length∧∀j:Nat,j < i→¬ Ufb c.l f.switches.l f.zones.l f.reply zone a j})) (⟨0,by omega,fun j hj=>by omega⟩) ?_;rintro ⟨i,hi,hal⟩ junk;try dsimp only
 apply (Xam);refine q_c ?_ ?_<;>intro hc2;·
  have hig:=Jn (l:=f.zones.l) (k:=i) 0 za;have hcg:=Jn (l:=c.l) (k:=i) default za;apply Xa1∘Jdg∘Xdn∘Xar∘Xbw∘Xcn;apply J6 (G:=[_,_,_,_,_,_]) (j:=3) (cj:=52) rfl rfl zb rfl zsb rfl;·intro hg4;replace hg4:=qb hg4;exact (Xap∘Jdg∘Xa9) zge
  intro junk4;apply (qaf);refine q_c ?_ ?_<;>intro hc3;·
   refine K5 (Kj (J3 (Jb (Jh ?_))));apply (Xad);exact Kd ⟨i + 1,by omega,fun j hj=>by
   rcases yk j i with h | h;·exact hal j h
   ·
    (obtain rfl : j = i := by omega);rintro ⟨⟨h1,h2⟩,_⟩;rcases hc3 with h3 | h3;·exact h1 h3
    ·rw [h2] at h3;cases h3⟩ zm zh zi zLb zx
  apply (qbv);refine Jy zxb rfl ?_;apply (qaa);refine Jw rfl (Yec f (f.zones.l.getD i 0) _ _ hf2) rfl ?_;rintro v U J ⟨q2,rfl,hq2k,hq2l,rfl,rfl⟩;apply (Xcy);have hq2m:∀x∈q2.l,0≤x∧x < f.switches.l.length:=fun x hx=>by have:=Z9b (sw:=f.switches.l) (zn:=f.zones.l) (rp:=f.reply) (s:=f.zones.l.getD i 0) (x:=x) (by rw [← hq2l];exact hx);omega
  refine U9 (A:=[]) (wd:=1) [] yf ze hq2k yg ?_;refine U4 zoa ?_;obtain ⟨R3,hR3e⟩:∃R3,R3=isl q2.arr :: R2:=⟨_,rfl⟩;have hR3:∀r∈R2,InR r R3:=fun r hr=>Ja (by rw [hR3e];exact .tail _ hr);have hq2R:InR (isl q2.arr) R3:=Ja (by rw [hR3e];exact .head _);have hf3:=hf2.mono hR3;refine J9c (show _=R3 by rw [hR3e]) ?_;apply (Xcs);refine Jy (Yuc rfl) rfl ?_;refine q_l rfl (V9b q2.arr (V7d f.switches.l a) 168 #[.pointer (some ⟨b9,0,none⟩),.pointer (some ⟨b4,0,none⟩)] _ _ hq2R (fun y hy=>J9e f a y b9 b4 L _ hf3 (hq2m y hy))) ?_;apply Xbn∘qbm∘qac;refine q_l rfl (Y8c q2.arr a _ _ hq2R) ?_;apply (qah);apply K9 (G:=[_,_]) (j:=3) (cj:=69) rfl rfl zb rfl zsb rfl;·intro hg4;replace hg4:=qb hg4;exact (qah) zge
  intro junk4;apply (qaf);refine q_c ?_ ?_<;>intro hc4;·have hpa:Ufb c.l f.switches.l f.zones.l f.reply zone a i:=⟨hc3,by rw [← hq2l];exact hc4⟩;apply qae∘qac∘Xb6∘qbt;refine q_r L R3 zAd ?_;exact ⟨by rw [hat,decide_eq_true (p:=K9c c.l f.switches.l f.zones.l f.reply zone a) ⟨i,by omega,hpa⟩],rfl,fun r hr=>(hR2 r hr).mono hR3⟩
  apply (Xaw);exact Kd ⟨i + 1,by omega,fun j hj=>by
  rcases yk j i with h | h;·exact hal j h
  ·
   (obtain rfl : j = i := by omega);rintro ⟨_,h2⟩;rw [← hq2l] at h2;rcases hc4 with h4 | h4;·exact h4 h2.1
   ·exact h2.2 h4⟩ zm zh zi hR3 zx
 apply qbk∘qac∘qad∘Xbb;refine q_r L R2 zAd ?_;exact ⟨by rw [hat,decide_eq_false (p:=K9c c.l f.switches.l f.zones.l f.reply zone a)];rintro ⟨j,hj,hpa⟩;exact hal j za hpa,rfl,hR2⟩
end Go.Proofs.YtchfclmokpbldaaGreat
