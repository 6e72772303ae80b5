/-
  Restoring power: the switch that is closed next, and whether that gives power to others. By an AI agent; no person has read it.
-/
import Derived.Test.YtchfclmokpbldaaGreatRestA
import Derived.Test.YtchfclmokpbldaaGreatFeedD
import Derived.Test.YtchfclmokpbldaaGreatMadeB
set_option linter.all false
set_option maxHeartbeats 4000000
namespace Go.Proofs.YtchfclmokpbldaaGreat
open Go.Aw Go
set_option maxRecDepth 20000
attribute [local irreducible] CJ LJ DJ Tri YV Gives Uq J2 Km Ur RV J4 OwL.L
section
variable {A B:Prop}
def Urg(h:A→B:=by exact Jy zC rfl):=h
def Ufg(h:A→B:=by exact Jy zOa rfl):=h
end
def U6c (x:Arr Int) (g:Int→Bool) (fid:FuncId) (cap:Array Value) (L:LB) (R:LS) (hx:InR (isl x) R) (hc:∀y∈x.l,Tri Tryz.prog fid (.int .i64 y :: cap.toList).toArray L R (fun v M U=>v=.bool (g y)∧L=M∧R=U)):
 Tri Tryz.prog 234 [x.val,.func (.func fid) #[] cap].toArray L R (fun v M U=>∃r:Int,v=.int .i64 r∧(0≤r↔∃y∈x.l,g y=true)∧L=M∧R=U):=by
 refine Jpb Tryz.call234 hx fun hcap=>?_;refine Jd 19 Tryz.call234 Tryz.func234 rfl rfl rfl ?_;apply Xac∘qaw∘Xb5;refine Jl [(0,.slice _ _ _),(1,_),(7,.int _ _),(8,.int _ _)] zh fun tq0=>?_;refine q_s ([4,5]++rg 8 11) (fun g:{k:Nat // k≤x.l.length∧∀j:Nat,j < k→g (x.l.getD j 0)=false}=>[(8,.int .i64 ((g.1:Nat):Int))]) (fun g=>x.l.length - g.1) (⟨0,by omega,fun j hj=>by omega⟩) ?_;rintro ⟨k,hk,hal⟩ junk;try dsimp only
 apply (Xan);refine q_c ?_ ?_<;>intro hc0;·
  have hg:=Jt (l:=x.l) (k:=k) 0 za;apply Xa4∘Xag;refine Jy zPb rfl ?_;apply Xas∘Urg∘qa7;refine V6c (Jza rfl rfl (hc (x.l.getD k 0) (yi hg))) rfl rfl ?_;rintro v M U ⟨rfl,rfl,rfl⟩;apply (qaf);refine q_c ?_ ?_<;>intro hc1;·apply Xd4∘qbt;refine q_i L R ?_;exact ⟨k,rfl,⟨fun _=>⟨_,yi hg,hc1⟩,fun _=>by omega⟩,rfl,rfl⟩
  apply (Xay);exact Ki (⟨k + 1,by omega,fun j hj=>by
  rcases yl j k with h | h;·exact hal j h
  ·(obtain rfl : j = k := by omega);simpa using hc1⟩) zm zh zg zBb zu
 apply (Xcx);refine q_i L R ?_;refine ⟨-1,rfl,⟨fun h=>by omega,fun ⟨y,hy,hgy⟩=>?_⟩,rfl,rfl⟩;obtain ⟨j,hj,rfl⟩:=yAa hy;have:=hal j za;rw [yh,yC hj] at this;rw [show (some x.l[j]).getD 0=x.l[j] from rfl,hgy] at this;cases this
def Vwb (x:Arr Int) (g:Int→Bool) (fid:FuncId) (cap:Array Value) (L:LB) (R:LS) (hx:InR (isl x) R) (hc:∀y∈x.l,Tri Tryz.prog fid (.int .i64 y :: cap.toList).toArray L R (fun v M U=>v=.bool (g y)∧L=M∧R=U)):
 Tri Tryz.prog 167 [x.val,.func (.func fid) #[] cap].toArray L R (fun v M U=>v=.bool (decide (∃y∈x.l,g y=true))∧L=M∧R=U):=by refine Jd 9 Tryz.call167 Tryz.func167 rfl rfl rfl ?_;apply Xbh∘Xdq;refine Jy zPb rfl ?_;refine Jo rfl (U6c x g fid cap _ _ hx hc) rfl ?_;exact zRd
def Ymd (sw:List XSwitch) (a y:Int):Bool:=decide (y≠a∧(sw.getD y.toNat default).shown= -1)
def Zpd (f:XFeeder) (a y:Int) (b9 b4:Nat) (L:LB) (R:LS) (hf:FeederR f R) (hy:0≤y∧y < f.switches.l.length):
 Tri Tryz.prog 168 [.int .i64 y,.pointer (some ⟨b9,0,none⟩),.pointer (some ⟨b4,0,none⟩)].toArray (⟨b9,[.int .i64 a],3⟩ :: ⟨b4,f.cells,42⟩ :: L) R (fun v M U=>v=.bool (Ymd f.switches.l a y)∧(⟨b9,[.int .i64 a],3⟩ :: ⟨b4,f.cells,42⟩ :: L)=M∧R=U):=by
 have hsR:=hf.sw;have hg:=Jt (l:=f.switches.l) (k:=y.toNat) default za;refine Jd 17 Tryz.call168 Tryz.func168 rfl rfl rfl ?_;apply Xbh∘Xc9∘qac∘Xb3;apply Uy (G:=[_,_,_,_,_,_,_]) (j:=3) (cj:=8) rfl rfl zb rfl zmb rfl;·intro hg4;replace hg4:=qb hg4;apply (Xah);refine Jy (by first | exact Je tb rfl rfl rfl rfl zy (i:=y.toNat) zk za | exact Jn tb rfl rfl rfl rfl (i:=y.toNat) zk za) rfl ?_;exact (Xbx) zKd
 intro junk4;apply (Xbk);refine q_b (⟨b9,[.int .i64 a],3⟩ :: ⟨b4,f.cells,42⟩ :: L) R ?_;exact ⟨by refine congrArg Value.bool ?_;rw [yjb,Ymd,decide_eq_true_iff];simp,rfl,rfl⟩
def Jhf (sw:List XSwitch) (l:List Int):Int:=l.foldl (fun a x=>if (sw.getD x.toNat default).shown≠1 then x else a) (l.getD 0 0)
def Uje (sw:List XSwitch) (l:List Int) (k:Nat):Int:=(l.take k).foldl (fun a x=>if (sw.getD x.toNat default).shown≠1 then x else a) (l.getD 0 0)
def K0c {sw:List XSwitch} {l:List Int} {k:Nat} (h:k < l.length):Uje sw l (k + 1)=if (sw.getD (l.getD k 0).toNat default).shown≠1 then l.getD k 0 else Uje sw l k:=by have hg:=Jt (l:=l) (k:=k) 0 h;rw [Uje,yfa,hg,Option.toList_some,yBa];rfl
def J9b (c:List XCut) (sw:List XSwitch) (zn:List Int) (rp zone a:Int) (k:Nat):Prop:=
 ((k:Int)≠zone∧(c.getD k default).off=true)∧a∈Zaa sw zn rp (zn.getD k 0)∧¬∃y∈Zaa sw zn rp (zn.getD k 0),Ymd sw a y=true
instance (c:List XCut) (sw:List XSwitch) (zn:List Int) (rp zone a:Int) (k:Nat):Decidable (J9b c sw zn rp zone a k):=by unfold J9b;infer_instance
def Udc (c:List XCut) (sw:List XSwitch) (zn:List Int) (rp zone a:Int):Prop:=∃k:Nat,k < zn.length∧J9b c sw zn rp zone a k
instance (c:List XCut) (sw:List XSwitch) (zn:List Int) (rp zone a:Int):Decidable (Udc c sw zn rp zone a):=by unfold Udc;infer_instance
def Ytd (c:Arr XCut) (f:XFeeder) (zone:Int) (L:LB) (R:LS) (hcR:InR (Uyc c) R) (hf:FeederR f R) (hfe:feedE f.switches.l f.zones.l f.reply=0) (hz:0≤zone∧zone < f.zones.l.length) (hcl:c.l.length=f.zones.l.length):
 Tri Tryz.prog 88 [c.val,f.val,.int .i64 zone].toArray L R (fun v M U=>v=.tuple #[.int .i64 (Jhf f.switches.l (Zaa f.switches.l f.zones.l f.reply (f.zones.l.getD zone.toNat 0))),.bool (decide (Udc c.l f.switches.l f.zones.l f.reply zone (Jhf f.switches.l (Zaa f.switches.l f.zones.l f.reply (f.zones.l.getD zone.toNat 0)))))]∧L=M∧∀r∈R,InR r U):=by
 have hsR:=hf.sw;have hzR:=hf.zn;have hok:=Yd hfe;have hsn:=hok.sn;have hzl:=hok.zl;have hzg:=Jt (l:=f.zones.l) (k:=zone.toNat) 0 za;have hzr:=hok.zr zone.toNat za;refine Jd 76 Tryz.call88 Tryz.func88 rfl rfl rfl ?_;apply (Xaf);intro b4;apply Xbw∘qa4;refine Kh tb [0,1,2,3,4,5,6,7] _ Kr zc ye ?_;refine K0 zrb rfl rfl rfl ?_;apply (Xbv);refine K0 (by first | exact Je tb rfl rfl rfl rfl zy (i:=zone.toNat) zk za | exact Jn tb rfl rfl rfl rfl (i:=zone.toNat) zk za) rfl rfl rfl ?_;apply (qbl);refine Yn rfl (Vqc f (f.zones.l.getD zone.toNat 0) _ _ hf) rfl rfl ?_;rintro v M U ⟨q,rfl,hqk,hql,rfl,rfl⟩;refine ⟨zg,zq,?_⟩;refine K0 (Ud zob) rfl rfl rfl ?_;apply (qb9);have hqn:=Zac (sw:=f.switches.l) (zn:=f.zones.l) (rp:=f.reply) (s:=f.zones.l.getD zone.toNat 0);rw [← hql] at hqn;have hq0:0 < q.l.length:=by rw [hql,Zaa,if_neg za,Zpa hok.up za za,yw];omega
 have hqm:∀x∈q.l,0≤x∧x < f.switches.l.length:=fun x hx=>by have:=Y4b (sw:=f.switches.l) (zn:=f.zones.l) (rp:=f.reply) (s:=f.zones.l.getD zone.toNat 0) (x:=x) (by rw [← hql];exact hx);omega
 have hqg0:=Jt (l:=q.l) (k:=0) 0 hq0;refine V1 (A:=[]) (wd:=1) [] yf ze hqk yg ?_;refine U0 zya ?_;obtain ⟨R2,hR2e⟩:∃R2,R2=isl q.arr :: R:=⟨_,rfl⟩;have hR2:∀r∈R,InR r R2:=fun r hr=>Ja (by rw [hR2e];exact .tail _ hr);have hqR:InR (isl q.arr) R2:=Ja zea;have hcR2:=hcR.mono hR2;have hf2:=hf.mono hR2;have hsR2:=hf2.sw;have hzR2:=hf2.zn;refine Ubb zRc ?_;apply Xcr∘qdt∘qa7∘qaq;intro b9;apply qcn∘qaw∘Xb5;refine Jl [(0,.slice _ _ _),(2,.int _ _),(4,.pointer _),(9,.pointer _),(26,.slice _ _ _),(27,.int _ _),(28,.int _ _)] zh fun tq0=>?_;refine q_p ([11]++rg 28 13) ((⟨fun g=>[(28,.int .i64 ((g.1.1:Nat):Int))],fun g=>⟨b9,[.int .i64 g.1.2],3⟩ :: ⟨b4,f.cells,42⟩ :: L,fun _=>R2,fun g=>q.l.length - g.1.1⟩:Head {g:Nat×Int // g.1≤q.l.length∧g.2=Uje f.switches.l q.l g.1})) (⟨(0,q.l.getD 0 0),by dsimp only;omega,rfl⟩) ?_;rintro ⟨⟨k,a⟩,hk,ha⟩ junk;try dsimp only
 dsimp only at hk ha;apply (Xan);refine q_c ?_ ?_<;>intro hc0;·
  have hqg:=Jt (l:=q.l) (k:=k) 0 za;have hqr:=hqm _ (yi hqg);have hsg:=Jt (l:=f.switches.l) (k:=(q.l.getD k 0).toNat) default za;apply qbb∘Urg∘qa7∘Xag∘Xah;refine Jy zbb rfl ?_;apply Xbx∘Xat;refine q_c ?_ ?_<;>intro hc1;·apply Xa9∘qcn∘Xa8;exact q_k ⟨(k + 1,q.l.getD k 0),by dsimp only;omega,by dsimp only;rw [K0c za,if_pos hc1]⟩
  apply (Xay);exact q_k ⟨(k + 1,a),by dsimp only;omega,by dsimp only;rw [K0c za,if_neg hc1];exact ha⟩
 obtain rfl:k=q.l.length:=by omega
 have hat:(Jhf f.switches.l (Zaa f.switches.l f.zones.l f.reply (f.zones.l.getD zone.toNat 0)))=a:=by rw [ha,Uje,yeb,← hql];rfl
 apply qcf∘Xaz;refine Jl [(0,.slice _ _ _),(2,.int _ _),(4,.pointer _),(9,.pointer _),(42,.slice _ _ _),(43,.int _ _),(44,.int _ _)] zh fun tq1=>?_;refine q_p ([6,7,12,13,14,15]++rg 44 31) ((⟨fun g=>[(44,.int .i64 ((g.1:Nat):Int))],fun g=>⟨b9,[.int .i64 a],3⟩ :: ⟨b4,f.cells,42⟩ :: L,fun _=>R2,fun g=>f.zones.l.length - g.1⟩:Head {i:Nat // i≤f.zones.l.length∧∀j:Nat,j < i→¬ J9b c.l f.switches.l f.zones.l f.reply zone a j})) (⟨0,by omega,fun j hj=>by omega⟩) ?_;rintro ⟨i,hi,hal⟩ junk;try dsimp only
 apply (Xan);refine q_c ?_ ?_<;>intro hc2;·
  have hig:=Jt (l:=f.zones.l) (k:=i) 0 za;have hcg:=Jt (l:=c.l) (k:=i) default za;apply Xa4∘Ufg∘qa7∘qad∘Xby∘qaa∘Xcc;apply Kd (G:=[_,_,_,_,_,_]) (j:=3) (cj:=52) rfl rfl zb rfl zmb rfl;·intro hg4;replace hg4:=qb hg4;exact (Xas∘Ufg∘Xbx∘qb4) qai
  intro junk4;apply (qaf);refine q_c ?_ ?_<;>intro hc3;·
   refine K7 (Kq (Kb (Jb (Jh ?_))));apply (Xae);exact Ki ⟨i + 1,by omega,fun j hj=>by
   rcases yl j i with h | h;·exact hal j h
   ·
    (obtain rfl : j = i := by omega);rintro ⟨⟨h1,h2⟩,_⟩;rcases hc3 with h3 | h3;·exact h1 h3
    ·rw [h2] at h3;cases h3⟩ zm zh zg zBb zu
  apply (qbv);refine Jy zrb rfl ?_;apply (qaa);refine Jo rfl (Vqc f (f.zones.l.getD i 0) _ _ hf2) rfl ?_;rintro v M U ⟨q2,rfl,hq2k,hq2l,rfl,rfl⟩;apply (Xdj);have hq2m:∀x∈q2.l,0≤x∧x < f.switches.l.length:=fun x hx=>by have:=Y4b (sw:=f.switches.l) (zn:=f.zones.l) (rp:=f.reply) (s:=f.zones.l.getD i 0) (x:=x) (by rw [← hq2l];exact hx);omega
  refine V1 (A:=[]) (wd:=1) [] yf ze hq2k yg ?_;refine U0 zya ?_;obtain ⟨R3,hR3e⟩:∃R3,R3=isl q2.arr :: R2:=⟨_,rfl⟩;have hR3:∀r∈R2,InR r R3:=fun r hr=>Ja (by rw [hR3e];exact .tail _ hr);have hq2R:InR (isl q2.arr) R3:=Ja zta;have hf3:=hf2.mono hR3;refine Ubb (show _=R3 by rw [hR3e]) ?_;apply (Xcr);refine Jy (Uwc rfl) rfl ?_;refine q_l rfl (Vwb q2.arr (Ymd f.switches.l a) 168 #[.pointer (some ⟨b9,0,none⟩),.pointer (some ⟨b4,0,none⟩)] _ _ hq2R (fun y hy=>Zpd f a y b9 b4 L _ hf3 (hq2m y hy))) ?_;apply qaz∘Xdq∘qac;refine q_l rfl (J4d q2.arr a _ _ hq2R) ?_;apply (qah);apply Uy (G:=[_,_]) (j:=3) (cj:=69) rfl rfl zb rfl zmb rfl;·intro hg4;replace hg4:=qb hg4;exact (qah∘qb4) qai
  intro junk4;apply (qaf);refine q_c ?_ ?_<;>intro hc4;·have hpa:J9b c.l f.switches.l f.zones.l f.reply zone a i:=⟨hc3,by rw [← hq2l];exact hc4⟩;apply qae∘qac∘Xbw∘qbt;refine q_r L R3 zmd ?_;exact ⟨by rw [hat,decide_eq_true (p:=Udc c.l f.switches.l f.zones.l f.reply zone a) ⟨i,by omega,hpa⟩],rfl,fun r hr=>(hR2 r hr).mono hR3⟩
  apply (Xay);exact Ki ⟨i + 1,by omega,fun j hj=>by
  rcases yl j i with h | h;·exact hal j h
  ·
   (obtain rfl : j = i := by omega);rintro ⟨_,h2⟩;rw [← hq2l] at h2;rcases hc4 with h4 | h4;·exact h4 h2.1
   ·exact h2.2 h4⟩ zm zh zg hR3 zu
 apply qbk∘qac∘qad∘Xbk;refine q_r L R2 zmd ?_;exact ⟨by rw [hat,decide_eq_false (p:=Udc c.l f.switches.l f.zones.l f.reply zone a)];rintro ⟨j,hj,hpa⟩;exact hal j za hpa,rfl,hR2⟩
end Go.Proofs.YtchfclmokpbldaaGreat
