/-
  Draws: MakeS, Make, BranchW, Draw1, Draw2, FitS, Fit, MadeS, Made, New, Base, in one text. By an AI agent; no person has read it.
-/
import Derived.Test.YtchfclmokpbldaaGreatFlows
import Derived.Test.YtchfclmokpbldaaGreatOwn
set_option linter.all false
set_option maxHeartbeats 4000000
section
variable {A B:Prop}
def U5e(h:A→B:=by exact Kz (Jm tb rfl rfl rfl rfl (i:=(a.doors.l.getD k default).road.toNat) zo zc) rfl rfl rfl rfl):=h
def Kyf(h:A→B:=by exact Kz (Jm tb rfl rfl rfl rfl (i:=k) zo zc) rfl rfl rfl rfl):=h
def Jhf(h:A→B:=by exact Ju rfl (Jra zx hx hk zc) rfl):=h
def J4f(h:A→B:=by exact Ju rfl (Jra zx hx hk1 zc) rfl):=h
def Uvf(h:A→B:=by exact Ju rfl (Zx zx hx hk2 zc) rfl):=h
def Usf(h:A→B:=by exact Y6 zFb rfl):=h
def Jvf(h:A→B:=by exact J0 (Kf (qs:=[(0,(Value.slice _ _ _).cells.toList)]) (out:=[_,_]) tb rfl rfl rfl rfl) rfl):=h
def Kkf(h:A→B:=by exact K3 rfl (Jq (f:=XRoad.cells) (p:=rl) (a:=rr) tb rfl rfl rfl rfl (hokr) zm zCb rfl zz) rfl rfl):=h
def Kef(h:A→B:=by exact K3 rfl (Jq (f:=Jj) (p:=fl) (a:=q) tb rfl rfl rfl rfl (hokf) zm zCb rfl zz) rfl rfl):=h
def Jmf(h:A→B:=by exact Zta 11 hT26 yd zf rfl rfl rfl rfl rfl zIb):=h
def Kuf(h:A→B:=by exact Zta 12 hT26 yd zf rfl rfl rfl rfl rfl zIb):=h
def Jjf(h:A→B:=by exact K3 rfl (Jq (f:=XRoad.cells) (p:=rl) (a:=rr) tb rfl rfl rfl rfl (hokr2) zm zCb rfl zz) rfl rfl):=h
def Kxf(h:A→B:=by exact K3 rfl (Jq (f:=Jj) (p:=fl) (a:=q) tb rfl rfl rfl rfl (hokf2) zm zCb rfl zz) rfl rfl):=h
def J3f(h:A→B:=by exact Zta 11 hT35 yd zf rfl rfl rfl rfl rfl zIb):=h
def Kqf(h:A→B:=by exact Zta 12 hT35 yd zf rfl rfl rfl rfl rfl zIb):=h
def Jxg(h:A→B:=by exact Kh tb [] [0,1,2,3,4,5,6,7,8,9,10] [11] (_) _ Kn zf zk (by (repeat (first | apply List.Sublist.cons (a:=Blk.mk b20 _ _) | apply List.Sublist.cons_cons));exact yu _)):=h
def V8f(h:A→B:=by exact Kh tb [] [0,1,2,3,4,5,6,7,8,9,10] [11] (_) _ Kn zf zk (by (repeat (first | apply List.Sublist.cons (a:=Blk.mk b14 _ _) | apply List.Sublist.cons_cons));exact yu _)):=h
def J3g(h:A→B:=by exact Kh tb [] [0,1,2,3,4,5,6,7] [8] ([Blk.mk b7 _ _]) _ Kn zf zk (by (repeat (first | apply List.Sublist.cons (a:=Blk.mk b7 _ _) | apply List.Sublist.cons_cons));exact yu _)):=h
def Jug(h:A→B:=by exact Kv rfl (Zx zx hx hk4 zc) rfl rfl):=h
def Zjf(h:A→B:=by exact Kv rfl (Jra zx hx hkk zc) rfl rfl):=h
def Vif(h:A→B:=by exact Keb zFb rfl rfl rfl):=h
def Zxf(h:A→B:=by exact Y6 (Jq (f:=Jj) (p:=tf) (a:=_) tb rfl rfl rfl rfl (hok) zm zCb rfl zz) rfl):=h
def Vkf(h:A→B:=by exact Y6 (Jq (f:=Jj) (p:=td) (a:=_) tb rfl rfl rfl rfl (hok2) zm zCb rfl zz) rfl):=h
def Kjg(h:A→B:=by exact Ju rfl (Zx zx hx hk1 zc) rfl):=h
def Vjf(h:A→B:=by exact J0 (Jo tb ((⟨.own b75 pl.l.length [],nl⟩:OwL Int)) _ rfl rfl ((show _=Value.slice _ _ _ from rfl).trans (Uq hDl)) rfl zi (i:=rr.fr.toNat) zo zw) rfl):=h
def J7g(h:A→B:=by exact J0 (Jo tb ((⟨.own b75 pl.l.length [],nl.set rr.fr.toNat (nl.getD rr.fr.toNat 0 + q)⟩:OwL Int)) _ rfl rfl ((show _=Value.slice _ _ _ from rfl).trans (Uq (by rw [yN];exact hDl))) rfl zi (i:=rr.to.toNat) zo zw) rfl):=h
end
section
namespace Go.Proofs.YtchfclmokpbldaaGreat
open Go.Aw Go
def Zy (a : XAir) (s : XSetting) : Nat → List XSpan
 | 0=>List.replicate a.mine.roads.l.length ⟨0,0⟩
 | k + 1=>
  let d:=a.doors.l.getD k default
  let x:=Z9 d (s.doors.l.getD k 0)
  let y:=(Zy a s k).getD d.road.toNat default
  (Zy a s k).set d.road.toNat ⟨y.low + x.low,y.high + x.high⟩
def Jza (a : XAir) (s : XSetting) : ∀ k, (Zy a s k).length = a.mine.roads.l.length
 | 0=>by simp [Zy]
 | k + 1=>by simp only [Zy,yN];exact Jza a s k
def J0b {a:XAir} {s:XSetting} (ha:AirOk a) {r:Nat} (hr:r < a.mine.roads.l.length):∀k,k≤a.doors.l.length→∃x:XSpan,(Zy a s k)[r]?=some x∧
 (Uj a s r k).low=(a.mine.roads.l.getD r default).rest.low + x.low∧(Uj a s r k).high=(a.mine.roads.l.getD r default).rest.high + x.high
 | 0,_=>⟨⟨0,0⟩,by simp [Zy,hr],by simp [Uj],by simp [Uj]⟩
 | k + 1,hk=>by
  obtain ⟨x,h1,h2,h3⟩:=J0b (s:=s) ha hr k zc
  have hd:=ha.door k _ (Js default (show k < a.doors.l.length by omega))
  have hd0:=hd.1.road
  simp only [Zy,Uj]
  by_cases he:(a.doors.l.getD k default).road=(r:Int)
  ·rw [if_pos he]
   have he':(a.doors.l.getD k default).road.toNat=r:=by omega
   rw [he']
   have hg:(Zy a s k).getD r default=x:=by rw [yh,h1];rfl
   refine ⟨_,yB (by rw [Jza];exact hr),?_,?_⟩ <;> rw [hg] <;> dsimp only <;> omega
  ·rw [if_neg he]
   have he':¬ (a.doors.l.getD k default).road.toNat=r:=by omega
   exact ⟨x,by rw [yW he'];exact h1,h2,h3⟩
def Vd (a : XAir) : Nat → List Nat
 | 0=>[]
 | k + 1=>if (a.mine.roads.l.getD k default).closed=true then Vd a k else Vd a k ++ [k]
def Umd (a : XAir) (v : Nat) : Nat → List Int
 | 0=>[]
 | k + 1=>
  if (a.mine.roads.l.getD k default).closed=true then Umd a v k
  else if (a.mine.roads.l.getD k default).fr=(v:Int)∨(a.mine.roads.l.getD k default).to=(v:Int) then Umd a v k ++ [((Vd a k).length:Int)]
  else Umd a v k
def Vwa (a : XAir) : ∀ k, (Vd a k).length ≤ k
 | 0=>by simp [Vd]
 | k + 1=>by
  have:=Vwa a k
  simp only [Vd]
  split
  ·omega
  ·simp;omega
def Kva (a : XAir) (v : Nat) : ∀ k, (Umd a v k).length ≤ k
 | 0=>by simp [Umd]
 | k + 1=>by
  have:=Kva a v k
  simp only [Umd]
  split
  ·omega
  ·split
   ·simp;omega
   ·omega
structure XNet where
 pipes:Arr XPipe
 at_:Arr (Arr Int)
abbrev XNet.val (n:XNet):Value:=.agg #[n.pipes.val,n.at_.val]
def XNet.cells (n:XNet):List Value:=[n.pipes.val,n.at_.val]
def Juf (x:Arr Int):List Value:=[x.val]
abbrev Zga (x:Arr XPipe):Sl:=x.sl 12 XPipe.cells (x.l.map XPipe.sl)
abbrev V6a (x:Arr (Arr Int)):Sl:=x.sl 1 Juf (x.l.map isl)
structure NetIs (a:XAir) (s:XSetting) (n:XNet):Prop where
 nums:n.pipes.l.map XPipe.num=(Vd a a.mine.roads.l.length).map fun (i:Nat)=>(i:Int)
 pipe:∀p∈n.pipes.l,PipeIs a s p.num p
 atl:n.at_.l.length=a.mine.places.l.length
 at_:∀(v:Nat) (x:Arr Int),n.at_.l[v]?=some x→x.l=Umd a v a.mine.roads.l.length
structure MF (a:XAir) (s:XSetting) (k:Nat) (F:List (OwL XBlow)):Prop where
 len:F.length=a.mine.roads.l.length
 ok:∀(r:Nat) (p:OwL XBlow),F[r]?=some p→p.ok 5 XBlow.cells∧p.l=blowsTo a s r k
def MF.zero (a:XAir) (s:XSetting):MF a s 0 (List.replicate a.mine.roads.l.length OwL.nil):=by exact uaP
def MF.stay {a:XAir} {s:XSetting} {k:Nat} {F:List (OwL XBlow)} (h:MF a s k F) (hs:s.fans.l.getD k 0=0):MF a s (k + 1) F:=by refine ⟨h.len,fun r p hp=>?_⟩;rw [blowsTo,if_neg (fun h=>h.1 hs)];exact h.ok r p hp
def MF.next {a : XAir} {s : XSetting} {k : Nat} {F : List (OwL XBlow)} (h : MF a s k F) (hs : ¬ s.fans.l.getD k 0 = 0) {i : Nat} (hi : (i : Int) = (a.fans.l.getD k default).road) {p : OwL XBlow} (hp : F[i]? = some p) {o : Ow}
 (ho:(⟨o,p.l ++ [⟨a.fans.l.getD k default,s.fans.l.getD k 0⟩]⟩:OwL XBlow).ok 5 XBlow.cells):MF a s (k + 1) (F.set i ⟨o,p.l ++ [⟨a.fans.l.getD k default,s.fans.l.getD k 0⟩]⟩):=by
 refine ⟨by simp [h.len],fun r q hq=>?_⟩;rw [yE] at hq;split at hq;·
  rename_i hri;subst hri;split at hq;·cases hq;refine ⟨ho,?_⟩;dsimp only;rw [blowsTo,if_pos ⟨hs,hi.symm⟩,(h.ok i p hp).2]
  ·cases hq
 ·rename_i hri;rw [blowsTo,if_neg (fun h=>hri zc)];exact h.ok r q hq
structure MA (a:XAir) (k:Nat) (G:List (OwL Int)):Prop where
 len:G.length=a.mine.places.l.length
 ok:∀(v:Nat) (p:OwL Int),G[v]?=some p→p.ok 1 Jj∧p.l=Umd a v k
def MA.zero (a:XAir):MA a 0 (List.replicate a.mine.places.l.length OwL.nil):=by exact uaP
def MA.stay {a:XAir} {k:Nat} {G:List (OwL Int)} (h:MA a k G) (hc:(a.mine.roads.l.getD k default).closed=true):MA a (k + 1) G:=by refine ⟨h.len,fun v p hp=>?_⟩;rw [Umd,if_pos hc];exact h.ok v p hp
def MA.next {a : XAir} {k : Nat} {G : List (OwL Int)} (h : MA a k G) (hc : ¬ (a.mine.roads.l.getD k default).closed = true) {i j : Nat} (hi : (i : Int) = (a.mine.roads.l.getD k default).fr) (hj : (j : Int) = (a.mine.roads.l.getD k default).to) (hne : i ≠ j)
 {p q:OwL Int} (hp:G[i]?=some p) (hq:G[j]?=some q) {o o':Ow} {n:Int} (hn:n=((Vd a k).length:Int)) (ho:(⟨o,p.l ++ [n]⟩:OwL Int).ok 1 Jj) (ho':(⟨o',q.l ++ [n]⟩:OwL Int).ok 1 Jj):
 MA a (k + 1) ((G.set i ⟨o,p.l ++ [n]⟩).set j ⟨o',q.l ++ [n]⟩):=by
 refine ⟨by simp [h.len],fun v x hx=>?_⟩;rw [Umd,if_neg hc];rw [yE] at hx;split at hx;·
  rename_i hv;subst hv;split at hx;·cases hx;refine ⟨ho',?_⟩;dsimp only;rw [if_pos (.inr hj.symm),(h.ok j q hq).2,hn]
  ·cases hx
 ·
  rename_i hv;rw [yE] at hx;split at hx;·
   rename_i hv2;subst hv2;split at hx;·cases hx;refine ⟨ho,?_⟩;dsimp only;rw [if_pos (.inl hi.symm),(h.ok i p hp).2,hn]
   ·cases hx
  ·rename_i hv2;rw [if_neg zc];exact h.ok v x hx
structure MP (a:XAir) (s:XSetting) (S:LS) (k:Nat) (P:OwL XPipe):Prop where
 ok:P.ok 12 XPipe.cells
 nums:P.l.map XPipe.num=(Vd a k).map fun (i:Nat)=>(i:Int)
 pipe:∀p∈P.l,PipeIs a s p.num p∧InR p.sl S
def MP.length {a:XAir} {s:XSetting} {S:LS} {k:Nat} {P:OwL XPipe} (h:MP a s S k P):P.l.length=(Vd a k).length:=by have:=congrArg List.length h.nums;simpa using this
def MP.zero (a:XAir) (s:XSetting) (S:LS):MP a s S 0 OwL.nil:=⟨OwL.nil_ok,rfl,fun _ h=>by cases h⟩
def MP.stay {a:XAir} {s:XSetting} {S:LS} {k:Nat} {P:OwL XPipe} (h:MP a s S k P) (hc:(a.mine.roads.l.getD k default).closed=true):MP a s S (k + 1) P:=
 ⟨h.ok,by rw [Vd,if_pos hc];exact h.nums,h.pipe⟩
def MP.next {a:XAir} {s:XSetting} {S:LS} {k:Nat} {P:OwL XPipe} (h:MP a s S k P) (hc:¬ (a.mine.roads.l.getD k default).closed=true) {p:XPipe} (hp:PipeIs a s k p) (hs:InR p.sl S) {o:Ow} (ho:(⟨o,P.l ++ [p]⟩:OwL XPipe).ok 12 XPipe.cells):
 MP a s S (k + 1) ⟨o,P.l ++ [p]⟩:=by
 refine ⟨ho,?_,fun q hq=>?_⟩;·rw [Vd, if_neg hc];simp [h.nums,hp.num]
 ·
  rcases List.mem_append.1 hq with hq | hq;·exact h.pipe q hq
  ·rw [List.mem_singleton.1 hq];refine ⟨?_,hs⟩;rw [hp.num];exact hp
def Upc {α:Type} {T:TypeId} {f:α→List Value} (n:Nat):(List.replicate n (OwL.nil:OwL α)).flatMap (OwL.L T f)=[]:=by
 induction n with
 | zero=>rfl
 | succ n ih=>rw [ylb,yQ,ih];rfl
def Uxc {α:Type} (n:Nat):K0c [.slice none 0 0] n=(List.replicate n (OwL.nil:OwL α)).flatMap Khb:=Zfb (f:=Khb) (x:=OwL.nil) rfl n
def Jhe (n:Nat):K0c [.int .i64 0,.int .i64 0] n=(List.replicate n (⟨0,0⟩:XSpan)).flatMap XSpan.cells:=Zfb (f:=XSpan.cells) (x:=⟨0,0⟩) rfl n
end Go.Proofs.YtchfclmokpbldaaGreat
end
section
namespace Go.Proofs.YtchfclmokpbldaaGreat
open Go.Aw Go
set_option maxRecDepth 20000
attribute [local irreducible] CJ LJ DJ Tri YV Gives U7 Kb Kp U8 RV Ke OwL.L
def Ugc (a:XAir) (s:XSetting) (L:LB) (R:LS) (hm:AirR a R) (hs:SetR s R) (ha:AirOk a) (hf:FitOk a s):
 Tri Tryz.prog 113 [a.val,s.val].toArray L R (fun v M U=>∃n:XNet,v=n.val∧NetIs a s n∧L=M∧Zga n.pipes :: V6a n.at_ :: R=U):=by
 have hmr:=hm.roads;have hmp:=hm.places;have hfa:=hm.fans;have hdo:=hm.doors;have hsf:=hs.fans;have hsd:=hs.doors;have hnd:=ha.ndoors;have hnf:=ha.nfans;have hlf:=hf.lf;have hld:=hf.ld;have hnr:=ha.mine.roads;have hnp:=ha.mine.places;refine Jd 181 Tryz.call113 Tryz.func113 rfl rfl rfl ?_;apply (Xag);intro b2;apply (qax);intro b3;apply (qaq);intro b4;apply qam∘Xcg∘qc7;rintro v M U ⟨b20,rfl,rfl,hR20⟩;replace hR20:=hR20.symm;subst hR20;apply qc4∘qam∘Xcg∘qc7;rintro v M U ⟨b25,rfl,rfl,hR25⟩;replace hR25:=hR25.symm;subst hR25;apply Xbz∘Xbh;refine Jh [(2,.pointer _),(3,.pointer _),(4,.pointer _),(5,.slice _ _ _),(6,.slice _ _ _),(27,.slice _ _ _),(28,.int _ _),(29,.int _ _)] zg fun tq0=>?_;refine K8 ([7,8,9]++rg 29 35) ((⟨fun g=>[(29,.int .i64 ((g.1:Nat):Int))],fun g=>⟨b25,K0c [.slice none 0 0] a.mine.roads.l.length,223⟩ :: ⟨b20,(Zy a s g.1).flatMap XSpan.cells,90⟩ :: ⟨b4,[.slice none 0 0,.slice none 0 0],221⟩ :: ⟨b3,s.cells,80⟩ :: ⟨b2,a.cells,32⟩ :: L,fun _=>R,fun g=>a.doors.l.length - g.1⟩:Head {k:Nat // k≤a.doors.l.length})) (⟨0,by omega⟩) zg (by dsimp only;rw [Zy,← Jhe];exact yu _) zJb ?_;rintro ⟨k,hk⟩ junk;try dsimp only
 apply (Xay);refine q_c ?_ ?_<;>intro hc0;·
  have hd:=Js (l:=a.doors.l) (k:=k) default zc;have hsk:=Js (l:=s.doors.l) (k:=k) 0 zc;have hdk:=ha.door _ _ hd;have hdr:=hdk.1.road;have hrl:=Jza a s k;obtain ⟨y,hy,hy1,hy2⟩:=J0b (s:=s) ha (r:=(a.doors.l.getD k default).road.toNat) zc k zc;have hyb:=Yf (s:=s) ha (r:=(((a.doors.l.getD k default).road.toNat:Nat):Int)) zc k zc;have hrb:=Ysa hdk.1 (s.doors.l.getD k 0);have hrr:=(ha.mine.road _ _ (Js (l:=a.mine.roads.l) (k:=(a.doors.l.getD k default).road.toNat) default zc)).rest;have hyg:(Zy a s k).getD (a.doors.l.getD k default).road.toNat default=y:=getD_some hy;apply Xbv∘qa3∘qdk∘qaq;intro b8;apply qad∘Xem;refine Kg tb [0,1,2,3,4,5,6,7,8] _ Kn zf ye ?_;refine Kq zzb rfl rfl rfl ?_;apply Xd6∘qbl;refine q_d rfl (Vse (a.doors.l.getD k default) (s.doors.l.getD k 0) _ _ (hdo.door hd)) ?_;apply (qbr);intro b9;apply qbg∘qb9∘Jxg∘Xd2∘U5e∘qcv∘qcr∘Xah∘qcj∘U5e∘qcv∘qba;refine Jja (v:=Value.int _ _) rfl rfl rfl rfl zD zaa (by exact Koa (x':=⟨y.low + (Z9 (a.doors.l.getD k default) (s.doors.l.getD k 0)).low,y.high⟩) yf zj zi ze) ze zk ?_;apply (qbu);obtain ⟨y2,hy2e⟩:∃y2:XSpan,y2=⟨y.low + (Z9 (a.doors.l.getD k default) (s.doors.l.getD k 0)).low,y.high⟩:=⟨_,rfl⟩;have hy':((Zy a s k).set (a.doors.l.getD k default).road.toNat ⟨y.low + (Z9 (a.doors.l.getD k default) (s.doors.l.getD k 0)).low,y.high⟩)[(a.doors.l.getD k default).road.toNat]?=some y2:=by rw [hy2e];exact yB zc
  have hy2h:y2.high=y.high:=by rw [hy2e]
  apply Jxg∘Xd2∘U5e∘qcv∘qcr∘Xah∘qcj∘U5e∘qcv∘qba;refine Jja (v:=Value.int _ _) rfl rfl rfl rfl zD zaa (by exact Koa (x':=⟨y2.low,y2.high + (Z9 (a.doors.l.getD k default) (s.doors.l.getD k 0)).high⟩) yf zj zi ze) ze zk ?_;apply (Xer);subst hy2e;exact Ka ⟨k + 1,by omega⟩ zp zg (by dsimp only;rw [yra,Zy];(try dsimp only);rw [hyg];exact zk) zJb zt
 obtain rfl:k=a.doors.l.length:=by omega
 apply qcf∘Xbh;refine Jh [(2,.pointer _),(3,.pointer _),(4,.pointer _),(5,.slice _ _ _),(6,.slice _ _ _),(65,.slice _ _ _),(66,.int _ _),(67,.int _ _)] zg fun tq1=>?_;refine K8 ([10,11]++rg 67 30) ((⟨fun g=>[(67,.int .i64 ((g.1.1:Nat):Int))],fun g=>⟨b25,g.1.2.flatMap Khb,223⟩ :: ⟨b20,(Zy a s a.doors.l.length).flatMap XSpan.cells,90⟩ :: ⟨b4,[.slice none 0 0,.slice none 0 0],221⟩ :: ⟨b3,s.cells,80⟩ :: ⟨b2,a.cells,32⟩ :: (g.1.2.flatMap (OwL.L 292 XBlow.cells) ++ L),fun _=>R,fun g=>a.fans.l.length - g.1.1⟩:Head {g:Nat×List (OwL XBlow) // g.1≤a.fans.l.length∧MF a s g.1 g.2})) (⟨(0,List.replicate a.mine.roads.l.length OwL.nil),by omega,MF.zero a s⟩) zg (by dsimp only;rw [Upc,← Uxc];exact yu _) zJb ?_;rintro ⟨⟨k,F⟩,hk,hF⟩ junk;try dsimp only
 dsimp only at hk hF;apply (Xay);refine q_c ?_ ?_<;>intro hc1;·
  have hd:=Js (l:=a.fans.l) (k:=k) default zc;have hsk:=Js (l:=s.fans.l) (k:=k) 0 zc;have hdk:=ha.fan _ _ hd;have hdr:=hdk.1.road;have hFl:=hF.len;have hfl:(a.fans.l.getD k default).road.toNat < F.length:=by omega
  obtain ⟨p,hp⟩:=Ki hfl;have hpk:=hF.ok _ _ hp;have hpl:=Ufa (a:=a) (s:=s) (r:=(((a.fans.l.getD k default).road.toNat:Nat):Int)) k;rw [← hpk.2] at hpl;apply Xbv∘qa3∘Xeg;intro b11;apply qad∘Xbe∘Xaf∘qa3∘qa7∘Xaw;refine q_c ?_ ?_<;>intro hc2;·refine Kh tb [78,79,80] [0,1,2,3,4,5,6,7,8,9,10,11,12,13,14,15] [16,17,18] ([Blk.mk b11 _ _,Blk.mk b25 _ _,Blk.mk b3 _ _]) _ Kn zf zk (by (repeat (first | apply List.Sublist.cons (a:=Blk.mk b25 _ _) | apply List.Sublist.cons_cons));exact yu _) ?_;refine V6 zrd rfl rfl rfl rfl ?_;apply Xcw∘Xd2;refine Kz zWc rfl rfl rfl rfl ?_;apply qcr∘qde∘Xcy∘qc5∘qci;refine Kz (Kf (qs:=[(0,(Value.agg _).cells.toList),(1,(Value.int _ _).cells.toList)]) (out:=[_,_,_,_,_]) tb rfl rfl rfl rfl) rfl rfl rfl rfl ?_;refine Keb zhc rfl rfl rfl ?_;rintro v M U ⟨b93,rfl,rfl,hR93⟩;replace hR93:=hR93.symm;subst hR93;apply (Xb3);refine V7a (Jq (f:=XBlow.cells) (a:=⟨a.fans.l.getD k default,s.fans.l.getD k 0⟩) tb rfl rfl rfl rfl (hpk.1) zm zCb rfl zz) rfl rfl rfl ?_;rintro v M U ⟨o94,rfl,hok94,rfl,rfl⟩;apply (qa1);refine Kq zWc rfl rfl rfl ?_;refine Jja (v:=Value.slice _ _ _) rfl rfl rfl rfl zD zaa (by exact Koa (x':=⟨o94,p.l ++ [⟨a.fans.l.getD k default,s.fans.l.getD k 0⟩]⟩) yf zj zi ze) ze zk ?_;apply (Xer);exact ube
  apply (Xbk);exact ube
 obtain rfl:k=a.fans.l.length:=by omega
 apply qbk∘Xcg∘qc7;rintro v M U ⟨b101,rfl,rfl,hR101⟩;replace hR101:=hR101.symm;subst hR101;refine J0 (Kf (qs:=[(1,(Value.slice _ _ _).cells.toList)]) (out:=[_,_]) tb rfl rfl rfl rfl) rfl ?_;apply (qaq);intro b12;apply Xbi∘qab∘Xbh;refine Jh [(4,.pointer _),(5,.slice _ _ _),(6,.slice _ _ _),(12,.pointer _),(105,.slice _ _ _),(106,.int _ _),(107,.int _ _)] zg fun tq2=>?_;have mem:∀p∈F,∃r:Nat,F[r]?=some p:=fun p hp=>List.mem_iff_getElem?.1 hp;refine Kge (A:=[_,_,_,_,_,_,_]) (wd:=5) (fun b=>b.fan.sl) yf zj (fun p hp=>?okF) (fun p hp x hx=>?subF) fun S hS=>?_;case okF=>obtain ⟨r,hr⟩:=mem p hp;exact (hF.ok r p hr).1
 case subF=>obtain ⟨r,hr⟩:=mem p hp;rw [(hF.ok r p hr).2] at hx;obtain ⟨i,hi⟩:=Vra _ (yn _) x hx;exact hfa.fan hi
 apply (qb1);have hmr2:InR (rsl a.mine.roads) (S ++ R):=hmr.mono fun r h=>Jb (by simp [h]);refine K8 ([13,14,15]++rg 107 73) ((⟨fun g=>[(107,.int .i64 ((g.1.1:Nat):Int))],fun g=>⟨b12,[g.1.2.1.val,.slice (some ⟨b101,0,none⟩) a.mine.places.l.length a.mine.places.l.length],221⟩ :: ⟨b101,g.1.2.2.flatMap Khb,40⟩ :: ⟨b25,F.flatMap Khb,223⟩ :: ⟨b20,(Zy a s a.doors.l.length).flatMap XSpan.cells,90⟩ :: ⟨b4,[.slice none 0 0,.slice none 0 0],221⟩ :: ⟨b3,s.cells,80⟩ :: ⟨b2,a.cells,32⟩ :: (g.1.2.1.L 225 XPipe.cells ++ (g.1.2.2.flatMap (OwL.L 3 Jj) ++ L)),fun _=>S ++ R,fun g=>a.mine.roads.l.length - g.1.1⟩:Head {g:Nat×OwL XPipe×List (OwL Int) // g.1≤a.mine.roads.l.length∧MP a s S g.1 g.2.1∧MA a g.1 g.2.2})) (⟨(0,OwL.nil,List.replicate a.mine.places.l.length OwL.nil),by dsimp only;omega,MP.zero a s S,MA.zero a⟩) zg (by dsimp only;rw [Kr,Upc,← Uxc];exact yu _) zJb ?_;rintro ⟨⟨k,P,G⟩,hk,hP,hG⟩ junk;try dsimp only
 dsimp only at hk hP hG;apply (Xay);refine q_c ?_ ?_<;>intro hc3;·
  have hr:=Js (l:=a.mine.roads.l) (k:=k) default zc;have hro:=ha.mine.road _ _ hr;have hr1:=hro.fr;have hr2:=hro.to;have hr3:=hro.ne;have hrr:=hro.rest;have hGl:=hG.len;have hFl:=hF.len;have hPl:=hP.length;have hol:=Vwa a k;have hkF:k < F.length:=by omega
  obtain ⟨fk,hfk⟩:=Ki hkF;have hfk2:=hF.ok _ _ hfk;have hg1:(a.mine.roads.l.getD k default).fr.toNat < G.length:=by omega
  have hg2:(a.mine.roads.l.getD k default).to.toNat < G.length:=by omega
  obtain ⟨p,hp⟩:=Ki hg1;obtain ⟨q,hq⟩:=Ki hg2;have hpk:=hG.ok _ _ hp;have hqk:=hG.ok _ _ hq;have hpl:=Kva a (a.mine.roads.l.getD k default).fr.toNat k;have hql:=Kva a (a.mine.roads.l.getD k default).to.toNat k;rw [← hpk.2] at hpl;rw [← hqk.2] at hql;have hne:(a.mine.roads.l.getD k default).fr.toNat≠(a.mine.roads.l.getD k default).to.toNat:=by omega
  obtain ⟨y,hy,hy1,hy2⟩:=J0b (s:=s) ha (r:=k) zc a.doors.l.length zc;have hyb:=Yf (s:=s) ha (r:=((k:Nat):Int)) zc a.doors.l.length zc;have hrl:=Jza a s a.doors.l.length;apply Xbv∘qa3∘Xeo;intro b14;apply qad∘Xdz∘qaf;refine q_c ?_ ?_<;>intro hc4;·refine K5 (Kk (J8 (Ja (Je ?_))));apply (Xan);exact uao
  apply qbv∘Xab∘Xdf;refine Kh tb [117,118,119,120] [0,1,2,3,4,5,6,7,8,9,10,11] [12,13,14] ([Blk.mk b14 _ _,Blk.mk b12 _ _,Blk.mk b101 _ _]) _ Kn zf zk zXa ?_;apply Xcw∘Xcw∘Xdv;refine Kz zTc rfl rfl rfl rfl ?_;apply qcr∘qbf∘qc9;rintro v M U ⟨b128,rfl,rfl,hR128⟩;replace hR128:=hR128.symm;subst hR128;apply (Xb3);refine V7a (Jq (f:=Jj) (a:=(P.l.length:Int)) tb rfl rfl rfl rfl (hpk.1) zm zCb rfl zz) rfl rfl rfl ?_;rintro v M U ⟨o129,rfl,hok129,rfl,rfl⟩;apply (qa1);refine Kq zTc rfl rfl rfl ?_;refine Jja (v:=Value.slice _ _ _) rfl rfl rfl rfl zD zaa (by exact Koa (x':=⟨o129,p.l ++ [(P.l.length:Int)]⟩) yf zj zi ze) ze zk ?_;apply (qb9);have hq':(G.set (a.mine.roads.l.getD k default).fr.toNat ⟨o129,p.l ++ [(P.l.length:Int)]⟩)[(a.mine.roads.l.getD k default).to.toNat]?=some q:=by rw [yW hne];exact hq
  refine Kh tb [131,132,133,134] [0,1,2,3,4,5,6,7,8,9,10,11] [12,13,14] ([Blk.mk b14 _ _,Blk.mk b12 _ _,Blk.mk b101 _ _]) _ Kn zf zk zXa ?_;apply Xcw∘Xcw∘Xdv;refine Kz zUc rfl rfl rfl rfl ?_;apply qcr∘qbf∘qc9;rintro v M U ⟨b142,rfl,rfl,hR142⟩;replace hR142:=hR142.symm;subst hR142;apply (Xb3);refine V7a (Jq (f:=Jj) (a:=(P.l.length:Int)) tb rfl rfl rfl rfl (hqk.1) zm zCb rfl zz) rfl rfl rfl ?_;rintro v M U ⟨o143,rfl,hok143,rfl,rfl⟩;apply (qa1);refine Kq zUc rfl rfl rfl ?_;refine Jja (v:=Value.slice _ _ _) rfl rfl rfl rfl zD zaa (by exact Koa (x':=⟨o143,q.l ++ [(P.l.length:Int)]⟩) yf zj zi ze) ze zk ?_;apply qb9∘V8f∘qan∘Xah∘Xey∘Kyf∘qcv∘qcr∘qcj∘qan∘Xd7∘qb9∘V8f∘qan∘Xah∘Xey∘Kyf∘qcv∘qcr∘qcj∘qan∘Xd7∘qbu;refine Kh tb [] [0,1,2,3,4,5,6,7,8,9] [10,11,12] ([Blk.mk b14 _ _,Blk.mk b12 _ _,Blk.mk b25 _ _]) _ Kn zf zk yd ?_;apply (Xah);refine Kz zlc rfl rfl rfl rfl ?_;apply qbf∘Xey∘Kyf∘qcr;refine Kz (Kf (qs:=[(0,(Value.agg _).cells.toList),(1,(Value.int _ _).cells.toList),(2,(Value.slice _ _ _).cells.toList)]) (out:=[_,_,_,_,_,_,_,_,_,_,_,_]) tb rfl rfl rfl rfl) rfl rfl rfl rfl ?_;refine Keb (Jr (qs:=[(0,(Value.agg _).cells.toList)]) (out:=[_,_,_,_,_,_,_,_,_,_,_,_]) tb rfl rfl rfl rfl rfl rfl rfl) rfl rfl rfl ?_;rintro v M U ⟨b176,rfl,rfl,hR176⟩;replace hR176:=hR176.symm;subst hR176;apply (Xb3);refine V7a (Jq (f:=XPipe.cells) (a:=⟨{ a.mine.roads.l.getD k default with rest:=⟨(a.mine.roads.l.getD k default).rest.low + y.low,(a.mine.roads.l.getD k default).rest.high + y.high⟩ },(k:Int),fk.arr⟩) tb rfl rfl rfl rfl (hP.ok) zm zCb rfl zz) rfl rfl rfl ?_;rintro v M U ⟨o177,rfl,hok177,rfl,rfl⟩;apply Xdb∘Xer;exact uao
 obtain rfl:k=a.mine.roads.l.length:=by omega
 apply (qc3);have hGl:=hG.len;refine Yq (A:=[_,_,_,_,_,_,_]) (wd:=12) (P.l.map XPipe.sl) yf zj hP.ok (fun x hx=>?subP) ?_;case subP=>obtain ⟨p,hp,rfl⟩:=List.mem_map.1 hx;exact (hP.pipe p hp).2.mono fun r h=>Jb (by simp [h])
 apply (qb1);refine K1c (A:=[_,_,_,_,_,_,_]) (wd:=1) yf zj (fun p hp=>?okG) fun S2 hS2=>?_;case okG=>obtain ⟨r,hr⟩:=List.mem_iff_getElem?.1 hp;exact (hG.ok r p hr).1
 apply (qb1);refine Ysb (A:=[_]) (wd:=1) (len:=(G.map OwL.arr).length) (cap:=a.mine.places.l.length) (rows:=(G.map OwL.arr).map Juf) (subs:=(G.map OwL.arr).map isl) zq zH zc (fun r hr=>?w1) zj ?cs1 (fun x hx=>?subG) ?_;case w1=>obtain ⟨y,_,rfl⟩:=List.mem_map.1 hr;rfl
 case cs1=>rw [Vdb,List.flatMap_map,yY (by rw [Uu (wd:=1) (fun _=>rfl)];simp)];rfl
 case subG=>exact zXe
 apply qb1∘qay∘Xcs;refine Ku (M:=L) (U:=Zga P.arr :: V6a ⟨some ⟨b101,0,none⟩,a.mine.places.l.length,G.map OwL.arr⟩ :: R) zfd ?hp ?hL ?hR;case hp=>
  refine ⟨⟨P.arr,⟨some ⟨b101,0,none⟩,a.mine.places.l.length,G.map OwL.arr⟩⟩,?_,⟨hP.nums,fun p hp=>(hP.pipe p hp).1,by simp [hGl],fun v x hx=>?_⟩,rfl,rfl⟩;·simp only [XNet.val, Arr.val, yK, hGl];rfl
  ·dsimp only at hx;exact zAf
 case hL=>exact zk
 case hR=>exact fun r hr=>Jb (by simp only [yT,yOa] at hr ⊢;rcases hr with h | h | h <;> simp [h])
end Go.Proofs.YtchfclmokpbldaaGreat
end
section
namespace Go.Proofs.YtchfclmokpbldaaGreat
open Go.Aw Go
set_option maxRecDepth 20000
attribute [local irreducible] CJ LJ DJ Tri YV Gives U7 Kb Kp U8 RV Ke OwL.L
def Zda {a : XAir} {i : Nat} : ∀ {k : Nat}, i ∈ Vd a k ↔ i < k ∧ (a.mine.roads.l.getD i default).closed = false
 | 0=>by simp [Vd]
 | k + 1=>by
  have ih:=Zda (a:=a) (i:=i) (k:=k)
  simp only [Vd]
  by_cases hc:(a.mine.roads.l.getD k default).closed=true
  ·rw [if_pos hc, ih]
   constructor
   ·rintro ⟨h1,h2⟩;exact ⟨by omega,h2⟩
   ·rintro ⟨h1, h2⟩
    refine ⟨?_,h2⟩
    rcases yIa (yPa h1) with h | h
    ·exact h
    ·subst h;rw [hc] at h2;cases h2
  ·rw [if_neg hc, yOa, ih, yOb]
   constructor
   ·rintro (⟨h1, h2⟩ | rfl)
    ·exact ⟨by omega,h2⟩
    ·exact ⟨by omega,by simpa using hc⟩
   ·rintro ⟨h1, h2⟩
    rcases yIa (yPa h1) with h | h
    ·exact .inl ⟨h,h2⟩
    ·exact .inr h
def NetIs.find {a:XAir} {s:XSetting} {n:XNet} (h:NetIs a s n) {r:Int} (hr:0≤r∧r < a.mine.roads.l.length) (hc:(a.mine.roads.l.getD r.toNat default).closed=false):∃(j:Nat) (p:XPipe),n.pipes.l[j]?=some p∧p.num=r:=by
 have h1:r.toNat∈Vd a a.mine.roads.l.length:=Zda.2 ⟨by omega,hc⟩;have h2:r∈n.pipes.l.map XPipe.num:=by rw [h.nums];exact List.mem_map.2 ⟨_,h1,by omega⟩
 obtain ⟨p,hp,he⟩:=List.mem_map.1 h2;obtain ⟨j,hj⟩:=List.mem_iff_getElem?.1 hp;exact ⟨j,p,hj,he⟩
def NetIs.open {a:XAir} {s:XSetting} {n:XNet} (h:NetIs a s n) {p:XPipe} (hp:p∈n.pipes.l):(0≤p.num∧p.num < a.mine.roads.l.length)∧(a.mine.roads.l.getD p.num.toNat default).closed=false:=by have h2:p.num∈n.pipes.l.map XPipe.num:=List.mem_map.2 ⟨p,hp,rfl⟩;rw [h.nums] at h2;obtain ⟨i,hi,he⟩:=List.mem_map.1 h2;obtain ⟨h3,h4⟩:=Zda.1 hi;rw [← he];exact ⟨by omega,by simpa using h4⟩
def NetIs.length {a:XAir} {s:XSetting} {n:XNet} (h:NetIs a s n):n.pipes.l.length≤a.mine.roads.l.length:=by have:=congrArg List.length h.nums;simp only [yK] at this;have:=Vwa a a.mine.roads.l.length;omega
def InR.pipe {x:Arr XPipe} {R:LS} (h:InR (Zga x) R) {i:Nat} {p:XPipe} (hi:x.l[i]?=some p):InR p.sl R:=
 h.sub (.deep (List.mem_map.2 ⟨p,yi hi,rfl⟩) .here)
def Yqd {a : XAir} {s : XSetting} {x : XState} (h0 : Ko a = 0) (h1 : J8a a s = true) (h2 : ¬ (x.pres.l.length ≠ a.mine.places.l.length ∨ x.flows.l.length ≠ a.mine.roads.l.length)) (h3 : x.pres.l.findSome? Um = none) (h4 : x.flows.l.findSome? Yma = none)
 (h5:∀i,i < x.flows.l.length→Zp a s x i=none) (h6:∀v,v < x.pres.l.length→Yt a x (Jcb a x x.flows.l.length) v=none):Y6c a s x=0:=by have e1:(List.range x.flows.l.length).findSome? (Zp a s x)=none:=List.findSome?_eq_none_iff.2 fun i hi=>h5 i (List.mem_range.1 hi);have e2:(List.range x.pres.l.length).findSome? (Yt a x (Jcb a x x.flows.l.length))=none:=List.findSome?_eq_none_iff.2 fun i hi=>h6 i (List.mem_range.1 hi);rw [Vjc h0 h1 h2,h3,h4,e1,e2];rfl
def Z6c {l:List Int} (h:l.findSome? Um=none):∀(i:Nat) (p:Int),l[i]?=some p→-70368744177664≤p∧p≤70368744177664:=fun i p hp=>by
 have:=List.findSome?_eq_none_iff.1 h p (yi hp)
 unfold Um at this
 split at this
 ·cases this
 ·omega
end Go.Proofs.YtchfclmokpbldaaGreat
end
section
namespace Go.Proofs.YtchfclmokpbldaaGreat
open Go.Aw Go
set_option maxRecDepth 20000
attribute [local irreducible] CJ LJ DJ Tri YV Gives U7 Kb Kp U8 RV Ke OwL.L
structure MadeRoad (fr to:Int) (r:XRoad):Prop where
 fr:r.fr=fr
 to:r.to=to
 len:1≤r.len∧r.len≤400
 area:4≤r.area∧r.area≤30
 closed:r.closed=false
 rest:1≤r.rest.low∧r.rest.low≤r.rest.high∧r.rest.high≤22
 lift:-300≤r.lift.low∧r.lift.low≤r.lift.high∧r.lift.high≤320
def CodesR.mono {x:Arr Int} {R U:LS} (h:CodesR x R) (k:∀r∈R,InR r U):CodesR x U:=⟨h.sl.mono k,h.byte⟩
def Yhc (c:Nat) (x:Arr Int) (k:Nat) (fr to:Int) (R:LS) (hx:CodesR x R) (hk:k≤x.l.length):
 Tri Tryz.prog 105 [.pointer (some ⟨c, 0, none⟩), .int .i64 fr, .int .i64 to].toArray [cblk c x k] R
  (fun v M U=>∃(r:XRoad) (k':Nat),v=r.val∧MadeRoad fr to r∧k'≤x.l.length∧[cblk c x k']=M∧R=U):=by refine Jd 42 Tryz.call105 Tryz.func105 rfl rfl rfl ?_;apply (Xct);intro b6;apply qam∘Xbu∘qa6∘Jhf;rintro v M U ⟨r1,k1,rfl,g1,g1',hk1,rfl,rfl⟩;apply qa6∘J4f;rintro v M U ⟨r2,k2,rfl,g2,g2',hk2,rfl,rfl⟩;apply qa6∘Uvf;rintro v M U ⟨r3,k3,rfl,g3,g3',g3'',hk3,rfl,rfl⟩;apply qa5∘qa6;refine Ju rfl (Jra zx hx hk3 zc) rfl ?_;rintro v M U ⟨r4,k4,rfl,g4,g4',hk4,rfl,rfl⟩;refine J0 zSc rfl ?_;refine J0 (Kf (qs:=[(0,(Value.int _ _).cells.toList),(1,(Value.int _ _).cells.toList),(2,(Value.int _ _).cells.toList),(3,(Value.int _ _).cells.toList),(4,(Value.bool _).cells.toList),(6,(Value.agg _).cells.toList)]) (out:=[_,_,_,_,_,_,_,_,_,_]) tb rfl rfl rfl rfl) rfl ?_;apply (qaq);intro b7;apply Xem∘J3g∘qan∘Xda∘Jug;rintro v M U ⟨r5,k5,rfl,g5,g5',g5'',hk5,rfl,rfl⟩;refine ⟨zk,zu,?_⟩;apply qcj∘qan∘Xd7∘qb9;have g5q:=g5' zc;apply (Xel);refine Ju rfl (Jra zx hx hk5 zc) rfl ?_;rintro v M U ⟨r6,k6,rfl,g6,g6',hk6,rfl,rfl⟩;apply qab∘Xbs∘qa4∘J3g∘qan∘Xda;refine Kv rfl (Zx zx hx hk6 zc) rfl rfl ?_;rintro v M U ⟨r7,k7,rfl,g7,g7',g7'',hk7,rfl,rfl⟩;refine ⟨zk,zu,?_⟩;apply qcj∘qan∘Xd7∘qb9;have g7q:=g7' zc;apply (qay);refine J0 zlc rfl ?_;apply (Xbf);refine q_r [cblk c x k7] R (U3 rfl (Jw (row:=[_,_,_,_,_,_,_,_,_,_]) tb rfl rfl rfl zh ze ze)) ?_;exact ⟨⟨fr,to,r1,r2,decide (0 < r3),false,⟨r4,r4 + r5⟩,⟨r6,r6 + r7⟩⟩,k7,rfl,⟨rfl,rfl,⟨g1,g1'⟩,⟨g2,g2'⟩,rfl,by dsimp only;omega,by dsimp only;omega⟩,hk7,rfl,rfl⟩
structure MadeCurve (l:List XPoint):Prop where
 len:1≤l.length∧l.length≤4
 ok:CurveOk l
 top:(l.getD 0 default).pres≤3000
def CurveOk.snoc {l:List XPoint} {p:XPoint} (h:CurveOk l) (hl:1≤l.length) (hp:-1048576≤p.flow∧p.flow≤1048576∧0≤p.pres∧p.pres≤2199023255552) (hs:(l.getD (l.length - 1) default).flow < p.flow∧p.pres≤(l.getD (l.length - 1) default).pres):CurveOk (l ++ [p]):=by
 refine ⟨fun i q hq=>?_,fun i q r hq hr=>?_⟩;·
  rw [yia] at hq;split at hq;·exact h.pt i q hq
  ·
   rw [yga] at hq;split at hq;·cases hq;exact hp
   ·cases hq
 ·
  rw [yia] at hq hr;split at hr;·rename_i h2;rw [if_pos zc] at hq;exact h.st i q r hq hr
  ·
   rename_i h2;rw [yga] at hr;split at hr;·cases hr;rw [if_pos zc] at hq;(have e:i=l.length - 1:=by omega);subst e;rw [getD_some hq] at hs;exact hs
   ·cases hr
def Yc {α:Type} {l m:List α} {i:Nat} {d:α} (h:i < l.length):(l ++ m).getD i d=l.getD i d:=by rw [yh,yh,yy h]
def Y4 {α:Type} {l:List α} {x d:α} {n:Nat} (h:n=l.length):(l ++ [x]).getD n d=x:=by subst h;rw [yh];simp
structure CurveI (n:Int) (y:OwL XPoint):Prop where
 n:0≤n∧(y.l.length:Int) + n≤4
 len:1≤y.l.length
 cok:CurveOk y.l
 top:(y.l.getD 0 default).pres≤3000
 last:-20≤(y.l.getD (y.l.length - 1) default).flow∧(y.l.getD (y.l.length - 1) default).flow≤40 * (y.l.length:Int)∧0≤(y.l.getD (y.l.length - 1) default).pres∧(y.l.getD (y.l.length - 1) default).pres≤3000
def CurveI.next {n:Int} {y:OwL XPoint} (h:CurveI n y) (hn:0 < n) {a b:Int} (ha:1≤a∧a≤40) (hb:0≤b∧b≤899) {o:Ow} {p:XPoint} (h1:p.flow=(y.l.getD (y.l.length - 1) default).flow + a) (h2:p.pres=max 0 ((y.l.getD (y.l.length - 1) default).pres - b)):CurveI (n - 1) ⟨o,y.l ++ [p]⟩:=by
 have hl:=h.len;have hla:=h.last;have hnn:=h.n;have e1:(y.l ++ [p]).length=y.l.length + 1:=by simp
 have e2:(y.l ++ [p]).getD ((y.l ++ [p]).length - 1) default=p:=Y4 zc;refine ⟨by dsimp only;omega,by dsimp only;omega,h.cok.snoc hl zc zc,?_,?_⟩;·dsimp only;rw [Yc zc];exact h.top
 ·dsimp only;rw [e2,e1];omega
def Ulc (c:Nat) (x:Arr Int) (k:Nat) (R:LS) (hx:CodesR x R) (hk:k≤x.l.length):
 Tri Tryz.prog 179 [.pointer (some ⟨c, 0, none⟩)].toArray [cblk c x k] R
  (fun v M U=>∃(y:Arr XPoint) (k':Nat),v=y.val∧MadeCurve y.l∧k'≤x.l.length∧[cblk c x k']=M∧ptsl y :: R=U):=by
 refine Jd 40 Tryz.call179 Tryz.func179 rfl rfl rfl ?_;apply Xdi∘Xd9∘Jhf;rintro v M U ⟨r1,k1,rfl,g1,g1',hk1,rfl,rfl⟩;apply qa6∘J4f;rintro v M U ⟨r2,k2,rfl,g2,g2',hk2,rfl,rfl⟩;apply qcd∘Usf;rintro v M U ⟨b11,rfl,rfl,hR11⟩;replace hR11:=hR11.symm;subst hR11;apply Xbz∘qa6∘Uvf;rintro v M U ⟨r3,k3,rfl,g3,g3',g3'',hk3,rfl,rfl⟩;apply (Xat);refine Jh [(0,.pointer _),(3,.slice _ _ _),(4,.int _ _)] zg fun tq0=>?_;have g3q:=g3' zc;refine V4 (U3a (f:=XPoint.cells) (n:=1) [⟨r1,r2⟩] rfl _) ?_;refine q_p ([3,4,5]++rg 14 25) ((⟨fun g=>[(3,g.1.2.2.val),(4,.int .i64 g.1.2.1)],fun g=>g.1.2.2.L 319 XPoint.cells ++ (cblk c x g.1.1 :: []),fun _=>R,fun g=>g.1.2.1.toNat⟩:Head {g:Nat×Int×OwL XPoint // g.1≤x.l.length∧g.2.2.ok 2 XPoint.cells∧CurveI g.2.1 g.2.2})) (⟨(k3,r3,⟨.own b11 1 [],[⟨r1,r2⟩]⟩),hk3,Kga yf rfl zj,⟨by dsimp only;simp only [ym];omega,by simp,⟨fun i q hq=>by (cases i with | zero=>cases hq;dsimp only;omega | succ i=>cases hq),fun i q r hq hr=>by cases hr⟩,by simp;omega,by simp;omega⟩⟩) ?_;rintro ⟨⟨kk,n,y⟩,hkk,hok,hI⟩ junk;try dsimp only
 dsimp only at hkk hok hI;apply Xap∘Xdq;refine q_c ?_ ?_<;>intro hc0;·have hl:=hI.len;have hnn:=hI.n;have hla:=hI.last;have hgl:=Js (l:=y.l) (k:=y.l.length - 1) default zc;apply qbb∘qbm∘Xaq∘qa9;refine J0 (Jo tb (y) _ rfl rfl rfl rfl zi (i:=y.l.length - 1) zo zw) rfl ?_;refine J0 (U1a (row:=[_,_]) tb (y) rfl rfl rfl zm zi yf zi ze ze) rfl ?_;apply (qaq);intro b5;apply qak∘qaf;refine Kh tb [] [0,1,2,3,6,7,8,4,5,9,10,11,12,13] [14,15] ([Blk.mk b5 _ _]) _ Kn zf zk yd ?_;apply qct∘Xda∘Xda∘Zjf;rintro v M U ⟨r4,k4,rfl,g4,g4',hk4,rfl,rfl⟩;refine ⟨zk,zu,?_⟩;apply qcj∘Jug;rintro v M U ⟨r5,k5,rfl,g5,g5',g5'',hk5,rfl,rfl⟩;refine ⟨zk,zu,?_⟩;apply (qcc);refine Kz zsc rfl rfl rfl rfl ?_;apply qcw∘Vif;rintro v M U ⟨b37,rfl,rfl,hR37⟩;replace hR37:=hR37.symm;subst hR37;apply (Xb3);refine V7a (Jq (f:=XPoint.cells) (p:=y) (a:=⟨(y.l.getD (y.l.length - 1) default).flow + r4,max 0 ((y.l.getD (y.l.length - 1) default).pres - r5)⟩) tb rfl rfl rfl rfl (hok) zm zCb rfl zz) rfl rfl rfl ?_;rintro v M U ⟨o38,rfl,hok38,rfl,rfl⟩;apply (qa1);refine Kq (Ux zvb) rfl rfl rfl ?_;apply qby∘Xdk;exact q_k ⟨(k5,n - 1,_),hk5,hok38,hI.next hc0 ⟨g4,g4'⟩ ⟨g5,by have:=g5' zc;omega⟩ rfl rfl⟩
 apply (qc3);refine Jae [] hok yf zj yg ?_;apply qay∘Xej;refine q_r [cblk c x kk] (ptsl y.arr :: R) zzd ?_;exact ⟨y.arr,kk,rfl,⟨⟨hI.len,by have:=hI.n;dsimp only;omega⟩,hI.cok,hI.top⟩,hkk,rfl,rfl⟩
structure MadeDoor (road:Int) (d:XDoor):Prop where
 road:d.road=road
 other:d.other= -1
 len:2≤d.rests.l.length∧d.rests.l.length≤4
 rest:∀(i:Nat) (v:Int),d.rests.l[i]?=some v→0≤v∧v≤900
 falls:Yv d.rests.l d.rests.l.length=true
def Kdb {l m : List Int} : ∀ {k : Nat}, k ≤ l.length → Yv (l ++ m) k = Yv l k
 | 0,_=>rfl
 | k + 1,hk=>by
  rw [Yv,Yv,Kdb zc,Yc zc]
  rcases k with _ | k
  ·rfl
  ·rw [Yc zc]
structure DoorI (n:Int) (l:List Int):Prop where
 n:0≤n∧(l.length:Int) + n≤4∧2≤(l.length:Int) + n
 len:1≤l.length
 rest:∀(i:Nat) (v:Int),l[i]?=some v→0≤v∧v≤900
 falls:Yv l l.length=true
 last:260 - 60 * (l.length:Int)≤l.getD (l.length - 1) 0
def DoorI.next {n:Int} {l:List Int} (h:DoorI n l) (hn:0 < n) {b v:Int} (hb:1≤b∧b≤60) (hv:v=max 0 (l.getD (l.length - 1) 0 - b)):DoorI (n - 1) (l ++ [v]):=by
 have hl:=h.len;have hnn:=h.n;have hla:=h.last;have hlr:=h.rest _ _ (Js (l:=l) (k:=l.length - 1) 0 zc);have e1:(l ++ [v]).length=l.length + 1:=by simp
 refine ⟨by rw [e1];omega,by omega,fun i w hw=>?_,?_,?_⟩;·
  rw [yia] at hw;split at hw;·exact h.rest i w hw
  ·
   rw [yga] at hw;split at hw;·cases hw;omega
   ·cases hw
 ·rw [e1, Yv, Kdb (yn _), h.falls, Y4 rfl, Yc zc];simp only [Bool.true_and,yab,decide_eq_true_eq];omega
 ·rw [e1, Y4 zc];omega
def Zac (c:Nat) (x:Arr Int) (k:Nat) (road:Int) (R:LS) (hx:CodesR x R) (hk:k≤x.l.length):
 Tri Tryz.prog 180 [.pointer (some ⟨c, 0, none⟩), .int .i64 road].toArray [cblk c x k] R
  (fun v M U=>∃(d:XDoor) (k':Nat),v=d.val∧MadeDoor road d∧k'≤x.l.length∧[cblk c x k']=M∧d.sl :: R=U):=by
 refine Jd 36 Tryz.call180 Tryz.func180 rfl rfl rfl ?_;apply (Xct);intro b4;apply Xdr∘qa6∘Jhf;rintro v M U ⟨r1,k1,rfl,g1,g1',hk1,rfl,rfl⟩;apply (qcx);rintro v M U ⟨b10,rfl,rfl,hR10⟩;replace hR10:=hR10.symm;subst hR10;refine J0 (Kf (qs:=[(0,(Value.int _ _).cells.toList),(1,(Value.int _ _).cells.toList),(2,(Value.slice _ _ _).cells.toList)]) (out:=[_,_,_]) tb rfl rfl rfl rfl) rfl ?_;apply (qaq);intro b5;apply Xbi∘qa6∘J4f;rintro v M U ⟨r2,k2,rfl,g2,g2',hk2,rfl,rfl⟩;apply (Xat);refine Jh [(0,.pointer _),(4,.pointer _),(5,.pointer _),(6,.int _ _)] zg fun tq0=>?_;refine V4 (congrArg (List.cons _) (U3a (f:=Jj) (n:=1) [r1] rfl _)) ?_;refine q_p ([6]++rg 14 21) ((⟨fun g=>[(6,.int .i64 g.1.2.1)],fun g=>⟨b5,[.int .i64 road,.int .i64 (-1),g.1.2.2.val],239⟩ :: (g.1.2.2.L 3 Jj ++ (⟨b4,[.int .i64 0,.int .i64 0,.slice none 0 0],239⟩ :: cblk c x g.1.1 :: [])),fun _=>R,fun g=>g.1.2.1.toNat⟩:Head {g:Nat×Int×OwL Int // g.1≤x.l.length∧g.2.2.ok 1 Jj∧DoorI g.2.1 g.2.2.l})) (⟨(k2,r2,⟨.own b10 1 [],[r1]⟩),hk2,Kga yf rfl zj,⟨by dsimp only;simp only [ym];omega,by simp,fun i q hq=>by (cases i with | zero=>cases hq;omega | succ i=>cases hq),rfl,by simp;omega⟩⟩) ?_;rintro ⟨⟨kk,n,y⟩,hkk,hok,hI⟩ junk;try dsimp only
 dsimp only at hkk hok hI;apply Xap∘Xdq;refine q_c ?_ ?_<;>intro hc0;·have hl:=hI.len;have hnn:=hI.n;have hgl:=Js (l:=y.l) (k:=y.l.length - 1) 0 zc;have hlr:=hI.rest _ _ hgl;refine Jt (Ja (Ji (Jy ?_)));refine Kh tb [] [0,1,2,3,4,5,6,7,8,9,10,11,12,13,14] [15,16,17] ([Blk.mk b5 _ _] ++ (y.L 3 Jj ++ [])) _ Kn zf zk yd ?_;apply Xdv∘Xah;refine Kz zHb rfl rfl rfl rfl ?_;apply (qcc);refine Kz (Jo tb (y) _ rfl rfl rfl rfl zi (i:=y.l.length - 1) zo zw) rfl rfl rfl rfl ?_;refine Kz (Kc tb (y) rfl rfl rfl zm zi yf zi ze) rfl rfl rfl rfl ?_;apply qb3∘Zjf;rintro v M U ⟨r4,k4,rfl,g4,g4',hk4,rfl,rfl⟩;refine ⟨zk,zu,?_⟩;apply (qcc);refine Kz zsc rfl rfl rfl rfl ?_;apply (qc9);rintro v M U ⟨b32,rfl,rfl,hR32⟩;replace hR32:=hR32.symm;subst hR32;apply (Xb3);refine V7a (Jq (f:=Jj) (p:=y) (a:=max 0 (y.l.getD (y.l.length - 1) 0 - r4)) tb rfl rfl rfl rfl (hok) zm zCb rfl zz) rfl rfl rfl ?_;rintro v M U ⟨o33,rfl,hok33,rfl,rfl⟩;apply Xdb∘qby∘Xdk;exact q_k ⟨(k4,n - 1,_),hk4,hok33,hI.next hc0 ⟨g4,g4'⟩ rfl⟩
 apply (qc3);refine Yq (A:=[_]) (wd:=1) [] yf zj hok yg ?_;apply qb1∘qay;refine J0 zzb rfl ?_;apply (Xbf);refine q_r [cblk c x kk] ((y.arr.sl 1 Jj []) :: R) (U3 rfl zAb) ?_;exact ⟨⟨road,-1,y.arr⟩,kk,rfl,⟨rfl,rfl,by have:=hI.n;dsimp only;omega,hI.rest,hI.falls⟩,hkk,rfl,rfl⟩
end Go.Proofs.YtchfclmokpbldaaGreat
end
section
namespace Go.Proofs.YtchfclmokpbldaaGreat
open Go.Aw Go
set_option maxRecDepth 20000
attribute [local irreducible] CJ LJ DJ Tri YV Gives U7 Kb Kp U8 RV Ke OwL.L
def Yxf {c:Nat} {x:Arr Int} {k:Nat} {L:LB} {F:List Value→LB} {R:LS} (hu:USeg c (Vc x k) 168 L F) (hx:CodesR x R) (hk:k≤x.l.length):
 Tri Tryz.prog 179 [.pointer (some ⟨c, 0, none⟩)].toArray L R
  (fun v M U=>∃(y:Arr XPoint) (k':Nat),v=y.val∧MadeCurve y.l∧k'≤x.l.length∧F (Vc x k')=M∧ptsl y :: R=U):=
 (Tri.at1 (Post' := fun v cs' U => ∃ (y : Arr XPoint) (k' : Nat), v = y.val ∧ MadeCurve y.l ∧ k' ≤ x.l.length ∧ cs' = Vc x k' ∧ ptsl y :: R = U) hu (Ulc c x k R hx hk)
  (fun v M U ⟨y,k',h1,h2,h5,h6,h7⟩=>⟨_,h6,y,k',h1,h2,h5,rfl,h7⟩)).mono
  (fun v M U ⟨cs',h0,y,k',h1,h2,h5,h6,h7⟩=>⟨y,k',h1,h2,h5,by rw [← h6];exact h0,h7⟩)
def Ksg {c:Nat} {x:Arr Int} {k:Nat} {road:Int} {L:LB} {F:List Value→LB} {R:LS} (hu:USeg c (Vc x k) 168 L F) (hx:CodesR x R) (hk:k≤x.l.length):
 Tri Tryz.prog 180 [.pointer (some ⟨c, 0, none⟩), .int .i64 road].toArray L R
  (fun v M U=>∃(d:XDoor) (k':Nat),v=d.val∧MadeDoor road d∧k'≤x.l.length∧F (Vc x k')=M∧d.sl :: R=U):=
 (Tri.at1 (Post' := fun v cs' U => ∃ (d : XDoor) (k' : Nat), v = d.val ∧ MadeDoor road d ∧ k' ≤ x.l.length ∧ cs' = Vc x k' ∧ d.sl :: R = U) hu (Zac c x k road R hx hk)
  (fun v M U ⟨y,k',h1,h2,h5,h6,h7⟩=>⟨_,h6,y,k',h1,h2,h5,rfl,h7⟩)).mono
  (fun v M U ⟨cs',h0,y,k',h1,h2,h5,h6,h7⟩=>⟨y,k',h1,h2,h5,by rw [← h6];exact h0,h7⟩)
def Vef {c:Nat} {x:Arr Int} {k:Nat} {fr to:Int} {L:LB} {F:List Value→LB} {R:LS} (hu:USeg c (Vc x k) 168 L F) (hx:CodesR x R) (hk:k≤x.l.length):
 Tri Tryz.prog 105 [.pointer (some ⟨c, 0, none⟩), .int .i64 fr, .int .i64 to].toArray L R
  (fun v M U=>∃(r:XRoad) (k':Nat),v=r.val∧MadeRoad fr to r∧k'≤x.l.length∧F (Vc x k')=M∧R=U):=
 (Tri.at1 (Post' := fun v cs' U => ∃ (r : XRoad) (k' : Nat), v = r.val ∧ MadeRoad fr to r ∧ k' ≤ x.l.length ∧ cs' = Vc x k' ∧ R = U) hu (Yhc c x k fr to R hx hk)
  (fun v M U ⟨y,k',h1,h2,h5,h6,h7⟩=>⟨_,h6,y,k',h1,h2,h5,rfl,h7⟩)).mono
  (fun v M U ⟨cs',h0,y,k',h1,h2,h5,h6,h7⟩=>⟨y,k',h1,h2,h5,by rw [← h6];exact h0,h7⟩)
structure FanD (n:Nat) (f:XFan):Prop where
 road:0≤f.road∧f.road < n
 curve:MadeCurve f.curve.l
structure DoorD (n:Nat) (d:XDoor):Prop where
 road:0≤d.road∧d.road < n
 made:MadeDoor d.road d
structure FansD (n:Nat) (m:Int) (fans:List XFan) (sf:List Int):Prop where
 m:0≤m∧(fans.length:Int) + m≤2
 len:sf.length=fans.length
 fan:∀f∈fans,FanD n f
 st:∀s∈sf,0≤s∧s≤2
structure DoorsD (n:Nat) (m:Int) (doors:List XDoor) (sd:List Int):Prop where
 m:0≤m∧(doors.length:Int) + m≤2
 len:sd.length=doors.length
 door:∀d∈doors,DoorD n d
 st:∀(i:Nat) (d:XDoor) (s:Int),doors[i]?=some d→sd[i]?=some s→0≤s∧s < d.rests.l.length
def FansD.next {n:Nat} {m:Int} {fans:List XFan} {sf:List Int} (h:FansD n m fans sf) (hm:0 < m) {f:XFan} (hf:FanD n f) {s:Int} (hs:0≤s∧s≤2):FansD n (m - 1) (fans ++ [f]) (sf ++ [s]):=by
 have:=h.m;refine ⟨by simp only [yj,ym];omega,by simp [h.len],fun g hg=>?_,fun t ht=>?_⟩;·
  rcases List.mem_append.1 hg with hg | hg;·exact h.fan g hg
  ·rw [List.mem_singleton.1 hg];exact hf
 ·
  rcases List.mem_append.1 ht with ht | ht;·exact h.st t ht
  ·rw [List.mem_singleton.1 ht];exact hs
def FansD.zero {n:Nat} {m:Int} {fans:List XFan} {sf:List Int} (h:FansD n m fans sf):FansD n 0 fans sf:=⟨by have:=h.m;omega,h.len,h.fan,h.st⟩
def DoorsD.zero {n:Nat} {m:Int} {doors:List XDoor} {sd:List Int} (h:DoorsD n m doors sd):DoorsD n 0 doors sd:=⟨by have:=h.m;omega,h.len,h.door,h.st⟩
def DoorsD.next {n:Nat} {m:Int} {doors:List XDoor} {sd:List Int} (h:DoorsD n m doors sd) (hm:0 < m) {d:XDoor} (hd:DoorD n d) {s:Int} (hs:0≤s∧s < d.rests.l.length):DoorsD n (m - 1) (doors ++ [d]) (sd ++ [s]):=by
 have:=h.m;refine ⟨by simp only [yj,ym];omega,by simp [h.len],fun g hg=>?_,fun i d' s' h1 h2=>?_⟩;·
  rcases List.mem_append.1 hg with hg | hg;·exact h.door g hg
  ·rw [List.mem_singleton.1 hg];exact hd
 ·
  have hl := h.len;rw [yia] at h1 h2;split at h1;·rw [if_pos zc] at h2;exact h.st i d' s' h1 h2
  ·
   rw [if_neg zc] at h2;rw [yga] at h1 h2;split at h1;·rw [if_pos zc] at h2;cases h1;cases h2;exact hs
   ·cases h1
def Zic (c ab:Nat) (x:Arr Int) (k n rc:Nat) (pv:Value) (ra:Option Addr) (R:LS) (hx:CodesR x R) (hk:k≤x.l.length) (hn:n≤100):
 Tri Tryz.prog 106 [.pointer (some ⟨c, 0, none⟩), .pointer (some ⟨ab, 0, none⟩)].toArray [cblk c x k, ⟨ab, [pv, .slice ra n rc, .slice none 0 0, .slice none 0 0], 32⟩] R
  (fun v M U=>∃(fans:OwL XFan) (doors:OwL XDoor) (sf sd:OwL Int) (k':Nat) (S:LS),v=.agg #[sf.val,sd.val]∧(fans.ok 4 XFan.cells∧doors.ok 3 XDoor.cells∧sf.ok 1 Jj∧sd.ok 1 Jj)∧FansD n 0 fans.l sf.l∧DoorsD n 0 doors.l sd.l∧
   (∀f∈fans.l,InR f.sl S)∧(∀d∈doors.l,InR d.sl S)∧k'≤x.l.length∧
   cblk c x k' :: ⟨ab,[pv,.slice ra n rc,fans.val,doors.val],32⟩ :: (fans.L 278 XFan.cells ++ (doors.L 239 XDoor.cells ++ (sf.L 3 Jj ++ (sd.L 3 Jj ++ []))))=M∧S ++ R=U):=by
 refine Jd 88 Tryz.call106 Tryz.func106 rfl rfl rfl ?_;apply (Xct);intro b4;apply qam∘qaq;intro b5;apply (Xd9);refine J0 zXb rfl ?_;apply Xcg∘Xau∘qa6;refine Ju rfl (Zx zx hx hk zc) rfl ?_;rintro v M U ⟨r1,k1,rfl,g1,g1',g1'',hk1,rfl,rfl⟩;apply (Xat);refine Jh [(0,.pointer _),(1,.pointer _),(4,.pointer _),(5,.pointer _),(6,.int _ _),(7,.int _ _)] zg fun tq0=>?_;refine K8 ([7]++rg 18 34) ((⟨fun g=>[(7,.int .i64 g.1.2.1)],fun g=>⟨b5,[g.1.2.2.2.1.val,.slice none 0 0],80⟩ :: ⟨b4,[.slice none 0 0,.slice none 0 0],80⟩ :: cblk c x g.1.1 :: ⟨ab,[pv,.slice ra n rc,g.1.2.2.1.val,.slice none 0 0],32⟩ :: (g.1.2.2.1.L 278 XFan.cells ++ (g.1.2.2.2.1.L 3 Jj ++ [])),fun g=>g.1.2.2.2.2 ++ R,fun g=>g.1.2.1.toNat⟩:Head {g:Nat×Int×OwL XFan×OwL Int×LS // g.1≤x.l.length∧(∃m,g.2.1≤m∧FansD n m g.2.2.1.l g.2.2.2.1.l)∧(g.2.2.1.ok 4 XFan.cells∧g.2.2.2.1.ok 1 Jj)∧(∀f∈g.2.2.1.l,InR f.sl g.2.2.2.2)})) (⟨(k1,r1,OwL.nil,OwL.nil,[]),hk1,⟨r1,yI _,⟨⟨g1,by have:=g1' zc;simp only [yV];omega⟩,rfl,(fun _ h=>by cases h),(fun _ h=>by cases h)⟩⟩,⟨OwL.nil_ok,OwL.nil_ok⟩,(fun _ h=>by cases h)⟩) zg zMa zJb ?_;rintro ⟨⟨kk,m,fans,sf,S⟩,hkk,⟨m',hm',hD⟩,⟨hokf,hoks⟩,hin⟩ junk;try dsimp only
 dsimp only at hkk hm' hD hokf hoks hin;apply Xap∘qa5∘qah;apply Ue (G:=[_,_]) (j:=2) (cj:=20) rfl rfl ze rfl ztb rfl;·exact zPd
 intro junk3;apply (qaf);refine q_c ?_ ?_<;>intro hc0;·
  have hxs:CodesR x (S ++ R):=hx.mono fun r h=>Jb (by simp [h]);have hml:=hD.m;have hll:=hD.len;refine Jt (Ja (Ji (Jy (Ji ?_))));refine Kh tb [26] [0,1,2,3,4,5,6,8,10,12,7,9,11,13,14,15] [16,17,18,19] ([Blk.mk ab _ _]) _ Kn zf zk yd ?_;refine V6 (J2 zSb) rfl rfl rfl rfl ?_;apply (qb3);refine Kz zXb rfl rfl rfl rfl ?_;apply Xda∘qbf;iterate 3 apply (qb3)
  refine Kv rfl (Zx zx hxs hkk zc) rfl rfl ?_;rintro v M U ⟨r2,k2,rfl,g2,g2',g2'',hk2,rfl,rfl⟩;refine ⟨zk,zu,?_⟩;refine Kv rfl (Kte zx hxs hk2 zc) rfl rfl ?_;rintro v M U ⟨r3,k3,rfl,hk3,rfl,rfl⟩;refine ⟨zk,zu,?_⟩;refine Kv rfl (Kte zx hxs hk3 zc) rfl rfl ?_;rintro v M U ⟨r4,k4,rfl,hk4,rfl,rfl⟩;refine ⟨zk,zu,?_⟩;refine Kv rfl (Yxf zx hxs hk4) rfl rfl ?_;rintro v M U ⟨y,k5,rfl,hy,hk5,rfl,rfl⟩;refine ⟨zk,zu,?_⟩;have hxs2:CodesR x (ptsl y :: (S ++ R)):=hxs.mono fun r h=>Jb (by simp [h]);refine Kz (Kf (qs:=[(0,(Value.int _ _).cells.toList),(1,(Value.bool _).cells.toList),(2,(Value.bool _).cells.toList),(3,(Value.slice _ _ _).cells.toList)]) (out:=[_,_,_,_]) tb rfl rfl rfl rfl) rfl rfl rfl rfl ?_;refine Keb zDb rfl rfl rfl ?_;rintro v M U ⟨b41,rfl,rfl,hR41⟩;replace hR41:=hR41.symm;subst hR41;apply (Xb3);refine V7a (Jq (f:=XFan.cells) (p:=fans) (a:=⟨r2,r3,r4,y⟩) tb rfl rfl rfl rfl (hokf) zm zCb rfl zz) rfl rfl rfl ?_;rintro v M U ⟨o42,rfl,hok42,rfl,rfl⟩;apply qa1∘qcb∘Xby∘qbu;refine Kh tb [] [0,1,2,3,4] [5,6,7] ([Blk.mk b5 _ _]) _ Kn zf zk yd ?_;apply (Xda);refine Kv rfl (Zx zx hxs2 hk5 zc) rfl rfl ?_;rintro v M U ⟨r6,k6,rfl,g6,g6',g6'',hk6,rfl,rfl⟩;refine ⟨zk,zu,?_⟩;apply (qc9);rintro v M U ⟨b49,rfl,rfl,hR49⟩;replace hR49:=hR49.symm;subst hR49;apply (Xb3);refine V7a (Jq (f:=Jj) (p:=sf) (a:=r6) tb rfl rfl rfl rfl (hoks) zm zCb rfl zz) rfl rfl rfl ?_;rintro v M U ⟨o50,rfl,hok50,rfl,rfl⟩;apply Xdb∘qby∘Xdk;have hq2:=g2' zc;have hq6:=g6' zc;exact q_k ⟨(k6,m - 1,_,_,ptsl y :: S),hk6,⟨m' - 1,by dsimp only;omega,hD.next zc ⟨⟨g2,by dsimp only;omega⟩,hy⟩ ⟨g6,by omega⟩⟩,⟨hok42,hok50⟩,(fun f hf=>by rcases List.mem_append.1 hf with h | h;exact (hin f h).mono (fun r hr=>Jb zJ);rw [List.mem_singleton.1 h];exact Jb zq)⟩
 refine K5 (Kk (K1 (J8 (Ja (Ji (Ji ?_))))));have hx8:CodesR x (S ++ R):=hx.mono fun r h=>Jb (by simp [h]);apply (Xel);refine Ju rfl (Zx zx hx8 hkk zc) rfl ?_;rintro v M U ⟨r7,k7,rfl,g7,g7',g7'',hk7,rfl,rfl⟩;apply (Xat);refine Jh [(0,.pointer _),(1,.pointer _),(4,.pointer _),(5,.pointer _),(6,.int _ _),(8,.int _ _)] zg fun tq1=>?_;refine K8 ([8,9]++rg 54 33) ((⟨fun g=>[(8,.int .i64 g.1.2.1)],fun g=>⟨b5,[sf.val,g.1.2.2.2.1.val],80⟩ :: ⟨b4,[.slice none 0 0,.slice none 0 0],80⟩ :: cblk c x g.1.1 :: ⟨ab,[pv,.slice ra n rc,fans.val,g.1.2.2.1.val],32⟩ :: (fans.L 278 XFan.cells ++ (g.1.2.2.1.L 239 XDoor.cells ++ (sf.L 3 Jj ++ (g.1.2.2.2.1.L 3 Jj ++ [])))),fun g=>g.1.2.2.2.2 ++ (S ++ R),fun g=>g.1.2.1.toNat⟩:Head {g:Nat×Int×OwL XDoor×OwL Int×LS // g.1≤x.l.length∧(∃m,g.2.1≤m∧DoorsD n m g.2.2.1.l g.2.2.2.1.l)∧(g.2.2.1.ok 3 XDoor.cells∧g.2.2.2.1.ok 1 Jj)∧(∀d∈g.2.2.1.l,InR d.sl g.2.2.2.2)})) (⟨(k7,r7,OwL.nil,OwL.nil,[]),hk7,⟨r7,yI _,⟨⟨g7,by have:=g7' zc;simp only [yV];omega⟩,rfl,(fun _ h=>by cases h),(fun _ _ _ h=>by cases h)⟩⟩,⟨OwL.nil_ok,OwL.nil_ok⟩,(fun _ h=>by cases h)⟩) zg zMa zJb ?_;rintro ⟨⟨kk2,m2,doors,sd,S2⟩,hkk2,⟨m2',hm2',hD2⟩,⟨hokd,hokt⟩,hin2⟩ junk;try dsimp only
 dsimp only at hkk2 hm2' hD2 hokd hokt hin2;apply Xap∘qa5∘qah;apply Ue (G:=[_,_]) (j:=2) (cj:=56) rfl rfl ze rfl ztb rfl;·exact zPd
 intro junk3;apply (qaf);refine q_c ?_ ?_<;>intro hc1;·have hx2:CodesR x (S2 ++ (S ++ R)):=hx8.mono fun r h=>Jb (by simp only [yOa] at h ⊢;exact .inr h);have hml:=hD2.m;have hll:=hD2.len;apply qbb∘qa6∘Xc2;refine Ju rfl (Zx zx hx2 hkk2 zc) rfl ?_;rintro v M U ⟨r8,k8,rfl,g8,g8',g8'',hk8,rfl,rfl⟩;refine Ju rfl (Ksg zx hx2 hk8) rfl ?_;rintro v M U ⟨d,k9,rfl,hd,hk9,rfl,rfl⟩;have hx3:CodesR x (d.sl :: (S2 ++ (S ++ R))):=hx2.mono fun r h=>Jb (yU _ h);apply (qaq);intro b9;apply (Xem);refine Kh tb [67] [0,1,2,3,4,5,6] [7,8,9,10] (_) _ Kn zf zk yd ?_;refine V6 (J2 zSb) rfl rfl rfl rfl ?_;apply (qb3);refine Kz zXb rfl rfl rfl rfl ?_;apply (Xah);refine Kz zzb rfl rfl rfl rfl ?_;refine Keb zEb rfl rfl rfl ?_;rintro v M U ⟨b73,rfl,rfl,hR73⟩;replace hR73:=hR73.symm;subst hR73;apply (Xb3);refine V7a (Jq (f:=XDoor.cells) (p:=doors) (a:=d) tb rfl rfl rfl rfl (hokd) zm zCb rfl zz) rfl rfl rfl ?_;rintro v M U ⟨o74,rfl,hok74,rfl,rfl⟩;apply qa1∘qcb∘Xby∘qbu;refine Kh tb [] [0,1,2,3,4,5,6,7] [8,9,10] ([Blk.mk b9 _ _,Blk.mk b5 _ _]) _ Kn zf zk yd ?_;apply Xda∘Xah;refine Kz zHb rfl rfl rfl rfl ?_;refine Kv rfl (Zx zx hx3 hk9 (by have:=hd.len;omega)) rfl rfl ?_;rintro v M U ⟨r10,k10,rfl,g10,g10',g10'',hk10,rfl,rfl⟩;refine ⟨zk,zu,?_⟩;apply (qc9);rintro v M U ⟨b84,rfl,rfl,hR84⟩;replace hR84:=hR84.symm;subst hR84;apply (Xb3);refine V7a (Jq (f:=Jj) (p:=sd) (a:=r10) tb rfl rfl rfl rfl (hokt) zm zCb rfl zz) rfl rfl rfl ?_;rintro v M U ⟨o85,rfl,hok85,rfl,rfl⟩;apply Xdb∘qby∘Xdk;have hq8:=g8' zc;have hq10:=g10' (by have:=hd.len;omega);have hdr:=hd.road;exact q_k ⟨(k10,m2 - 1,_,_,d.sl :: S2),hk10,⟨m2' - 1,by dsimp only;omega,hD2.next zc ⟨⟨by omega,by omega⟩,by rw [hdr];exact hd⟩ ⟨g10,by omega⟩⟩,⟨hok74,hok85⟩,(fun f hf=>by rcases List.mem_append.1 hf with h | h;exact (hin2 f h).mono (fun r hr=>Jb zJ);rw [List.mem_singleton.1 h];exact Jb zq)⟩
 apply (Xef);refine Ku (M:=cblk c x kk2 :: ⟨ab,[pv,.slice ra n rc,fans.val,doors.val],32⟩ :: (fans.L 278 XFan.cells ++ (doors.L 239 XDoor.cells ++ (sf.L 3 Jj ++ (sd.L 3 Jj ++ []))))) (U:=(S2 ++ S) ++ R) zfd ?hp ?hL ?hR;case hp=>exact ⟨fans,doors,sf,sd,kk2,S2 ++ S,rfl,⟨hokf,hokd,hoks,hokt⟩,hD.zero,hD2.zero,fun f hf=>(hin f hf).mono (fun r hr=>Jb zJ),fun d hd=>(hin2 d hd).mono (fun r hr=>Jb zJ),hkk2,rfl,rfl⟩
 case hL=>exact zk
 case hR=>exact fun r hr=>Jb (by rw [yp] at hr;exact hr)
structure DoubtTo (l:List Int) (n:Nat) (m:List Int):Prop where
 len:m.length=n
 val:∀(i:Nat) (v:Int),m[i]?=some v→v= -1∨l[i]?=some v
abbrev U9c (l m:List Int):Prop:=DoubtTo l l.length m
def DoubtTo.next {l m:List Int} {n:Nat} (h:DoubtTo l n m) {v:Int} (hv:v= -1∨l[n]?=some v):DoubtTo l (n + 1) (m ++ [v]):=by
 have hl:=h.len;refine ⟨by simp [hl],fun i w hw=>?_⟩;rw [yia] at hw;split at hw;·exact h.val i w hw
 ·
  rw [yga] at hw;split at hw;·cases hw;(have:i=n:=by omega);rw [this];exact hv
  ·cases hw
def Yjd (c:Nat) (x:Arr Int) (k:Nat) (a:XAir) (s:XSetting) (R:LS) (hx:CodesR x R) (hk:k≤x.l.length) (hs:SetR s R) (h1:s.fans.l.length≤100) (h2:s.doors.l.length≤100):
 Tri Tryz.prog 108 [.pointer (some ⟨c, 0, none⟩), a.val, s.val].toArray [cblk c x k] R
  (fun v M U=>∃(tf td:OwL Int) (k':Nat),v=.agg #[tf.val,td.val]∧(tf.ok 1 Jj∧td.ok 1 Jj)∧U9c s.fans.l tf.l∧U9c s.doors.l td.l∧k'≤x.l.length∧cblk c x k' :: (tf.L 3 Jj ++ (td.L 3 Jj ++ []))=M∧R=U):=by
 have hsf:=hs.fans;have hsd:=hs.doors;refine Jd 53 Tryz.call108 Tryz.func108 rfl rfl rfl ?_;apply (Xag);intro b4;apply (qax);intro b5;apply (qaq);intro b6;apply qam∘qaq;intro b7;apply qaw∘Xat;refine Jh [(0,.pointer _),(5,.pointer _),(6,.pointer _),(7,.pointer _),(8,.int _ _)] zg fun tq0=>?_;refine K8 ([8,9]++rg 12 20) ((⟨fun g=>[(8,.int .i64 ((g.1.2.1:Nat):Int))],fun g=>⟨b7,[g.1.2.2.val,.slice none 0 0],80⟩ :: ⟨b6,[.slice none 0 0,.slice none 0 0],80⟩ :: ⟨b5,s.cells,80⟩ :: ⟨b4,a.cells,32⟩ :: cblk c x g.1.1 :: (g.1.2.2.L 3 Jj ++ []),fun _=>R,fun g=>s.fans.l.length - g.1.2.1⟩:Head {g:Nat×Nat×OwL Int // g.1≤x.l.length∧g.2.1≤s.fans.l.length∧g.2.2.ok 1 Jj∧DoubtTo s.fans.l g.2.1 g.2.2.l})) (⟨(k,0,OwL.nil),hk,yma _,OwL.nil_ok,⟨rfl,(fun _ _ h=>by cases h)⟩⟩) zg (by dsimp only;rw [Kr];exact yu _) zJb ?_;rintro ⟨⟨kk,i,tf⟩,hkk,hi,hok,hD⟩ junk;try dsimp only
 dsimp only at hkk hi hok hD;apply (Xbm);refine q_c ?_ ?_<;>intro hc0;·
  have hsi:=Js (l:=s.fans.l) (k:=i) 0 zc;have hll:=hD.len;apply Xcz∘qa3∘qa7∘Xau∘qa6;refine Ju rfl (Kte zx hx hkk zc) rfl ?_;rintro v M U ⟨r1,k1,rfl,hk1,rfl,rfl⟩;apply (qaf);refine q_c ?_ ?_<;>intro hc1;·apply qay∘qad;refine J6 (Ja (Je ?_));exact uaD
  refine Jt (Ja (Je ?_));exact uaD
 obtain rfl:i=s.fans.l.length:=by omega
 apply (Xdl);refine Jh [(0,.pointer _),(5,.pointer _),(6,.pointer _),(7,.pointer _),(10,.int _ _)] zg fun tq1=>?_;refine K8 ([10,11]++rg 32 20) ((⟨fun g=>[(10,.int .i64 ((g.1.2.1:Nat):Int))],fun g=>⟨b7,[tf.val,g.1.2.2.val],80⟩ :: ⟨b6,[.slice none 0 0,.slice none 0 0],80⟩ :: ⟨b5,s.cells,80⟩ :: ⟨b4,a.cells,32⟩ :: cblk c x g.1.1 :: (tf.L 3 Jj ++ (g.1.2.2.L 3 Jj ++ [])),fun _=>R,fun g=>s.doors.l.length - g.1.2.1⟩:Head {g:Nat×Nat×OwL Int // g.1≤x.l.length∧g.2.1≤s.doors.l.length∧g.2.2.ok 1 Jj∧DoubtTo s.doors.l g.2.1 g.2.2.l})) (⟨(kk,0,OwL.nil),hkk,yma _,OwL.nil_ok,⟨rfl,(fun _ _ h=>by cases h)⟩⟩) zg (by dsimp only;rw [Kr];exact yu _) zJb ?_;rintro ⟨⟨kk2,j,td⟩,hkk2,hj,hok2,hD2⟩ junk;try dsimp only
 dsimp only at hkk2 hj hok2 hD2;apply (Xbm);refine q_c ?_ ?_<;>intro hc2;·
  have hsj:=Js (l:=s.doors.l) (k:=j) 0 zc;have hll:=hD2.len;apply Xcz∘qa3∘qa7∘Xau∘qa6;refine Ju rfl (Kte zx hx hkk2 zc) rfl ?_;rintro v M U ⟨r2,k2,rfl,hk2,rfl,rfl⟩;apply (qaf);refine q_c ?_ ?_<;>intro hc3;·apply qay∘qad;refine J6 (Ja (Je ?_));exact uaC
  refine Jt (Ja (Je ?_));exact uaC
 obtain rfl:j=s.doors.l.length:=by omega
 apply (Xef);refine q_r (cblk c x kk2 :: (tf.L 3 Jj ++ (td.L 3 Jj ++ []))) R zfd ?_;exact ⟨tf,td,kk2,rfl,⟨hok,hok2⟩,hD,hD2,hkk2,rfl,rfl⟩
end Go.Proofs.YtchfclmokpbldaaGreat
end
section
namespace Go.Proofs.YtchfclmokpbldaaGreat
open Go.Aw Go
def SubS (x y:XSpan):Prop:=y.low≤x.low∧x.high≤y.high
def SubS.refl (x:XSpan):SubS x x:=⟨yI _,yI _⟩
def Jve (q:Int):0≤q * q:=by
 rcases Int.le_total 0 q with h | h;·exact yR h h
 ·have := yR zLc zLc;rwa [Int.neg_mul_neg] at this
def Via {a b q:Int} (h:a≤b):a * q * q≤b * q * q:=by rw [yua,yua];exact yQa h (Jve q)
def Zqd {r r' l l':XSpan} (h:SubS r r') (k:SubS l l') (q:Int):SubS (Jkc r l q) (Jkc r' l' q):=by have h1:=Via (q:=q) h.1;have h2:=Via (q:=q) h.2;have h3:=k.1;have h4:=k.2;unfold Jkc SubS;split <;> dsimp only <;> omega
def V4d {l : List Int} : ∀ {k i : Nat}, i < k → Zib l k ≤ l.getD i 0 ∧ l.getD i 0 ≤ Yfb l k
 | 0,i,h=>absurd h zc
 | k + 1,i,h=>by
  simp only [Zib,Yfb]
  rcases yIa (yPa h) with h' | h'
  ·have:=V4d (l:=l) h';omega
  ·subst h';omega
def U4d (d:XDoor) (s t:Int):Prop:=t=s∨(t= -1∧-1≤s∧s < d.rests.l.length)
def Zsd (s t:Int):Prop:=t=s∨(t= -1∧-1≤s∧s≤2)
def Zfd {d:XDoor} {s t:Int} (h:U4d d s t):SubS (Z9 d s) (Z9 d t):=by
 rcases h with h | ⟨h1,h2,h3⟩;·rw [h];exact .refl _
 ·
  rw [h1];by_cases hs:s= -1;·rw [hs];exact .refl _
  ·have := V4d (l := d.rests.l) (k := d.rests.l.length) (i := s.toNat) zc;unfold Z9;rw [if_neg zc,if_neg hs,if_neg zc,if_pos rfl];exact this
def Kyd {f:XFan} {s t:Int} (h:Zsd s t) (q:Int):SubS (Uy f s q) (Uy f t q):=by
 rcases h with h | ⟨h1,h2,h3⟩;·rw [h];exact .refl _
 ·
  rw [h1];have key:∀b:Bool,SubS (Yy f.curve.l b q) (Uy f (-1) q):=fun b=>by unfold Uy SubS;rw [if_neg zj,if_neg zj,if_pos rfl];cases b <;> dsimp only <;> omega
  rw [Uy];split;·exact key _
  ·
   split;·exact key _
   ·
    split;·rename_i h;unfold Uy;rw [if_neg zj,if_neg zj,if_pos rfl];exact .refl _
    ·unfold Uy SubS;rw [if_neg zj,if_neg zj,if_pos rfl];dsimp only;omega
structure SetLess (a:XAir) (s t:XSetting):Prop where
 fan:∀k,k < a.fans.l.length→Zsd (s.fans.l.getD k 0) (t.fans.l.getD k 0)
 door:∀k,k < a.doors.l.length→U4d (a.doors.l.getD k default) (s.doors.l.getD k 0) (t.doors.l.getD k 0)
def Ycb {a : XAir} {s t : XSetting} (h : SetLess a s t) (r : Int) : ∀ k, k ≤ a.doors.l.length → SubS (Uj a s r k) (Uj a t r k)
 | 0,_=>.refl _
 | k + 1,hk=>by
  have ih:=Ycb h r k zc
  have hd:=Zfd (h.door k zc)
  unfold SubS at *
  simp only [Uj]
  split
  ·dsimp only;omega
  ·exact ih
def Upb {a : XAir} {s t : XSetting} (h : SetLess a s t) (r q : Int) : ∀ k, k ≤ a.fans.l.length → SubS (innerTo a s r q k) (innerTo a t r q k)
 | 0,_=>Zqd (Ycb h r _ (yn _)) (.refl _) q
 | k + 1,hk=>by
  have ih:=Upb h r q k zc
  have hd:=Kyd (f:=a.fans.l.getD k default) (h.fan k zc) q
  unfold SubS at *
  simp only [innerTo]
  split
  ·dsimp only;omega
  ·exact ih
def Uid {a:XAir} {s t:XSetting} (h:SetLess a s t) (r q:Int):SubS (Uc a s r q) (Uc a t r q):=Upb h r q _ (yn _)
def Yvb (doors : List XDoor) (sd : List Int) (r : Int) : Nat → Int
 | 0=>0
 | k + 1=>if (doors.getD k default).road=r then Yvb doors sd r k + (Z9 (doors.getD k default) (sd.getD k 0)).low else Yvb doors sd r k
def fSum (fans : List XFan) (sf : List Int) (r q : Int) : Nat → Int
 | 0=>0
 | k + 1=>if (fans.getD k default).road=r then fSum fans sf r q k + (Uy (fans.getD k default) (sf.getD k 0) q).low else fSum fans sf r q k
def K5b {d:XDoor} {road:Int} (hd:MadeDoor road d) {s:Int} (hs:0≤s∧s < d.rests.l.length):(Z9 d s).low=(Z9 d s).high∧0≤(Z9 d s).low∧(Z9 d s).low≤900:=by have hl:=hd.len;have:=hd.rest s.toNat _ (Js 0 zc);unfold Z9;rw [if_neg zc,if_neg zc];dsimp only;omega
def Ymb {l:List XPoint} (h:MadeCurve l) (q:Int):0≤(Yl l q).low∧(Yl l q).low≤(Yl l q).high∧(Yl l q).high≤3000:=by
 cases l with
 | nil=>simp [Yl]
 | cons p rest=>
  have h0:=h.ok.pt 0 p rfl;have ht:=h.top;simp only [List.getD_cons_zero] at ht;unfold Yl;dsimp only;split;·dsimp only;omega
  ·have := Z0 rest p q h.ok zc;omega
def U7a {l:List XPoint} (h:MadeCurve l) (back:Bool) (q:Int):-3000≤(Yy l back q).low∧(Yy l back q).low≤(Yy l back q).high∧(Yy l back q).high≤3000:=by have h1:=Ymb h q;have h2:=Ymb h (-q);unfold Yy Jof;exact ubQ
def Jjb {f:XFan} (h:MadeCurve f.curve.l) (s q:Int):-3000≤(Uy f s q).low∧(Uy f s q).low≤(Uy f s q).high∧(Uy f s q).high≤3000:=by
 have h1:=U7a h f.back q;have h2:=U7a h (!f.back) q;have h3:=U7a h false q;have h4:=U7a h true q;unfold Uy;split;·omega
 ·
  split;·omega
  ·split <;> dsimp only <;> omega
def Vca {n : Nat} {m : Int} {doors : List XDoor} {sd : List Int} (h : DoorsD n m doors sd) (r : Int) : ∀ k, k ≤ doors.length → 0 ≤ Yvb doors sd r k ∧ Yvb doors sd r k ≤ 900 * (k : Int)
 | 0,_=>by simp [Yvb]
 | k + 1,hk=>by
  have ih:=Vca h r k zc
  have hl:=h.len
  have hg:=Js (l:=doors) (k:=k) default zc
  have hb:=K5b (h.door _ (yi hg)).made (h.st k _ _ hg (Js 0 zc))
  simp only [Yvb]
  split <;> omega
def Vda {n : Nat} {m : Int} {fans : List XFan} {sf : List Int} (h : FansD n m fans sf) (r q : Int) : ∀ k, k ≤ fans.length → -3000 * (k : Int) ≤ fSum fans sf r q k ∧ fSum fans sf r q k ≤ 3000 * (k : Int)
 | 0,_=>by simp [fSum]
 | k + 1,hk=>by
  have ih:=Vda h r q k zc
  have hg:=Js (l:=fans) (k:=k) default zc
  have hb:=Jjb (h.fan _ (yi hg)).curve (sf.getD k 0) q
  simp only [fSum]
  split <;> omega
def FanD.ok {n:Nat} {f:XFan} (h:FanD n f):FanOk f:=⟨h.road.1,h.curve.len.1,by have:=h.curve.len;omega,h.curve.ok⟩
def DoorD.ok {n:Nat} {d:XDoor} (h:DoorD n d):DoorOk d:=⟨h.road.1,by have:=h.made.len;omega,fun i x hx=>by have:=h.made.rest i x hx;omega,h.made.falls⟩
def Uob (r:XRoad) (e dS fS d q:Int):Int:=(r.rest.low + e + dS) * max q (-q) * q - d - fS
def Jcf (dS fS d q:Int) (r r':XRoad):Prop:=
 ∃e u v:Int,(0≤e∧e≤r.rest.high - r.rest.low)∧(0≤u∧u≤29)∧(0≤v∧v≤29)∧r'={ r with lift:=⟨Uob r e dS fS d q - u,Uob r e dS fS d q + v⟩ }
def V1b {R q:Int} (hR:0≤R∧R≤2000) (hq:-360≤q∧q≤360):(0≤R * max q (-q)∧R * max q (-q)≤720000)∧-259200000≤R * max q (-q) * q∧R * max q (-q) * q≤259200000:=by
 have hm:0≤max q (-q)∧max q (-q)≤360:=by omega
 generalize max q (-q)=m at *;have h1:=yR hR.1 hm.1;have h2:=yea hR.2 hm.2 hm.1 zc;generalize R * m=z at *;refine ⟨by omega,?_⟩;rcases Int.le_total 0 q with h | h;·have h3 := yR h1 h;have h4:=yea (show z≤720000 by omega) hq.2 h zc;omega
 ·have h3 := yR h1 zLc;have h4:=yea (show z≤720000 by omega) (show -q≤360 by omega) zc zc;rw [yub] at h3 h4;omega
def Ked {R q:Int}:R * max q (-q) * q=if q < 0 then -(R * q * q) else R * q * q:=by
 split;·rw [show max q (-q)= -q by omega,yub,yvb]
 ·rw [show max q (-q)=q by omega]
def Zyc {a : XAir} {s : XSetting} {n : Nat} {m m' : Int} (hF : FansD n m a.fans.l s.fans.l) (hD : DoorsD n m' a.doors.l s.doors.l) {i : Nat} {r0 : XRoad} {d q : Int} (hr0 : r0.rest.low ≤ r0.rest.high)
 (hfit:Jcf (Yvb a.doors.l s.doors.l i a.doors.l.length) (fSum a.fans.l s.fans.l i q a.fans.l.length) d q r0 (a.mine.roads.l.getD i default)):
 (Uc a s i q).low≤d∧d≤(Uc a s i q).high:=by
 obtain ⟨e,u,v,he,hu,hv,hr⟩:=hfit;have hrest:(a.mine.roads.l.getD i default).rest=r0.rest:=by rw [hr]
 have hlift:(a.mine.roads.l.getD i default).lift=⟨Uob r0 e (Yvb a.doors.l s.doors.l i a.doors.l.length) (fSum a.fans.l s.fans.l i q a.fans.l.length) d q - u,Uob r0 e (Yvb a.doors.l s.doors.l i a.doors.l.length) (fSum a.fans.l s.fans.l i q a.fans.l.length) d q + v⟩:=by rw [hr]
 have hdo:∀k,k≤a.doors.l.length→Uj a s i k=⟨r0.rest.low + Yvb a.doors.l s.doors.l i k,r0.rest.high + Yvb a.doors.l s.doors.l i k⟩:=by
  intro k;induction k with
  | zero=>intro _;simp only [Uj,Yvb,yz,hrest,ymb]
  | succ k ih=>
   intro hk;have hg:=Js (l:=a.doors.l) (k:=k) default zc;have hl:=hD.len;have hb:=K5b (hD.door _ (yi hg)).made (hD.st k _ _ hg (Js 0 zc));simp only [Uj,Yvb,ih zc];split;·rw [← hb.1];simp only [Int.add_assoc]
   ·rfl
 have hfa:∀k,k≤a.fans.l.length→(innerTo a s i q k).low + fSum a.fans.l s.fans.l i q k≤(innerTo a s i q 0).low∧(innerTo a s i q k).high + fSum a.fans.l s.fans.l i q k=(innerTo a s i q 0).high:=by
  intro k;induction k with
  | zero=>intro _;simp only [fSum];omega
  | succ k ih=>
   intro hk;have ih:=ih zc;have hg:=Js (l:=a.fans.l) (k:=k) default zc;have hb:=Jjb (hF.fan _ (yi hg)).curve (s.fans.l.getD k 0) q;rw [innerTo.eq_2,fSum.eq_2];split;·dsimp only;omega
   ·exact ih
 have h1:=hfa _ (yn _);have h0:innerTo a s i q 0=Jkc ⟨r0.rest.low + Yvb a.doors.l s.doors.l i a.doors.l.length,r0.rest.high + Yvb a.doors.l s.doors.l i a.doors.l.length⟩ (a.mine.roads.l.getD i default).lift q:=by rw [innerTo,hdo _ (yn _),yz]
 rw [h0,hlift] at h1;unfold Uc;generalize innerTo a s i q a.fans.l.length=I at *;generalize fSum a.fans.l s.fans.l i q a.fans.l.length=fS at *;generalize Yvb a.doors.l s.doors.l i a.doors.l.length=dS at *;unfold Uob at h1;rw [Ked] at h1;have k1:=Via (q:=q) (show r0.rest.low + dS≤r0.rest.low + e + dS by omega);have k2:=Via (q:=q) (show r0.rest.low + e + dS≤r0.rest.high + dS by omega);unfold Jkc at h1;dsimp only at h1;by_cases hq:q < 0;·rw [if_pos hq, if_pos hq] at h1;dsimp only at h1;omega
 ·rw [if_neg hq, if_neg hq] at h1;dsimp only at h1;omega
end Go.Proofs.YtchfclmokpbldaaGreat
end
section
namespace Go.Proofs.YtchfclmokpbldaaGreat
open Go.Aw Go
set_option maxRecDepth 20000
attribute [local irreducible] CJ LJ DJ Tri YV Gives U7 Kb Kp U8 RV Ke OwL.L
structure RoadD (np:Nat) (r:XRoad):Prop where
 fr:0≤r.fr∧r.fr < np
 to:0≤r.to∧r.to < np
 rest:1≤r.rest.low∧r.rest.low≤r.rest.high∧r.rest.high≤22
abbrev Kqb (st:XState) (r:XRoad):Int:=st.pres.l.getD r.fr.toNat 0 - st.pres.l.getD r.to.toNat 0
def Klf (a:XAir) (s:XSetting) (st:XState) (i:Nat) (r r':XRoad):Prop:=
 Jcf (Yvb a.doors.l s.doors.l i a.doors.l.length) (fSum a.fans.l s.fans.l i (st.flows.l.getD i 0) a.fans.l.length) (Kqb st r) (st.flows.l.getD i 0) r r'
structure FitI (a:XAir) (s:XSetting) (st:XState) (l0:List XRoad) (i:Nat) (l:List XRoad):Prop where
 len:l.length=l0.length
 done:∀(j:Nat) (r:XRoad),j < i→l0[j]?=some r→∃r',l[j]?=some r'∧Klf a s st j r r'
 todo:∀j,i≤j→l[j]?=l0[j]?
def FitI.next {a:XAir} {s:XSetting} {st:XState} {l0 l:List XRoad} {i:Nat} (h:FitI a s st l0 i l) {r r':XRoad} (hr:l0[i]?=some r) (hf:Klf a s st i r r'):FitI a s st l0 (i + 1) (l.set i r'):=by
 have hi:=(List.getElem?_eq_some_iff.1 hr).1;refine ⟨by simp [h.len],fun j q hj hq=>?_,fun j hj=>?_⟩;·
  rcases yIa (yPa hj) with h' | h';·rw [yW zc];exact h.done j q h' hq
  ·subst h';rw [hr] at hq;cases hq;exact ⟨r',yB (by rw [h.len];exact hi),hf⟩
 ·rw [yW zc];exact h.todo j zc
def J2f (c ab : Nat) (x : Arr Int) (k n : Nat) (pv : Value) (a : XAir) (s : XSetting) (st : XState) (roads : OwL XRoad) (R : LS) (hx : CodesR x R) (hk : k ≤ x.l.length) (hok : roads.ok 10 XRoad.cells)
 (hfa:InR (fsl a.fans) R) (hdo:InR (dsl a.doors) R) (hs:SetR s R) (hst:StateR st R) (hF:FansD n 0 a.fans.l s.fans.l) (hD:DoorsD n 0 a.doors.l s.doors.l) (hq:roads.l.length=st.flows.l.length) (hlen:roads.l.length≤100)
 (hqb:∀(i:Nat) (q:Int),st.flows.l[i]?=some q→-360≤q∧q≤360) (hpb:∀(i:Nat) (p:Int),st.pres.l[i]?=some p→-4000≤p∧p≤4000) (hr:∀(i:Nat) (r:XRoad),roads.l[i]?=some r→RoadD st.pres.l.length r):
 Tri Tryz.prog 107 [.pointer (some ⟨c, 0, none⟩), .pointer (some ⟨ab, 0, none⟩), s.val, st.val].toArray (cblk c x k :: ⟨ab, [pv, roads.val, a.fans.val, a.doors.val], 32⟩ :: (roads.L 157 XRoad.cells ++ [])) R
  (fun v M U=>∃(rl:List XRoad) (k':Nat),v=.tuple #[]∧FitI a s st roads.l roads.l.length rl∧k'≤x.l.length∧cblk c x k' :: ⟨ab,[pv,roads.val,a.fans.val,a.doors.val],32⟩ :: ((⟨roads.o,rl⟩:OwL XRoad).L 157 XRoad.cells ++ [])=M∧R=U):=by
 have hsf:=hs.fans;have hsd:=hs.doors;have hsp:=hst.pres;have hsq:=hst.flows;have hFm:=hF.m;have hFl:=hF.len;have hDm:=hD.m;have hDl:=hD.len;refine Jd 166 Tryz.call107 Tryz.func107 rfl rfl rfl ?_;apply (Xag);intro b6;apply (qax);intro b7;apply qam∘Xat;refine Jh [(0,.pointer _),(1,.pointer _),(6,.pointer _),(7,.pointer _),(8,.int _ _)] zg fun tq0=>?_;refine q_p (rg 8 158) ((⟨fun g=>[(8,.int .i64 ((g.1.2.1:Nat):Int))],fun g=>⟨b7,st.cells,82⟩ :: ⟨b6,s.cells,80⟩ :: cblk c x g.1.1 :: ⟨ab,[pv,(⟨roads.o,g.1.2.2⟩:OwL XRoad).val,a.fans.val,a.doors.val],32⟩ :: ((⟨roads.o,g.1.2.2⟩:OwL XRoad).L 157 XRoad.cells ++ []),fun _=>R,fun g=>roads.l.length - g.1.2.1⟩:Head {g:Nat×Nat×List XRoad // g.1≤x.l.length∧g.2.1≤roads.l.length∧(⟨roads.o,g.2.2⟩:OwL XRoad).ok 10 XRoad.cells∧FitI a s st roads.l g.2.1 g.2.2})) (⟨(k,0,roads.l),hk,yma _,hok,⟨rfl,(fun _ _ h=>absurd h (Nat.not_lt_zero _)),(fun _ _=>rfl)⟩⟩) ?_;rintro ⟨⟨kk,i,rl⟩,hkk,hi,hokr,hI⟩ junk;try dsimp only
 dsimp only at hkk hi hokr hI;have hrl:=hI.len;apply Xap∘qa6;refine J0 zXb rfl ?_;apply qab∘Xa9;refine q_c ?_ ?_<;>intro hc0;·
  have hr0:=Js (l:=roads.l) (k:=i) default zc;obtain ⟨r,hre⟩:∃r,r=roads.l.getD i default:=⟨_,rfl⟩;rw [← hre] at hr0;have hri:rl[i]?=some r:=by rw [hI.todo i (yn _)];exact hr0
  have hrd:=hr i r hr0;have hrr:=hrd.rest;have hrf:=hrd.fr;have hrt:=hrd.to;obtain ⟨q,hqe⟩:∃q,q=st.flows.l.getD i 0:=⟨_,rfl⟩;have hqi:=Js (l:=st.flows.l) (k:=i) 0 zc;rw [← hqe] at hqi;have hqq:=hqb _ _ hqi;have hpf:=Js (l:=st.pres.l) (k:=r.fr.toNat) 0 zc;have hpt:=Js (l:=st.pres.l) (k:=r.to.toNat) 0 zc;have hpfb:=hpb _ _ hpf;have hptb:=hpb _ _ hpt;have hpa:-8000≤Kqb st r∧Kqb st r≤8000:=by dsimp only [Kqb];omega
  apply qbb∘qa6;refine J0 zXb rfl ?_;apply (Xc3);refine J0 (Jo tb ((⟨roads.o,rl⟩:OwL XRoad)) _ rfl rfl rfl rfl zi (i:=i) zo zw) rfl ?_;apply qc1∘qam∘Xaf∘qa3∘qa7∘Xdf;refine Kg tb [0,1,2,3,4,5,6,7,8,9,10,11,12,13,14,15,16,17,18,19,20] ([Blk.mk ab _ _] ++ ((⟨roads.o,rl⟩:OwL XRoad).L 157 XRoad.cells ++ [])) Kn zf zk ?_;apply Xbw∘qce∘qce∘qdf∘qb8∘Xbw∘qce∘qce∘qdf∘Xbw∘qce∘qce∘qdf∘qb7∘qc2;refine Vn rfl (Zx zx hx hkk zc) rfl rfl ?_;rintro v M U ⟨e,k1,rfl,g1,g1',g1'',hk1,rfl,rfl⟩;refine ⟨zk,zu,?_⟩;apply qc2∘qcg;refine J9 (Ja (Ji (Ji ?_)));have g1q:=g1' zc;apply (Xe2);refine Uh (rg 8 158) zG [(8,.int _ _),(9,.pointer _),(10,.int _ _),(11,.int _ _),(12,.int _ _)] zg fun tq1=>?_;refine q_s ([11,12]++rg 57 35) (fun g:{g:Nat×Int // g.1≤a.doors.l.length∧g.2=r.rest.low + e + Yvb a.doors.l s.doors.l i g.1}=>[(12,.int .i64 ((g.1.1:Nat):Int)),(11,.int .i64 g.1.2)]) (fun g=>a.doors.l.length - g.1.1) (⟨(0,r.rest.low + e),yma _,(ymb _).symm⟩) ?_;rintro ⟨⟨kd,rs⟩,hkd,hrs⟩ junk;try dsimp only
  dsimp only at hkd hrs;apply Xap∘qa6;refine J0 zXb rfl ?_;apply (Xa9);refine q_c ?_ ?_<;>intro hc1;·
   have hdk:=Js (l:=a.doors.l) (k:=kd) default zc;have hsk:=Js (l:=s.doors.l) (k:=kd) 0 zc;have hdb:=Vca hD i kd zc;have hrb:=K5b (hD.door _ (yi hdk)).made (hD.st kd _ _ hdk hsk);apply qbb∘qa6;refine J0 zXb rfl ?_;apply Xaf∘qa3∘Xdt∘Xa6;refine q_c ?_ ?_<;>intro hc2;·refine Kg tb [0,1,2,3,4,5,6,7,8,9,10,11,12,13,14,15,16] _ Kn zf ye ?_;apply qao∘Xbw∘Xd6∘qdv∘Xd6∘qbl;refine q_d rfl (Kab (a.doors.l.getD kd default) (s.doors.l.getD kd 0) _ _ (hdo.door hdk)) ?_;refine Kq zQc rfl rfl rfl ?_;apply qc2∘qcg∘Xcd;exact uaK
   apply (Xa4);exact uaK
  obtain rfl:kd=a.doors.l.length:=by omega
  have hdb:=Vca hD i a.doors.l.length (yn _);have hlb:=V1b (R:=rs) (q:=q) zc hqq;apply (qc3);refine Kg tb [0,1,2,3,4,5,6,7,8,9,10,11,12,13,14,15,16,17,18,19,20,21,22,23,24,25,26] _ Kn zf ye ?_;iterate 3 apply (qao)
  refine Kq (Vqb rfl zc zc) rfl rfl rfl ?_;refine Kq zsc rfl rfl rfl ?_;apply qdh∘qao∘qdh∘Xae∘Xbw∘qce∘qdf;refine Kq (by first | exact Jf tb rfl rfl rfl rfl zB (i:=r.fr.toNat) zo zc | exact Jm tb rfl rfl rfl rfl (i:=r.fr.toNat) zo zc) rfl rfl rfl ?_;apply qbl∘Xae∘Xbw∘qce∘qdf;refine Kq (by first | exact Jf tb rfl rfl rfl rfl zB (i:=r.to.toNat) zo zc | exact Jm tb rfl rfl rfl rfl (i:=r.to.toNat) zo zc) rfl rfl rfl ?_;apply Xe1∘qb7∘qcg∘qc6∘Xat;refine Uh (rg 8 158) zG [(8,.int _ _),(9,.pointer _),(10,.int _ _),(13,.int _ _),(14,.int _ _)] zg fun tq2=>?_;refine q_s ([13,14]++rg 118 36) (fun g:{g:Nat×Int // g.1≤a.fans.l.length∧g.2=rs * max q (-q) * q - Kqb st r - fSum a.fans.l s.fans.l i q g.1}=>[(14,.int .i64 ((g.1.1:Nat):Int)),(13,.int .i64 g.1.2)]) (fun g=>a.fans.l.length - g.1.1) (⟨(0,rs * max q (-q) * q - Kqb st r),yma _,(Int.sub_zero _).symm⟩) ?_;rintro ⟨⟨kf,lf⟩,hkf,hlf⟩ junk;try dsimp only
  dsimp only at hkf hlf;apply Xap∘qa6;refine J0 zXb rfl ?_;apply (Xa9);refine q_c ?_ ?_<;>intro hc3;·
   have hfk:=Js (l:=a.fans.l) (k:=kf) default zc;have hsk:=Js (l:=s.fans.l) (k:=kf) 0 zc;have hfb:=Vda hF i q kf zc;have hfd:=hF.fan _ (yi hfk);have hsb:=Jjb hfd.curve (s.fans.l.getD kf 0) q;have hst2:=hF.st _ (yi hsk);apply qbb∘qa6;refine J0 zXb rfl ?_;apply Xaf∘qa3∘Xdt∘Xa6;refine q_c ?_ ?_<;>intro hc4;·refine Kg tb [0,1,2,3,4,5,6,7,8,9,10,11,12,13,14,15,16,17] _ Kn zf ye ?_;apply qao∘Xbw∘Xd6∘qdp∘Xd6∘qbl∘qao;refine q_d rfl (Jnb (a.fans.l.getD kf default) (s.fans.l.getD kf 0) q _ _ (hfa.fan hfk) hfd.ok zc zc) ?_;refine Kq zQc rfl rfl rfl ?_;apply qb7∘qcg∘Xcd;exact uaL
   apply (Xa4);exact uaL
  obtain rfl:kf=a.fans.l.length:=by omega
  have hfb:=Vda hF i q a.fans.l.length (yn _);refine K5 (Kk (K1 (J8 (Ja (Je ?_)))));apply Xc2∘qa6∘Kjg;rintro v M U ⟨u,k2,rfl,g2,g2',g2'',hk2,rfl,rfl⟩;apply qa9∘qaa∘qa6∘Uvf;rintro v M U ⟨w,k3,rfl,g3,g3',g3'',hk3,rfl,rfl⟩;have g2q:=g2' zc;apply qar∘qcd;refine J0 zXb rfl ?_;apply (qb0);refine V5 (Vm tb ((⟨roads.o,rl⟩:OwL XRoad)) ({ r with lift:=⟨lf - u,lf + w⟩ }) rfl rfl rfl rfl zm zi yf zi (yX rfl) ze ze) ?_;rintro v M U ⟨rfl,rfl⟩;apply (Xb6);have g3q:=g3' zc;exact Ka ⟨(k3,i + 1,rl.set i { r with lift:=⟨lf - u,lf + w⟩ }),hk3,by dsimp only;omega,OwL.set_ok (p:=⟨roads.o,rl⟩) yf hokr,hI.next hr0 ⟨e,u,w,by omega,by omega,by omega,by rw [Uob,← hrs,← hqe,← hlf]⟩⟩ zp zg (by dsimp only;rw [OwL.set_val];exact zk) zJb zt
 obtain rfl:i=roads.l.length:=by omega
 refine K5 (Kk (K1 (J8 ?_)));refine Jua (M:=cblk c x kk :: ⟨ab,[pv,roads.val,a.fans.val,a.doors.val],32⟩ :: ((⟨roads.o,rl⟩:OwL XRoad).L 157 XRoad.cells ++ [])) (U:=R) (Uzf rfl) ?hp ?hL ?hR;case hp=>exact ⟨rl,kk,rfl,hI,hkk,rfl,rfl⟩
 case hL=>
  have e:roads.val=(⟨roads.o,rl⟩:OwL XRoad).val:=by simp only [OwL.val,hrl]
  rw [e];exact zk
 case hR=>exact Jc _
def Vfe {A B : LB} {c ab : Nat} {x : Arr Int} {k n : Nat} {pv : Value} {roads : OwL XRoad} {fans : OwL XFan} {doors : OwL XDoor} {sf sd pres flows : OwL Int} {R : LS} (mine : XMine)
 (hsp:Spl A B (roads.L 157 XRoad.cells ++ (cblk c x k :: ⟨ab,[pv,roads.val,fans.val,doors.val],32⟩ :: [])))
 (b1:InB (fans.L 278 XFan.cells) B) (b2:InB (doors.L 239 XDoor.cells) B) (b3:InB (sf.L 3 Jj) B) (b4:InB (sd.L 3 Jj) B) (b5:InB (pres.L 3 Jj) B) (b6:InB (flows.L 3 Jj) B)
 (o1:fans.ok 4 XFan.cells) (o2:doors.ok 3 XDoor.cells) (o3:sf.ok 1 Jj) (o4:sd.ok 1 Jj) (o5:pres.ok 1 Jj) (o6:flows.ok 1 Jj) (r1:∀f∈fans.l,InR f.sl R) (r2:∀d∈doors.l,InR d.sl R)
 (hx:CodesR x R) (hk:k≤x.l.length) (hok:roads.ok 10 XRoad.cells) (hF:FansD n 0 fans.l sf.l) (hD:DoorsD n 0 doors.l sd.l) (hq:roads.l.length=flows.l.length) (hlen:roads.l.length≤100)
 (hqb:∀(i:Nat) (q:Int),flows.l[i]?=some q→-360≤q∧q≤360) (hpb:∀(i:Nat) (p:Int),pres.l[i]?=some p→-4000≤p∧p≤4000) (hr:∀(i:Nat) (r:XRoad),roads.l[i]?=some r→RoadD pres.l.length r):
 Tri Tryz.prog 107 [.pointer (some ⟨c, 0, none⟩), .pointer (some ⟨ab, 0, none⟩), .agg #[sf.val, sd.val], .agg #[pres.val, flows.val]].toArray A R
  (fun v L'' U=>∃(rl:List XRoad) (k':Nat),v=.tuple #[]∧FitI ⟨mine,fans.arr,doors.arr⟩ ⟨sf.arr,sd.arr⟩ ⟨pres.arr,flows.arr⟩ roads.l roads.l.length rl∧k'≤x.l.length∧
   B ++ (cblk c x k' :: ⟨ab,[pv,roads.val,fans.val,doors.val],32⟩ :: ((⟨roads.o,rl⟩:OwL XRoad).L 157 XRoad.cells ++ []))=L''∧R=U):=by
 have h := J2f c ab x k n pv ⟨mine, fans.arr, doors.arr⟩ ⟨sf.arr, sd.arr⟩ ⟨pres.arr, flows.arr⟩ roads ([fsl fans.arr, dsl doors.arr, isl sf.arr, isl sd.arr, isl pres.arr, isl flows.arr] ++ R) (hx.mono fun r h => Jb (by simp [h])) hk hok
  (Jb zq) (Jb zq) ⟨Jb zq,Jb zq⟩ ⟨Jb zq,Jb zq⟩ hF hD hq hlen hqb hpb hr
 have h2:=Tri.lend (S:=[fsl fans.arr,dsl doors.arr,isl sf.arr,isl sd.arr,isl pres.arr,isl flows.arr]) (Post:=fun v M=>∃(rl:List XRoad) (k':Nat),v=.tuple #[]∧FitI ⟨mine,fans.arr,doors.arr⟩ ⟨sf.arr,sd.arr⟩ ⟨pres.arr,flows.arr⟩ roads.l roads.l.length rl∧k'≤x.l.length∧
  (cblk c x k' :: ⟨ab,[pv,roads.val,fans.val,doors.val],32⟩ :: ((⟨roads.o,rl⟩:OwL XRoad).L 157 XRoad.cells ++ []))=M) hsp (fun w G hh s hs=>?_)
  ((Tri.permL K1g h).mono fun v M U ⟨rl,k',a1,a2,a3,a4,a5⟩=>⟨⟨rl,k',a1,a2,a3,a4⟩,a5⟩)
 ·exact h2.mono fun v L'' U ⟨M,e,⟨rl,k',a1,a2,a3,a4⟩,a5⟩=>⟨rl,k',a1,a2,a3,by rw [← a4] at e;exact e,a5⟩
 ·
  simp only [yT, yP, or_false] at hs;rcases hs with rfl | rfl | rfl | rfl | rfl | rfl;·exact Y2 hh b1 o1 yf zj (fun s hs=>by obtain ⟨y,hy,rfl⟩:=List.mem_map.1 hs;exact r1 y hy)
  ·exact Y2 hh b2 o2 yf zj (fun s hs=>by obtain ⟨y,hy,rfl⟩:=List.mem_map.1 hs;exact r2 y hy)
  ·exact Y2 hh b3 o3 yf zj yg
  ·exact Y2 hh b4 o4 yf zj yg
  ·exact Y2 hh b5 o5 yf zj yg
  ·exact Y2 hh b6 o6 yf zj yg
def K5d {A B : LB} {c : Nat} {x : Arr Int} {k : Nat} {a : XAir} {sf sd : OwL Int} {R : LS} (hsp : Spl A B [cblk c x k]) (b3 : InB (sf.L 3 Jj) B) (b4 : InB (sd.L 3 Jj) B) (o3 : sf.ok 1 Jj) (o4 : sd.ok 1 Jj)
 (hx:CodesR x R) (hk:k≤x.l.length) (h1:sf.l.length≤100) (h2:sd.l.length≤100):
 Tri Tryz.prog 108 [.pointer (some ⟨c, 0, none⟩), a.val, .agg #[sf.val, sd.val]].toArray A R
  (fun v L'' U=>∃(tf td:OwL Int) (k':Nat),v=.agg #[tf.val,td.val]∧(tf.ok 1 Jj∧td.ok 1 Jj)∧U9c sf.l tf.l∧U9c sd.l td.l∧k'≤x.l.length∧B ++ (cblk c x k' :: (tf.L 3 Jj ++ (td.L 3 Jj ++ [])))=L''∧R=U):=by
 have h:=Yjd c x k a ⟨sf.arr,sd.arr⟩ ([isl sf.arr,isl sd.arr] ++ R) (hx.mono fun r h=>Jb (by simp [h])) hk ⟨Jb zq,Jb zq⟩ h1 h2;have h2 := Tri.lend (S := [isl sf.arr, isl sd.arr]) (Post := fun v M => ∃ (tf td : OwL Int) (k' : Nat), v = .agg #[tf.val, td.val] ∧ (tf.ok 1 Jj ∧ td.ok 1 Jj) ∧ U9c sf.l tf.l ∧ U9c sd.l td.l ∧ k' ≤ x.l.length ∧ cblk c x k' :: (tf.L 3 Jj ++ (td.L 3 Jj ++ [])) = M) hsp (fun w G hh s hs => ?_)
  (h.mono fun v M U ⟨tf,td,k',a1,a2,a3,a4,a5,a6,a7⟩=>⟨⟨tf,td,k',a1,a2,a3,a4,a5,a6⟩,a7⟩)
 ·exact h2.mono fun v L'' U ⟨M,e,⟨tf,td,k',a1,a2,a3,a4,a5,a6⟩,a7⟩=>⟨tf,td,k',a1,a2,a3,a4,a5,by rw [← a6] at e;exact e,a7⟩
 ·
  simp only [yT, yP, or_false] at hs;rcases hs with rfl | rfl;·exact Y2 hh b3 o3 yf zj yg
  ·exact Y2 hh b4 o4 yf zj yg
end Go.Proofs.YtchfclmokpbldaaGreat
end
section
namespace Go.Proofs.YtchfclmokpbldaaGreat
open Go.Aw Go
def U2 {α β:Type} {f:α→Option β} {l:List α} (h:∀x∈l,f x=none):l.findSome? f=none:=List.findSome?_eq_none_iff.2 h
def Z8c {n:Nat} {r:XRoad} (h:RoadOk n r) (h1:1≤r.len∧r.len≤100000) (h2:1≤r.area∧r.area≤1000):Vb n r=none:=by have a:=h.fr;have b:=h.to;have c:=h.ne;have d:=Krb.2 h.rest;have e:=Krb.2 h.lift;unfold Vb;rw [if_neg zc,if_neg (by rw [d,e];simp only [Bool.true_eq_false,or_false];omega)]
def Zhc {m:XMine} (h1:m.places.l.length≤64) (h2:m.roads.l.length≤128) (h3:∀p∈m.places.l,-10000≤p.height∧p.height≤10000) (h4:∀r∈m.roads.l,Vb m.places.l.length r=none):Ui m=0:=by rw [Ui,if_neg zc,U2 (fun p hp=>by have:=h3 p hp;unfold Y1;exact if_neg zc),U2 h4];rfl
def J9d {f:XFan} (h:FanOk f):Kea f=0:=by
 have a:=h.road;have b:=h.len1;have c:=h.len8;rw [Kea,if_neg zc,if_neg zc,U2];·rfl
 ·
  intro i hi;have hi:=List.mem_range.1 hi;obtain ⟨p,hp⟩:=Ki hi;have hpt:=h.ok.pt i p hp;unfold Yn;rw [hp];dsimp only;rw [if_neg zc];by_cases h0:i=0;·rw [if_pos h0]
  ·rw [if_neg h0];obtain ⟨q,hq⟩:=Ki (l:=f.curve.l) (k:=i - 1) zc;have hst:=h.ok.st (i - 1) q p hq (by rw [show i - 1 + 1=i by omega];exact hp);rw [hq];dsimp only;rw [if_neg zc]
def U7c {l:List XDoor} (h1:l.length≤16) (h2:∀d∈l,DoorOk d∧d.other= -1):Vo l=0:=by
 rw [Vo,if_neg zc,U2];·rfl
 ·
  intro i hi;obtain ⟨d,hd⟩:=Ki (List.mem_range.1 hi);obtain ⟨a,b⟩:=h2 d (yi hd);have c:=a.road;have e:=a.len;rw [Yya hd,if_neg zc,if_neg zc,U2 (fun x hx=>?_)];·dsimp only;rw [if_neg (by rw [a.falls];decide),if_neg (fun h=>h.1 b)]
  ·obtain ⟨j, hj⟩ := List.mem_iff_getElem?.1 hx;have:=a.rest j x hj;unfold Yla;exact if_neg zc
def Uad {a:XAir} (h1:Ui a.mine=0) (h2:a.fans.l.length≤8) (h3:∀f∈a.fans.l,FanOk f∧f.road < a.mine.roads.l.length) (h4:a.doors.l.length≤16) (h5:∀d∈a.doors.l,(DoorOk d∧d.other= -1)∧d.road < a.mine.roads.l.length):Ko a=0:=by
 rw [Jab h1 zc (U2 (fun f hf=>by
  have:=h3 f hf;unfold Y0c;rw [if_neg (by rw [J9d this.1];decide),if_neg zc])),U7c h4 (fun d hd=>(h5 d hd).1),if_neg zj,U2 (fun d hd=>by
  have:=h5 d hd;unfold Uib;exact if_neg zc)]
 rfl
def Vyc {a:XAir} {s:XSetting} (h:FitOk a s):J8a a s=true:=by
 have h1:=h.lf;have h2:=h.ld;rw [Vta h1 h2,U2 (fun x hx=>?_),U2 (fun i hi=>?_)];·rfl
 ·have hi := List.mem_range.1 hi;obtain ⟨y,hy⟩:=Ki hi;obtain ⟨d,hd⟩:=Ki (l:=a.doors.l) (k:=i) zc;have:=h.door i y d hy hd;rw [K3a hy hd];exact if_neg zc
 ·obtain ⟨j, hj⟩ := List.mem_iff_getElem?.1 hx;have:=h.fan j x hj;unfold Y9a;exact if_neg zc
structure PlacesD (sh:Nat) (pl:List XPlace):Prop where
 shb:1≤sh∧sh≤2
 len:sh≤pl.length∧pl.length≤sh + 4
 val:∀(i:Nat) (p:XPlace),pl[i]?=some p→(-10000≤p.height∧p.height≤10000)∧p.surface=decide (i < sh)
structure PresD (sh np:Nat) (i:Nat) (pr:List Int):Prop where
 len:pr.length=np
 val:∀(j:Nat) (p:Int),pr[j]?=some p→(-4000≤p∧p≤4000)∧(j < sh∨i≤j→p=0)
def PresD.next {sh np i:Nat} {pr:List Int} (h:PresD sh np i pr) (hi:sh≤i) {p:Int} (hp:-4000≤p∧p≤4000):PresD sh np (i + 1) (pr.set i p):=by
 refine ⟨by simp [h.len],fun j q hq=>?_⟩;rw [yE] at hq;split at hq;·
  rename_i hij;split at hq;·cases hq;exact ⟨hp,fun hj=>by omega⟩
  ·cases hq
 ·have := h.val j q hq;exact ⟨this.1,fun hj=>this.2 zc⟩
structure RoadG (np:Nat) (r:XRoad):Prop where
 d:RoadD np r
 ne:r.fr≠r.to
 len:1≤r.len∧r.len≤400
 area:4≤r.area∧r.area≤30
structure RoadsD (np:Nat) (rl:List XRoad) (fl:List Int):Prop where
 len:fl.length=rl.length
 road:∀(i:Nat) (r:XRoad),rl[i]?=some r→RoadG np r
 flow:∀(i:Nat) (q:Int),fl[i]?=some q→-360≤q∧q≤360
 closed:∀(i:Nat) (r:XRoad) (q:Int),rl[i]?=some r→fl[i]?=some q→r.closed=true→q=0
def RoadsD.nil (np:Nat):RoadsD np [] []:=⟨rfl,(fun _ _ h=>by cases h),(fun _ _ h=>by cases h),(fun _ _ _ h=>by cases h)⟩
def RoadsD.next {np:Nat} {rl:List XRoad} {fl:List Int} (h:RoadsD np rl fl) {r:XRoad} {q:Int} (hr:RoadG np r) (hq:-360≤q∧q≤360) (hc:r.closed=true→q=0):RoadsD np (rl ++ [r]) (fl ++ [q]):=by
 have hl:=h.len;have sn:∀{α:Type} {l:List α} {x y:α} {i:Nat},(l ++ [x])[i]?=some y→l[i]?=some y∨(i=l.length∧y=x):=by
  intro α l x y i hi;rw [yia] at hi;split at hi;·exact .inl hi
  ·
   rw [yga] at hi;split at hi;·cases hi;exact .inr ⟨by omega,rfl⟩
   ·cases hi
 refine ⟨by simp [hl],fun i s hs=>?_,fun i p hp=>?_,fun i s p hs hp hcl=>?_⟩;·
  rcases sn hs with hs | ⟨_, rfl⟩;·exact h.road i s hs
  ·exact hr
 ·
  rcases sn hp with hp | ⟨_, rfl⟩;·exact h.flow i p hp
  ·exact hq
 ·
  rcases sn hs with hs | ⟨e, rfl⟩;·
   rcases sn hp with hp | ⟨e', _⟩;·exact h.closed i s p hs hp hcl
   ·have := (List.getElem?_eq_some_iff.1 hs).1;omega
  ·
   rcases sn hp with hp | ⟨_, rfl⟩;·have := (List.getElem?_eq_some_iff.1 hp).1;omega
   ·exact hc hcl
def U8a (N:List Int) (r:XRoad) (q:Int):List Int:=
 let l1:=N.set r.fr.toNat (N.getD r.fr.toNat 0 + q)
 l1.set r.to.toNat (l1.getD r.to.toNat 0 - q)
def J0c (rl : List XRoad) (fl : List Int) (np : Nat) : Nat → List Int
 | 0=>List.replicate np 0
 | k + 1=>U8a (J0c rl fl np k) (rl.getD k default) (fl.getD k 0)
def Vsd (a : XAir) (x : XState) : ∀ k, Jcb a x k = J0c a.mine.roads.l x.flows.l x.pres.l.length k
 | 0=>rfl
 | k + 1=>by rw [Jcb,Vsd a x k];rfl
def Z8b (N:List Int) (r:XRoad) (q:Int):(U8a N r q).length=N.length:=by simp [U8a]
def Vba (rl : List XRoad) (fl : List Int) (np : Nat) : ∀ k, (J0c rl fl np k).length = np
 | 0=>by simp [J0c]
 | k + 1=>by rw [J0c,Z8b,Vba rl fl np k]
def Zrb {rl m : List XRoad} {fl m' : List Int} {np : Nat} (hl : fl.length = rl.length) : ∀ k, k ≤ rl.length → J0c (rl ++ m) (fl ++ m') np k = J0c rl fl np k
 | 0,_=>rfl
 | k + 1,hk=>by rw [J0c,J0c,Zrb hl k zc,Yc zc,Yc zc]
def Ybb {rl:List XRoad} {fl:List Int} {np:Nat} (hl:fl.length=rl.length) (r:XRoad) (q:Int):J0c (rl ++ [r]) (fl ++ [q]) np (rl ++ [r]).length=U8a (J0c rl fl np rl.length) r q:=by rw [yj,ym,J0c,Zrb hl _ (yn _),Y4 rfl,Y4 hl.symm]
def Kic {rl rl' : List XRoad} {fl : List Int} {np : Nat} : ∀ k, (∀ i, i < k → (rl'.getD i default).fr = (rl.getD i default).fr ∧ (rl'.getD i default).to = (rl.getD i default).to) → J0c rl' fl np k = J0c rl fl np k
 | 0,_=>rfl
 | k + 1,h=>by
  rw [J0c,J0c,Kic k (fun i hi=>h i zc)]
  have:=h k zc
  unfold U8a
  rw [this.1,this.2]
def Vob {l:List Int} {i j:Nat} {v:Int} (hi:i < l.length):(l.set i v).getD j 0=if i=j then v else l.getD j 0:=by
 rw [yh,yh,yE];by_cases h:i=j;·subst h;simp [hi]
 ·simp [h]
def Jlb {N:List Int} {r:XRoad} {q:Int} {np:Nat} (hN:N.length=np) (hr:RoadG np r) (v:Nat):(U8a N r q).getD v 0=N.getD v 0 + (if r.fr=(v:Int) then q else 0) - (if r.to=(v:Int) then q else 0):=by
 have h1:=hr.d.fr;have h2:=hr.d.to;have h3:=hr.ne;have hne:¬ r.fr.toNat=r.to.toNat:=by omega
 unfold U8a;dsimp only;rw [Vob zna,Vob zc,if_neg hne,Vob zc];by_cases c1:r.to.toNat=v;·
  have e : r.to = (v : Int) := by omega
  rw [if_pos c1,if_pos e,if_neg zc,c1];omega
 ·
  rw [if_neg c1, if_neg (show ¬ r.to = (v : Int) by omega)];by_cases c2:r.fr.toNat=v;·rw [if_pos c2,if_pos (show r.fr=(v:Int) by omega),c2];omega
  ·rw [if_neg c2,if_neg (show ¬ r.fr=(v:Int) by omega)];omega
structure Drawn (np:Nat) (m:Int) (rl:List XRoad) (fl:List Int) (nl:List Int):Prop where
 m:0≤m∧(rl.length:Int) + m≤5
 roads:RoadsD np rl fl
 net:nl=J0c rl fl np rl.length
 small:∀v,-60 * (rl.length:Int)≤nl.getD v 0∧nl.getD v 0≤60 * (rl.length:Int)
def Drawn.len {np:Nat} {m:Int} {rl:List XRoad} {fl nl:List Int} (h:Drawn np m rl fl nl):nl.length=np:=by rw [h.net];exact Vba _ _ _ _
def Drawn.zero {np:Nat} {m:Int} (hm:0≤m∧m≤5):Drawn np m [] [] (List.replicate np 0):=by
 refine ⟨by simpa using hm,RoadsD.nil np,rfl,fun v=>?_⟩;have:(List.replicate np (0:Int)).getD v 0=0:=by rw [yh,yL];split <;> rfl
 rw [this];simp
def Drawn.next {np:Nat} {m:Int} {rl:List XRoad} {fl nl:List Int} (h:Drawn np m rl fl nl) (hm:0 < m) {r:XRoad} {q:Int} (hr:RoadG np r) (hq:-60≤q∧q≤60) (hc:r.closed=true→q=0):Drawn np (m - 1) (rl ++ [r]) (fl ++ [q]) (U8a nl r q):=by have hmm:=h.m;refine ⟨by simp only [yj,ym];omega,h.roads.next hr zc hc,by rw [Ybb h.roads.len,h.net],fun v=>?_⟩;have hv:=h.small v;rw [Jlb h.len hr v];have:=hr.ne;simp only [yj,ym];split <;> split <;> omega
structure Shafted (sh np i:Nat) (net0:List Int) (rl:List XRoad) (fl:List Int):Prop where
 roads:RoadsD np rl fl
 len:rl.length + sh≤5 + i
 done:∀v,sh≤v→v < i→(J0c rl fl np rl.length).getD v 0=0
 shaft:∀v:Nat,sh≤v→v < i→∃(k:Nat) (r:XRoad),rl[k]?=some r∧r.closed=false∧((r.fr=(v:Int)∧r.to < (sh:Int))∨(r.to=(v:Int)∧r.fr < (sh:Int)))
 todo:∀v,i≤v→(J0c rl fl np rl.length).getD v 0=net0.getD v 0
def Drawn.shafted {np:Nat} {m:Int} {rl:List XRoad} {fl nl:List Int} (h:Drawn np m rl fl nl) (sh:Nat):Shafted sh np sh nl rl fl:=
 ⟨h.roads,by have:=h.m;omega,fun v h1 h2=>absurd h2 zc,fun v h1 h2=>absurd h2 zc,fun v _=>by rw [← h.net]⟩
def Shafted.next {sh np i : Nat} {net0 : List Int} {rl : List XRoad} {fl : List Int} (h : Shafted sh np i net0 rl fl) (hi : sh ≤ i) {r : XRoad} {q : Int} (hr : RoadG np r) (hq : -360 ≤ q ∧ q ≤ 360) (hc : r.closed = false)
 (hend:(r.fr=(i:Int)∧r.to < (sh:Int)∧q= -(net0.getD i 0))∨(r.to=(i:Int)∧r.fr < (sh:Int)∧q=net0.getD i 0)):Shafted sh np (i + 1) net0 (rl ++ [r]) (fl ++ [q]):=by
 have hlen:=h.len;refine ⟨h.roads.next hr hq (fun hcl=>by rw [hc] at hcl;cases hcl),by simp only [yj,ym];omega,fun v h1 h2=>?_,fun v h1 h2=>?_,fun v h1=>?_⟩
 rotate_left
 ·
  rcases yIa (yPa h2) with h' | h';·obtain ⟨k, r', k1, k2⟩ := h.shaft v h1 h';exact ⟨k,r',by rw [yy (List.getElem?_eq_some_iff.1 k1).1];exact k1,k2⟩
  ·subst h';exact ⟨rl.length,r,by rw [yF (yn _)];simp,hc,by rcases hend with h | h;exact .inl ⟨h.1,h.2.1⟩;exact .inr ⟨h.1,h.2.1⟩⟩
 rotate_left
 ·
  rw [Ybb h.roads.len, Jlb (Vba _ _ _ _) hr v];rcases yIa (yPa h2) with h' | h';·rw [h.done v h1 h',if_neg zc,if_neg zc];rfl
  ·subst h';rw [h.todo v (yn _)];have:=hr.ne;split <;> split <;> omega
 ·rw [Ybb h.roads.len,Jlb (Vba _ _ _ _) hr v,h.todo v zc,if_neg zc,if_neg zc];omega
def Z0a {l m:List Int} (h:U9c l m) {k:Nat} (hk:k < l.length):m.getD k 0= -1∨m.getD k 0=l.getD k 0:=by
 have:=h.len;have hg:=Js (l:=m) (k:=k) 0 zc;rcases h.val k _ hg with h1 | h1;·exact .inl h1
 ·rw [Js (l := l) 0 hk] at h1;exact .inr (yH h1).symm
structure MadeA (a:XAir) (t:XSetting) (x:XState):Prop where
 err:Ko a=0
 fit:J8a a t=true
 fits:Y6c a t x=0
 nplaces:1≤a.mine.places.l.length∧a.mine.places.l.length≤6
 nroads:a.mine.roads.l.length≤9
 nfans:a.fans.l.length≤2
 ndoors:a.doors.l.length≤2
 small:∀(i:Nat) (r:XRoad),a.mine.roads.l[i]?=some r→(-260000000≤r.lift.low∧r.lift.high≤260000000)∧r.rest.high≤22
 curve:∀f∈a.fans.l,MadeCurve f.curve.l
 rests:∀d∈a.doors.l,MadeDoor d.road d
 press:∀p∈x.pres.l,-4000≤p∧p≤4000
 surf0:(a.mine.places.l.getD 0 default).surface=true
 shaft:∀v:Nat,v < a.mine.places.l.length→(a.mine.places.l.getD v default).surface=false→∃k u:Nat,k < a.mine.roads.l.length∧(a.mine.places.l.getD u default).surface=true∧(a.mine.roads.l.getD k default).closed=false∧(((a.mine.roads.l.getD k default).fr=(v:Int)∧(a.mine.roads.l.getD k default).to=(u:Int))∨((a.mine.roads.l.getD k default).fr=(u:Int)∧(a.mine.roads.l.getD k default).to=(v:Int)))
def Vbe {sh : Nat} {a : XAir} {s t : XSetting} {x : XState} {rl0 : List XRoad} {net0 : List Int} (hpl : PlacesD sh a.mine.places.l) (hpr : PresD sh a.mine.places.l.length a.mine.places.l.length x.pres.l) (hro : Shafted sh a.mine.places.l.length a.mine.places.l.length net0 rl0 x.flows.l)
 (hF:FansD rl0.length 0 a.fans.l s.fans.l) (hD:DoorsD rl0.length 0 a.doors.l s.doors.l) (hfit:FitI a s x rl0 rl0.length a.mine.roads.l) (htf:U9c s.fans.l t.fans.l) (htd:U9c s.doors.l t.doors.l):MadeA a t x:=by
 have hsh:=hpl.shb
 have hpn:=hpl.len
 have hln:=hfit.len
 have hrl:=hro.len
 have hqn:=hro.roads.len
 have hFm:=hF.m
 have hDm:=hD.m
 have hxp:=hpr.len
 -- a road of the air
 have road:∀(i:Nat) (r':XRoad),a.mine.roads.l[i]?=some r'→∃r,rl0[i]?=some r∧RoadG a.mine.places.l.length r∧Klf a s x i r r':=by
  intro i r' hr'
  obtain ⟨hi,_⟩:=List.getElem?_eq_some_iff.1 hr'
  obtain ⟨r,hr⟩:=Ki (l:=rl0) (k:=i) zc
  obtain ⟨r2,h2,h3⟩:=hfit.done i r zc hr
  rw [hr'] at h2;cases h2
  exact ⟨r,hr,hro.roads.road i r hr,h3⟩
 have presb:∀i:Nat,-4000≤x.pres.l.getD i 0∧x.pres.l.getD i 0≤4000:=fun i=>by
  rcases yk i x.pres.l.length with h | h
  ·exact (hpr.val i _ (Js 0 h)).1
  ·rw [yh,yq h];simp
 have flowb:∀i:Nat,-360≤x.flows.l.getD i 0∧x.flows.l.getD i 0≤360:=fun i=>by
  rcases yk i x.flows.l.length with h | h
  ·exact hro.roads.flow i _ (Js 0 h)
  ·rw [yh,yq h];simp
 have ok:∀(i:Nat) (r':XRoad),a.mine.roads.l[i]?=some r'→RoadOk a.mine.places.l.length r'∧(1≤r'.len∧r'.len≤100000)∧(1≤r'.area∧r'.area≤1000)∧(-260000000≤r'.lift.low∧r'.lift.high≤260000000)∧r'.rest.high≤22:=by
  intro i r' hr'
  obtain ⟨r,hr,hg,e,u,v,he,hu,hv,heq⟩:=road i r' hr'
  have h1:=hg.d.rest
  have h2:=hg.len
  have h3:=hg.area
  have b1:=Vca hD i a.doors.l.length (yn _)
  have b2:=Vda hF i (x.flows.l.getD i 0) a.fans.l.length (yn _)
  have b3:=V1b (R:=r.rest.low + e + Yvb a.doors.l s.doors.l i a.doors.l.length) (q:=x.flows.l.getD i 0) zc (flowb i)
  have b4:=presb r.fr.toNat
  have b5:=presb r.to.toNat
  rw [heq]
  refine ⟨⟨hg.d.fr,hg.d.to,hg.ne,⟨h1.1,h1.2.1,by dsimp only;omega⟩,?_⟩,⟨h2.1,by dsimp only;omega⟩,⟨by dsimp only;omega,by dsimp only;omega⟩,?_,h1.2.2⟩
  ·unfold Uob Kqb
   dsimp only
   omega
  ·unfold Uob Kqb
   dsimp only
   omega
 have hme:Ui a.mine=0:=Zhc zc zc (fun p hp=>by
  obtain ⟨i,hi⟩:=List.mem_iff_getElem?.1 hp
  exact (hpl.val i p hi).1) (fun r hr=>by
  obtain ⟨i,hi⟩:=List.mem_iff_getElem?.1 hr
  obtain ⟨h1,h2,h3,_,_⟩:=ok i r hi
  exact Z8c h1 h2 h3)
 have hae:Ko a=0:=Uad hme zc (fun f hf=>⟨(hF.fan f hf).ok,by have:=(hF.fan f hf).road;omega⟩) zc (fun d hd=>⟨⟨(hD.door d hd).ok,(hD.door d hd).made.other⟩,by have:=(hD.door d hd).road;omega⟩)
 have hFl:=hF.len
 have hDl:=hD.len
 have ht1:=htf.len
 have ht2:=htd.len
 have less:SetLess a s t:=by
  refine ⟨fun k hk=>?_,fun k hk=>?_⟩
  ·have h1 := hF.st _ (yi (Js (l := s.fans.l) (k := k) 0 zc))
   rcases Z0a htf (k:=k) zc with h | h
   ·exact .inr ⟨h,by omega,by omega⟩
   ·exact .inl h
  ·have h1 := hD.st k _ _ (Js (l := a.doors.l) (k := k) default hk) (Js (l := s.doors.l) (k := k) 0 zc)
   rcases Z0a htd (k:=k) zc with h | h
   ·exact .inr ⟨h,by omega,by omega⟩
   ·exact .inl h
 have hfb:J8a a t=true:=Vyc ⟨by omega,by omega,fun i y hy=>by
  obtain ⟨hi,_⟩:=List.getElem?_eq_some_iff.1 hy
  have h1:=hF.st _ (yi (Js (l:=s.fans.l) (k:=i) 0 zc))
  rcases htf.val i y hy with h | h
  ·omega
  ·rw [Js (l := s.fans.l) 0 (show i < s.fans.l.length by omega)] at h
   rw [← yH h];omega,fun i y d hy hd=>by
  obtain ⟨hi,_⟩:=List.getElem?_eq_some_iff.1 hy
  have h1:=hD.st i d _ hd (Js (l:=s.doors.l) (k:=i) 0 zc)
  have h2:=(hD.door d (yi hd)).made.len
  rcases htd.val i y hy with h | h
  ·omega
  ·rw [Js (l := s.doors.l) 0 (show i < s.doors.l.length by omega)] at h
   rw [← yH h];omega⟩
 have hnet:Jcb a x x.flows.l.length=J0c rl0 x.flows.l a.mine.places.l.length rl0.length:=by
  rw [Vsd,hxp,hqn]
  refine Kic _ (fun i hi=>?_)
  obtain ⟨r,hr,_,e,u,v,_,_,_,heq⟩:=road i _ (Js (l:=a.mine.roads.l) (k:=i) default zc)
  rw [getD_some hr,heq]
  exact ⟨rfl,rfl⟩
 refine ⟨hae,hfb,?_,by omega,by omega,by omega,by omega,fun i r hr=>(ok i r hr).2.2.2,fun f hf=>(hF.fan f hf).curve,fun d hd=>(hD.door d hd).made,fun p hp=>by obtain ⟨i,hi⟩:=List.mem_iff_getElem?.1 hp;exact (hpr.val i p hi).1,?_,fun v hv hs=>?_⟩
 rotate_left
 ·have hg := Js (l := a.mine.places.l) (k := 0) default zc
  rw [(hpl.val 0 _ hg).2]
  exact decide_eq_true zc
 ·have hg := Js (l := a.mine.places.l) (k := v) default hv
  have hsv:=(hpl.val v _ hg).2
  rw [hs] at hsv
  obtain ⟨k,r,k1,k2,k3⟩:=hro.shaft v (by have:=of_decide_eq_false hsv.symm;omega) hv
  have hkl:=(List.getElem?_eq_some_iff.1 k1).1
  obtain ⟨r2,h2,_,e,u,w,_,_,_,heq⟩:=road k _ (Js (l:=a.mine.roads.l) (k:=k) default zc)
  rw [k1] at h2
  cases h2
  have hrg:=(hro.roads.road k r k1).d
  have hrf:=hrg.fr
  have hrt:=hrg.to
  have Jud:∀u:Nat,u < sh→(a.mine.places.l.getD u default).surface=true:=fun u hu=>by
   rw [(hpl.val u _ zwc).2];exact decide_eq_true hu
  rcases k3 with ⟨e1,e2⟩ | ⟨e1,e2⟩
  ·exact ⟨k,r.to.toNat,by omega,Jud _ zc,by rw [heq];exact k2,.inl ⟨by rw [heq];exact e1,by rw [heq];show r.to=_;omega⟩⟩
  ·exact ⟨k,r.fr.toNat,by omega,Jud _ zc,by rw [heq];exact k2,.inr ⟨by rw [heq];show r.fr=_;omega,by rw [heq];exact e1⟩⟩
 refine Yqd hae hfb zc (U2 (fun p hp=>?_)) (U2 (fun q hq=>?_)) (fun i hi=>?_) (fun v hv=>?_)
 ·obtain ⟨j, hj⟩ := List.mem_iff_getElem?.1 hp
  have:=(hpr.val j p hj).1
  exact if_neg zc
 ·obtain ⟨j, hj⟩ := List.mem_iff_getElem?.1 hq
  have:=hro.roads.flow j q hj
  exact if_neg zc
 ·have hg := Js (l := a.mine.roads.l) (k := i) default zc
  obtain ⟨r,hr,hgr,hft⟩:=road i _ hg
  have hin:=Zyc hF hD (hgr.d.rest.2.1) hft
  have hls:=Uid less (i:Int) (x.flows.l.getD i 0)
  have hcl:=hro.roads.closed i r _ hr (Js (l:=x.flows.l) (k:=i) 0 zc)
  have e1:(a.mine.roads.l.getD i default).fr=r.fr∧(a.mine.roads.l.getD i default).to=r.to∧(a.mine.roads.l.getD i default).closed=r.closed:=by
   obtain ⟨e,u,v,_,_,_,heq⟩:=hft
   rw [heq];exact ⟨rfl,rfl,rfl⟩
  unfold Zp
  dsimp only
  rw [e1.1,e1.2.1,e1.2.2]
  refine if_neg ?_
  have h1:=hls.1
  have h2:=hls.2
  dsimp only [Kqb] at hin
  rintro (⟨h3,h4⟩ | ⟨_,h4⟩)
  ·exact h4 (hcl h3)
  ·omega
 ·rw [hxp] at hv
  obtain ⟨p,hp⟩:=Ki (l:=a.mine.places.l) (k:=v) hv
  have h1:=(hpl.val v p hp).2
  have h2:=hpr.val v _ (Js (l:=x.pres.l) (k:=v) 0 zc)
  unfold Yt
  rw [hnet,getD_some hp,h1]
  refine if_neg ?_
  rintro (⟨h3,h4⟩ | ⟨h3,h4⟩)
  ·exact h4 (h2.2 (.inl (by simpa using h3)))
  ·exact h4 (hro.done v (by simpa using h3) zc)
end Go.Proofs.YtchfclmokpbldaaGreat
end
section
namespace Go.Proofs.YtchfclmokpbldaaGreat
open Go.Aw Go
set_option maxRecDepth 20000
attribute [local irreducible] CJ LJ DJ Tri YV Gives U7 Kb Kp U8 RV Ke OwL.L
structure MadeO where
 places:OwL XPlace
 roads:OwL XRoad
 fans:OwL XFan
 doors:OwL XDoor
 tf:OwL Int
 td:OwL Int
 pres:OwL Int
 flows:OwL Int
abbrev MadeO.a (m:MadeO):XAir:=⟨⟨m.places.arr,m.roads.arr⟩,m.fans.arr,m.doors.arr⟩
abbrev MadeO.t (m:MadeO):XSetting:=⟨m.tf.arr,m.td.arr⟩
abbrev MadeO.x (m:MadeO):XState:=⟨m.pres.arr,m.flows.arr⟩
abbrev MadeO.L (m:MadeO) (cb:Blk):LB:=
 m.pres.L 3 Jj ++ (m.places.L 159 XPlace.cells ++ (m.flows.L 3 Jj ++ (m.fans.L 278 XFan.cells ++ (m.doors.L 239 XDoor.cells ++ (m.roads.L 157 XRoad.cells ++ (cb :: (m.tf.L 3 Jj ++ (m.td.L 3 Jj ++ []))))))))
structure MadeO.Ok (m:MadeO):Prop where
 places:m.places.ok 2 XPlace.cells
 roads:m.roads.ok 10 XRoad.cells
 fans:m.fans.ok 4 XFan.cells
 doors:m.doors.ok 3 XDoor.cells
 tf:m.tf.ok 1 Jj
 td:m.td.ok 1 Jj
 pres:m.pres.ok 1 Jj
 flows:m.flows.ok 1 Jj
def PlacesD.snoc {sh:Nat} {pl:List XPlace} (h:PlacesD sh pl) (hl:pl.length < sh + 4) {z:Int} (hz:0≤z∧z≤99):PlacesD sh (pl ++ [⟨-z,false⟩]):=by
 have:=h.len;refine ⟨h.shb,by simp only [yj,ym];omega,fun i p hp=>?_⟩;rw [yia] at hp;split at hp;·exact h.val i p hp
 ·
  rw [yga] at hp;split at hp;·cases hp;refine ⟨by dsimp only;omega,?_⟩;dsimp only;symm;rw [decide_eq_false_iff_not];omega
  ·cases hp
def Kie {n f j:Int} (hf:0≤f∧f < n) (hj:0≤j∧j < n - 1):0≤(f + 1 + j).tmod n∧(f + 1 + j).tmod n < n∧f≠(f + 1 + j).tmod n:=by
 rw [ygb zc];have h1:=Int.emod_nonneg (f + 1 + j) (show n≠0 by omega);have h2:=Int.emod_lt_of_pos (f + 1 + j) (show 0 < n by omega);refine ⟨h1,h2,?_⟩;rcases yka (f + 1 + j) n with h | h;·rw [yUb zc h];omega
 ·
  have:(f + 1 + j) % n=f + 1 + j - n:=by (have e:f + 1 + j=(f + 1 + j - n) + n:=by omega);rw [e,Int.add_emod_right,yUb zc zc];omega
  omega
def Yve (c:Nat) (x:Arr Int) (k:Nat) (R:LS) (hx:CodesR x R) (hk:k≤x.l.length):
 Tri Tryz.prog 39 [.pointer (some ⟨c, 0, none⟩)].toArray [cblk c x k] R
  (fun v M U=>∃(m:MadeO) (k':Nat) (S:LS),v=.tuple #[m.a.val,m.t.val,m.x.val]∧m.Ok∧MadeA m.a m.t m.x∧(∀f∈m.fans.l,InR f.sl S)∧(∀d∈m.doors.l,InR d.sl S)∧k'≤x.l.length∧m.L (cblk c x k')=M∧S ++ R=U):=by
 refine Jd 189 Tryz.call39 Tryz.func39 rfl rfl rfl ?_;apply (Xct);intro b2;apply (qaq);intro b3;apply (qaq);intro b4;apply (qam);refine J0 zYb rfl ?_;apply (Usf);rintro v M U ⟨b21,rfl,rfl,hR21⟩;replace hR21:=hR21.symm;subst hR21;apply (Jvf);refine J0 znc rfl ?_;apply (qaq);intro b5;apply qak∘qco;refine Krf (yda (l₁:=[_,_,_,_,_]) (l₂:=[_])) ?_;refine V4 (congrArg (List.cons _) (congrArg (List.cons _) (U3a (f:=XPlace.cells) (n:=1) [⟨0,true⟩] rfl _))) ?_;apply (Xel);refine Ju rfl (Kte zx hx hk zc) rfl ?_;rintro v M U ⟨r1,k1,rfl,hk1,rfl,rfl⟩;apply (qaf);refine Vu (rg 26 8) ((⟨fun g=>[],fun g=>cblk c x k1 :: ⟨b5,[g.1.1.val,.slice none 0 0,.slice none 0 0,.slice none 0 0],32⟩ :: (g.1.1.L 159 XPlace.cells ++ (⟨b4,[.slice none 0 0,.slice none 0 0],82⟩ :: ⟨b3,[.slice none 0 0,.slice none 0 0],80⟩ :: ⟨b2,[.slice none 0 0,.slice none 0 0,.slice none 0 0,.slice none 0 0],32⟩ :: [])),fun _=>R,fun _=>0⟩:Head {g:OwL XPlace×Unit // g.1.ok 2 XPlace.cells∧g.1.l.length≤2∧PlacesD g.1.l.length g.1.l})) ?_ ?_;·
  skip
  refine q_c ?_ ?_<;>intro hc0;·apply qay∘Xez;refine J0 (Kf (qs:=[(1,(Value.bool _).cells.toList),(0,(Value.int _ _).cells.toList)]) (out:=[_,_]) tb rfl rfl rfl rfl) rfl ?_;apply (Usf);rintro v M U ⟨b30,rfl,rfl,hR30⟩;replace hR30:=hR30.symm;subst hR30;refine Y6 (Jq (f:=XPlace.cells) (p:=⟨.own b21 1 [],[⟨0,true⟩]⟩) (a:=⟨10,true⟩) tb rfl rfl rfl rfl (Kga yf rfl zj) zm zCb rfl zz) rfl ?_;rintro v M U ⟨o31,rfl,hok31,rfl,rfl⟩;apply qab∘Xbo∘qav;exact q_j ⟨(⟨o31,_⟩,()),hok31,by simp,⟨by simp,by simp,fun i p hp=>by (cases i with | zero=>cases hp;exact ⟨by decide,rfl⟩ | succ i=>(cases i with | zero=>cases hp;exact ⟨by decide,rfl⟩ | succ i=>cases hp))⟩⟩
  refine Jt ?_;exact q_j ⟨(⟨.own b21 1 [],[⟨0,true⟩]⟩,()),Kga yf rfl zj,by simp,⟨by simp,by simp,fun i p hp=>by (cases i with | zero=>cases hp;exact ⟨by decide,rfl⟩ | succ i=>cases hp)⟩⟩
 rintro ⟨⟨pl0,_⟩,hok0,hl0,hP0⟩ junk;try dsimp only
 dsimp only at hok0 hl0 hP0;apply qae∘Xcg∘Xau∘qa6∘Kjg;rintro v M U ⟨r2,k2,rfl,g2,g2',g2'',hk2,rfl,rfl⟩;apply (Xat);refine Jh [(0,.pointer _),(2,.pointer _),(3,.pointer _),(4,.pointer _),(5,.pointer _),(6,.int _ _),(7,.int _ _)] zg fun tq0=>?_;have g2q:=g2' zc;refine q_p ([7]++rg 40 15) ((⟨fun g=>[(7,.int .i64 g.1.2.1)],fun g=>cblk c x g.1.1 :: ⟨b5,[g.1.2.2.val,.slice none 0 0,.slice none 0 0,.slice none 0 0],32⟩ :: (g.1.2.2.L 159 XPlace.cells ++ (⟨b4,[.slice none 0 0,.slice none 0 0],82⟩ :: ⟨b3,[.slice none 0 0,.slice none 0 0],80⟩ :: ⟨b2,[.slice none 0 0,.slice none 0 0,.slice none 0 0,.slice none 0 0],32⟩ ::  [])),fun _=>R,fun g=>g.1.2.1.toNat⟩:Head {g:Nat×Int×OwL XPlace // g.1≤x.l.length∧g.2.2.ok 2 XPlace.cells∧PlacesD pl0.l.length g.2.2.l∧0≤g.2.1∧(g.2.2.l.length:Int) + g.2.1≤(pl0.l.length:Int) + 4})) (⟨(k2,r2,pl0),hk2,hok0,hP0,g2,by dsimp only;omega⟩) ?_;rintro ⟨⟨kk,m,pl⟩,hkk,hok,hP,hm0,hm1⟩ junk;try dsimp only
 dsimp only at hkk hok hP hm0 hm1;refine Ji (Ji ?_);have g2q:=g2' zc;apply Xb0∘Xdq;refine q_c ?_ ?_<;>intro hc1;·refine Jt (Ja (Ji (Jy ?_)));refine Kh tb [] [0,1,2,3,4,5,6,7] [8,9,10,11] ([Blk.mk b5 _ _]) _ Kn zf zk yd ?_;apply qan∘Xda;refine Kv rfl (Zx zx hx hkk zc) rfl rfl ?_;rintro v M U ⟨r3,k3,rfl,g3,g3',g3'',hk3,rfl,rfl⟩;refine ⟨zk,zu,?_⟩;have g3q:=g3' zc;refine Kz (Vqb rfl zc zc) rfl rfl rfl rfl ?_;refine Kz zSc rfl rfl rfl rfl ?_;apply (Vif);rintro v M U ⟨b51,rfl,rfl,hR51⟩;replace hR51:=hR51.symm;subst hR51;apply (Xb3);refine V7a (Jq (f:=XPlace.cells) (p:=pl) (a:=⟨-r3,false⟩) tb rfl rfl rfl rfl (hok) zm zCb rfl zz) rfl rfl rfl ?_;rintro v M U ⟨o52,rfl,hok52,rfl,rfl⟩;apply qa1∘qal∘Xby∘qby∘Xdk;exact q_k ⟨(k3,m - 1,⟨o52,_⟩),hk3,hok52,hP.snoc zc zc,by dsimp only;omega,by dsimp only;simp only [yj,ym];omega⟩
 apply (qc3);have hsb:=hP.shb;have hnp:=hP.len;apply qay∘Xcg∘Xa2∘qc7;rintro v M U ⟨b60,rfl,rfl,hR60⟩;replace hR60:=hR60.symm;subst hR60;apply Jvf∘qaq;intro b9;apply Xbi∘qaa∘Xat;refine Jh [(0,.pointer _),(2,.pointer _),(3,.pointer _),(4,.pointer _),(5,.pointer _),(6,.int _ _),(8,.int _ _),(9,.pointer _),(10,.int _ _)] zg fun tq1=>?_;refine V4 (congrArg (List.cons _) (Yo (f:=Jj) (x:=(0:Int)) rfl _)) ?_;refine K8 ([10]++rg 63 11) ((⟨fun g=>[(10,.int .i64 ((g.1.2.1:Nat):Int))],fun g=>⟨b9,[(⟨.own b60 pl.l.length [],g.1.2.2⟩:OwL Int).val,.slice none 0 0],82⟩ :: ((⟨.own b60 pl.l.length [],g.1.2.2⟩:OwL Int).L 3 Jj ++ (cblk c x g.1.1 :: ⟨b5,[pl.val,.slice none 0 0,.slice none 0 0,.slice none 0 0],32⟩ :: (pl.L 159 XPlace.cells ++ (⟨b4,[.slice none 0 0,.slice none 0 0],82⟩ :: ⟨b3,[.slice none 0 0,.slice none 0 0],80⟩ :: ⟨b2,[.slice none 0 0,.slice none 0 0,.slice none 0 0,.slice none 0 0],32⟩ ::  [])))),fun _=>R,fun g=>pl.l.length - g.1.2.1⟩:Head {g:Nat×Nat×List Int // g.1≤x.l.length∧(pl0.l.length≤g.2.1∧g.2.1≤pl.l.length)∧(⟨.own b60 pl.l.length [],g.2.2⟩:OwL Int).ok 1 Jj∧PresD pl0.l.length pl.l.length g.2.1 g.2.2})) (⟨(kk,pl0.l.length,List.replicate pl.l.length 0),hkk,⟨yn _,by dsimp only;omega⟩,Yj yf zF,⟨by simp,fun j p hp=>by rw [yL] at hp;split at hp;cases hp;exact ⟨by omega,fun _=>rfl⟩;cases hp⟩⟩) zg (by dsimp only;rw [Jjd];exact yu _) zJb ?_;rintro ⟨⟨kk2,i,pr⟩,hkk2,⟨hi1,hi2⟩,hokp,hPr⟩ junk;try dsimp only
 dsimp only at hkk2 hi1 hi2 hokp hPr;apply (Xea);refine q_c ?_ ?_<;>intro hc2;·have hprl:=hPr.len;have hpri:=Js (l:=pr) (k:=i) 0 zc;refine Jt (Ja (Ji (Jy ?_)));refine Kh tb [] [0,1,2,3,4,5] [6] ([Blk.mk b9 _ _]) _ Kn zf zk (by (repeat (first | apply List.Sublist.cons (a:=Blk.mk b69 _ _) | apply List.Sublist.cons_cons));exact yu _) ?_;apply Xcy∘qb3;refine Kv rfl (Jra zx hx hkk2 zc) rfl rfl ?_;rintro v M U ⟨r4,k4,rfl,g4,g4',hk4,rfl,rfl⟩;refine ⟨zk,zu,?_⟩;refine Kz (Jo tb ((⟨.own b60 pl.l.length [],pr⟩:OwL Int)) _ rfl rfl rfl rfl zi (i:=i) zo zw) rfl rfl rfl rfl ?_;apply (qba);refine Jwb (Jp tb ((⟨.own b60 pl.l.length [],pr⟩:OwL Int)) (r4) rfl rfl rfl rfl zm zi yf zi zj ze ze) rfl rfl ?_;rintro v M U ⟨rfl,rfl⟩;apply qa1∘Xcd;exact Ka ⟨(k4,i + 1,pr.set i r4),hk4,⟨by dsimp only;omega,by dsimp only;omega⟩,OwL.set_ok (p:=(⟨.own b60 pl.l.length [],pr⟩:OwL Int)) yf hokp,hPr.next hi1 ⟨g4,g4'⟩⟩ zp zg (by dsimp only;rw [OwL.set_val];exact zk) zJb zt
 obtain rfl:i=pl.l.length:=by omega
 apply Xds∘qc7;rintro v M U ⟨b75,rfl,rfl,hR75⟩;replace hR75:=hR75.symm;subst hR75;apply (Xd1);refine V4 (Yo (f:=Jj) (x:=(0:Int)) rfl _) ?_;have hprl:=hPr.len;apply Xb0∘Xdq;refine Vu ([12,13,14,15]++rg 78 58) ((⟨fun g=>[],fun g=>(⟨.own b75 pl.l.length [],g.1.2.2.2⟩:OwL Int).L 3 Jj ++ (⟨b9,[(⟨.own b60 pl.l.length [],pr⟩:OwL Int).val,g.1.2.2.1.val],82⟩ :: ((⟨.own b60 pl.l.length [],pr⟩:OwL Int).L 3 Jj ++ (cblk c x g.1.1 :: ⟨b5,[pl.val,g.1.2.1.val,.slice none 0 0,.slice none 0 0],32⟩ :: (pl.L 159 XPlace.cells ++ (⟨b4,[.slice none 0 0,.slice none 0 0],82⟩ :: ⟨b3,[.slice none 0 0,.slice none 0 0],80⟩ :: ⟨b2,[.slice none 0 0,.slice none 0 0,.slice none 0 0,.slice none 0 0],32⟩ ::  (g.1.2.1.L 157 XRoad.cells ++ (g.1.2.2.1.L 3 Jj ++ []))))))),fun _=>R,fun _=>0⟩:Head {g:Nat×OwL XRoad×OwL Int×List Int // g.1≤x.l.length∧(g.2.1.ok 10 XRoad.cells∧g.2.2.1.ok 1 Jj∧(⟨.own b75 pl.l.length [],g.2.2.2⟩:OwL Int).ok 1 Jj)∧∃m,Drawn pl.l.length m g.2.1.l g.2.2.1.l g.2.2.2})) ?_ ?_;·
  skip
  refine q_c ?_ ?_<;>intro hc3;·
   apply qae∘qa6;refine Ju rfl (Zx zx hx hkk2 zc) rfl ?_;rintro v M U ⟨r5,k5,rfl,g5,g5',g5'',hk5,rfl,rfl⟩;apply (Xat);refine Uh ([12,13,14,15]++rg 78 58) zG [(12,.int _ _)] zg fun tq2=>?_;have g5q:=g5' zc;refine K8 ([12,13,14,15]++rg 80 56) ((⟨fun g=>[(12,.int .i64 g.1.2.1)],fun g=>(⟨.own b75 pl.l.length [],g.1.2.2.2.2⟩:OwL Int).L 3 Jj ++ (⟨b9,[(⟨.own b60 pl.l.length [],pr⟩:OwL Int).val,g.1.2.2.2.1.val],82⟩ :: ((⟨.own b60 pl.l.length [],pr⟩:OwL Int).L 3 Jj ++ (cblk c x g.1.1 :: ⟨b5,[pl.val,g.1.2.2.1.val,.slice none 0 0,.slice none 0 0],32⟩ :: (pl.L 159 XPlace.cells ++ (⟨b4,[.slice none 0 0,.slice none 0 0],82⟩ :: ⟨b3,[.slice none 0 0,.slice none 0 0],80⟩ :: ⟨b2,[.slice none 0 0,.slice none 0 0,.slice none 0 0,.slice none 0 0],32⟩ ::  (g.1.2.2.1.L 157 XRoad.cells ++ (g.1.2.2.2.1.L 3 Jj ++ []))))))),fun _=>R,fun g=>g.1.2.1.toNat⟩:Head {g:Nat×Int×OwL XRoad×OwL Int×List Int // g.1≤x.l.length∧(g.2.2.1.ok 10 XRoad.cells∧g.2.2.2.1.ok 1 Jj∧(⟨.own b75 pl.l.length [],g.2.2.2.2⟩:OwL Int).ok 1 Jj)∧Drawn pl.l.length g.2.1 g.2.2.1.l g.2.2.2.1.l g.2.2.2.2})) (⟨(k5,r5,OwL.nil,OwL.nil,List.replicate pl.l.length 0),hk5,⟨OwL.nil_ok,OwL.nil_ok,Yj yf zF⟩,Drawn.zero zt⟩) zg zMa zJb ?_;rintro ⟨⟨kk3,mm,rl,fl,nl⟩,hkk3,⟨hokr,hokf,hokn⟩,hD⟩ junk;(try dsimp only);dsimp only at hkk3 hokr hokf hokn hD;apply Xap∘Xdq;refine q_c ?_ ?_<;>intro hc4;·
    have hDm:=hD.m;have hDl:=hD.len;have hDr:=hD.roads.len;apply qbb∘Xc2;refine Ju rfl (Zx zx hx hkk3 zc) rfl ?_;rintro v M U ⟨r6,k6,rfl,g6,g6',g6'',hk6,rfl,rfl⟩;apply (Xdf);have g6q:=g6' zc;apply Xel∘Xbu∘qar∘qa6∘Xck;refine Ju rfl (Zx zx hx hk6 zc) rfl ?_;rintro v M U ⟨r7,k7,rfl,g7,g7',g7'',hk7,rfl,rfl⟩;have g7q:=g7' zc;apply Xal∘qda;refine Ju rfl (Vef zx hx hk7) rfl ?_;rintro v M U ⟨rd,k8,rfl,hrd,hk8,rfl,rfl⟩;apply (qaq);intro b14;apply Xbe∘qa6;refine Ju rfl (Kte zx hx hk8 zc) rfl ?_;rintro v M U ⟨cl,k9,rfl,hk9,rfl,rfl⟩;apply (qab);refine Uoa (v:=Value.bool _) tb rfl rfl rfl rfl zD zga zda ze ?_;apply (Xd9);refine Ju rfl (Jra zx hx hk9 zc) rfl ?_;rintro v M U ⟨r8,k10,rfl,g8,g8',hk10,rfl,rfl⟩;apply Xeh∘qaf;refine Vu [15] ((⟨fun g=>[(15,.int .i64 g.1)],fun g=>⟨b14,XRoad.cells { rd with closed:=cl },157⟩ :: ((⟨.own b75 pl.l.length [],nl⟩:OwL Int).L 3 Jj ++ (⟨b9,[(⟨.own b60 pl.l.length [],pr⟩:OwL Int).val,fl.val],82⟩ :: ((⟨.own b60 pl.l.length [],pr⟩:OwL Int).L 3 Jj ++ (cblk c x k10 :: ⟨b5,[pl.val,rl.val,.slice none 0 0,.slice none 0 0],32⟩ :: (pl.L 159 XPlace.cells ++ (⟨b4,[.slice none 0 0,.slice none 0 0],82⟩ :: ⟨b3,[.slice none 0 0,.slice none 0 0],80⟩ :: ⟨b2,[.slice none 0 0,.slice none 0 0,.slice none 0 0,.slice none 0 0],32⟩ ::  (rl.L 157 XRoad.cells ++ (fl.L 3 Jj ++ [])))))))),fun _=>R,fun _=>0⟩:Head {q:Int // (-60≤q∧q≤60)∧(cl=true→q=0)})) ?_ ?_;·
     skip
     refine q_c ?_ ?_<;>intro hc5;·apply qay∘Xce;exact q_j ⟨0,by omega,fun _=>rfl⟩
     refine Jt ?_;exact q_j ⟨r8,⟨g8,g8'⟩,fun h=>absurd h (by first | exact hc5 | (rw [hc5];decide))⟩
    rintro ⟨q,hq,hqc⟩ junk;(try dsimp only);obtain ⟨rr,hrr⟩:∃rr:XRoad,rr={ rd with closed:=cl }:=⟨_,rfl⟩;rw [← hrr];have hto:=Kie (n:=(pl.l.length:Int)) ⟨g6,g6q⟩ ⟨g7,g7q⟩;(have hf1:rr.fr=r6:=by rw [hrr];exact hrd.fr);(have hf2:rr.to=(r6 + 1 + r7).tmod pl.l.length:=by rw [hrr];exact hrd.to);have hG:RoadG pl.l.length rr:=⟨⟨by omega,by omega,by rw [hrr];exact hrd.rest⟩,by omega,by rw [hrr];exact hrd.len,by rw [hrr];exact hrd.area⟩;(have hcl:rr.closed=true→q=0:=by rw [hrr];exact hqc);have hv1:=hD.small rr.fr.toNat;have hg1:=Js (l:=nl) (k:=rr.fr.toNat) 0 zc;have hg2:=Js (l:=nl.set rr.fr.toNat (nl.getD rr.fr.toNat 0 + q)) (k:=rr.to.toNat) 0 zna;(have hv2:-360≤(nl.set rr.fr.toNat (nl.getD rr.fr.toNat 0 + q)).getD rr.to.toNat 0∧(nl.set rr.fr.toNat (nl.getD rr.fr.toNat 0 + q)).getD rr.to.toNat 0≤360:=by rw [Vob zc];have:=hD.small rr.to.toNat;split <;> omega);refine Ji ?_;refine Vu (rg 106 14) ((⟨fun _=>[],fun g=>⟨b14,rr.cells,157⟩ :: ((⟨.own b75 pl.l.length [],nl⟩:OwL Int).L 3 Jj ++ (⟨b9,[(⟨.own b60 pl.l.length [],pr⟩:OwL Int).val,(⟨g.1.2,fl.l ++ [q]⟩:OwL Int).val],82⟩ :: ((⟨.own b60 pl.l.length [],pr⟩:OwL Int).L 3 Jj ++ (cblk c x k10 :: ⟨b5,[pl.val,(⟨g.1.1,rl.l ++ [rr]⟩:OwL XRoad).val,.slice none 0 0,.slice none 0 0],32⟩ :: (pl.L 159 XPlace.cells ++ (⟨b4,[.slice none 0 0,.slice none 0 0],82⟩ :: ⟨b3,[.slice none 0 0,.slice none 0 0],80⟩ :: ⟨b2,[.slice none 0 0,.slice none 0 0,.slice none 0 0,.slice none 0 0],32⟩ ::  ((⟨g.1.1,rl.l ++ [rr]⟩:OwL XRoad).L 157 XRoad.cells ++ ((⟨g.1.2,fl.l ++ [q]⟩:OwL Int).L 3 Jj ++ [])))))))),fun _=>R,fun _=>0⟩:Head {g:Ow×Ow // (⟨g.1,rl.l ++ [rr]⟩:OwL XRoad).ok 10 XRoad.cells∧(⟨g.2,fl.l ++ [q]⟩:OwL Int).ok 1 Jj})) ?_ ?_;·
     skip
     refine Ubc tb [] [0,1,2,3,6,7,8,4,5,9,10,11,12] [13,14,15] ([Blk.mk b14 _ _,Blk.mk b9 _ _,Blk.mk b5 _ _]) [] 13 Kn zf rfl rfl zk fun hT26=>?_;refine Zta 0 hT26 yd zf rfl rfl rfl rfl rfl zIb ?_;refine Zta 1 hT26 yd zf rfl rfl rfl rfl rfl zIb ?_;refine Zta 2 hT26 yd zf rfl rfl rfl rfl rfl zOb ?_;refine Zta 3 hT26 yd zf rfl rfl rfl rfl rfl zlc ?_;refine Zta 6 hT26 yd zf rfl rfl rfl rfl rfl zIb ?_;refine Zta 7 hT26 yd zf rfl rfl rfl rfl rfl zOb ?_;refine Zta 8 hT26 yd zf rfl rfl rfl rfl rfl (J2 zub) ?_;refine Jl [4,9] hT26 yd zf ?_;refine Jx ?_ ?_;·
      skip
      apply (qdn);rintro v M U ⟨b110,rfl,rfl,hR110⟩;replace hR110:=hR110.symm;subst hR110;apply (qa1);refine Jl [5,9] hT26 yd zf ?_;refine Jx ?_ ?_;·
       skip
       apply (Kkf);rintro v M U ⟨o111,rfl,hok111,rfl,rfl⟩;apply (qa1);refine Jl [9] hT26 yd zf ?_;apply qca∘qdc;rintro v M U ⟨b115,rfl,rfl,hR115⟩;replace hR115:=hR115.symm;subst hR115;exact zNd
      apply qca∘qdc;rintro v M U ⟨b115,rfl,rfl,hR115⟩;replace hR115:=hR115.symm;subst hR115;exact zSf
     apply qca∘qdc;rintro v M U ⟨b115,rfl,rfl,hR115⟩;replace hR115:=hR115.symm;subst hR115;apply (qa1);refine Jl [4] hT26 yd zf ?_;apply qca∘qdn;rintro v M U ⟨b110,rfl,rfl,hR110⟩;replace hR110:=hR110.symm;subst hR110;exact zSf
    rintro ⟨⟨o111,o116⟩,hok111,hok116⟩ junk;(try dsimp only);dsimp only at hok111 hok116;apply qae∘Xc9∘Vjf;refine J0 zFc rfl ?_;apply qaa∘qar∘Vjf;refine V5 (Jp tb ((⟨.own b75 pl.l.length [],nl⟩:OwL Int)) (nl.getD rr.fr.toNat 0 + q) rfl rfl rfl rfl zm zi yf zi zj ze ze) ?_;rintro v M U ⟨rfl,rfl⟩;apply (qaf);have hokn2:=OwL.set_ok (f:=Jj) (wd:=1) (p:=(⟨.own b75 pl.l.length [],nl⟩:OwL Int)) (i:=rr.fr.toNat) (x:=nl.getD rr.fr.toNat 0 + q) yf hokn;apply qay∘Xc9∘J7g;refine J0 (Kc tb ((⟨.own b75 pl.l.length [],nl.set rr.fr.toNat (nl.getD rr.fr.toNat 0 + q)⟩:OwL Int)) rfl rfl rfl zm zi yf zi ze) rfl ?_;apply Xck∘J7g;refine V5 (Jp tb ((⟨.own b75 pl.l.length [],nl.set rr.fr.toNat (nl.getD rr.fr.toNat 0 + q)⟩:OwL Int)) ((nl.set rr.fr.toNat (nl.getD rr.fr.toNat 0 + q)).getD rr.to.toNat 0 - q) rfl rfl rfl rfl zm zi yf zi zj ze ze) ?_;rintro v M U ⟨rfl,rfl⟩;apply qcs∘Xdk;exact q_k ⟨(k10,mm - 1,⟨o111,_⟩,⟨o116,_⟩,U8a nl rr q),hk10,⟨hok111,hok116,OwL.set_ok (p:=(⟨.own b75 pl.l.length [],nl.set rr.fr.toNat (nl.getD rr.fr.toNat 0 + q)⟩:OwL Int)) yf hokn2⟩,hD.next zc hG hq hcl⟩
   refine K5 (Kk (K1 (J8 ?_)));exact q_j ⟨(kk3,rl,fl,nl),hkk3,⟨hokr,hokf,hokn⟩,mm,hD⟩
  refine Jt ?_;exact K2a ⟨(kk2,OwL.nil,OwL.nil,List.replicate pl.l.length 0),hkk2,⟨OwL.nil_ok,OwL.nil_ok,Yj yf zF⟩,0,Drawn.zero zc⟩ zp zg (by dsimp only;rw [Kr,Kr];exact zk) zJb
 rintro ⟨⟨kk4,rl,fl,nl⟩,hkk4,⟨hokr,hokf,hokn⟩,mm,hD⟩ junk;try dsimp only
 dsimp only at hkk4 hokr hokf hokn hD;apply Xap∘Xat;refine Jh [(0,.pointer _),(2,.pointer _),(3,.pointer _),(4,.pointer _),(5,.pointer _),(6,.int _ _),(8,.int _ _),(9,.pointer _),(11,.slice _ _ _),(16,.int _ _)] zg fun tq3=>?_;have hDl:=hD.len;have hDm:=hD.m;refine q_p ([16,17,18]++rg 137 40) ((⟨fun g=>[(16,.int .i64 ((g.1.2.1:Nat):Int))],fun g=>(⟨.own b75 pl.l.length [],nl⟩:OwL Int).L 3 Jj ++ (⟨b9,[(⟨.own b60 pl.l.length [],pr⟩:OwL Int).val,g.1.2.2.2.val],82⟩ :: ((⟨.own b60 pl.l.length [],pr⟩:OwL Int).L 3 Jj ++ (cblk c x g.1.1 :: ⟨b5,[pl.val,g.1.2.2.1.val,.slice none 0 0,.slice none 0 0],32⟩ :: (pl.L 159 XPlace.cells ++ (⟨b4,[.slice none 0 0,.slice none 0 0],82⟩ :: ⟨b3,[.slice none 0 0,.slice none 0 0],80⟩ :: ⟨b2,[.slice none 0 0,.slice none 0 0,.slice none 0 0,.slice none 0 0],32⟩ ::  (g.1.2.2.1.L 157 XRoad.cells ++ (g.1.2.2.2.L 3 Jj ++ []))))))),fun _=>R,fun g=>pl.l.length - g.1.2.1⟩:Head {g:Nat×Nat×OwL XRoad×OwL Int // g.1≤x.l.length∧(pl0.l.length≤g.2.1∧g.2.1≤pl.l.length)∧(g.2.2.1.ok 10 XRoad.cells∧g.2.2.2.ok 1 Jj)∧Shafted pl0.l.length pl.l.length g.2.1 nl g.2.2.1.l g.2.2.2.l})) (⟨(kk4,pl0.l.length,rl,fl),hkk4,⟨yn _,by dsimp only;omega⟩,⟨hokr,hokf⟩,hD.shafted _⟩) ?_;rintro ⟨⟨kk5,j,rl,fl⟩,hkk5,⟨hj1,hj2⟩,⟨hokr2,hokf2⟩,hS⟩ junk;try dsimp only
 dsimp only at hkk5 hj1 hj2 hokr2 hokf2 hS;apply (Xea);refine q_c ?_ ?_<;>intro hc6;·
  have hSl:=hS.len;have hSr:=hS.roads.len;have hnj:=Js (l:=nl) (k:=j) 0 zc;have hnb:=hD.small j;refine Jt (Ja (Ji (Jy (Ji ?_))));refine Kg tb [0,1,2,3,6,7,8,9,10,4,5,11,12,13] (((⟨.own b75 pl.l.length [],nl⟩:OwL Int).L 3 Jj ++ [])) Kn zf zk ?_;apply qb8∘qao∘qb8∘qao;refine Kq zrd rfl rfl rfl ?_;apply (qao);refine Kq (Jo tb ((⟨.own b75 pl.l.length [],nl⟩:OwL Int)) _ rfl rfl ((show _=Value.slice _ _ _ from rfl).trans (Uq hDl)) rfl zi (i:=j) zo zw) rfl rfl rfl ?_;refine Kq zFc rfl rfl rfl ?_;refine Kq (Vqb rfl zc zc) rfl rfl rfl ?_;refine Vn rfl (Zx zx hx hkk5 zc) rfl rfl ?_;rintro v M U ⟨r9,k11,rfl,g9,g9',g9'',hk11,rfl,rfl⟩;refine ⟨zk,zu,?_⟩;have g9q:=g9' zc;refine Vn rfl (Vef zx hx hk11) rfl rfl ?_;rintro v M U ⟨rd,k12,rfl,hrd,hk12,rfl,rfl⟩;refine ⟨zk,zu,?_⟩;apply (qbr);intro b17;apply qbg∘qcg∘qc6∘qa6;refine Ju rfl (Kte zx hx hk12 zc) rfl ?_;rintro v M U ⟨b,k13,rfl,hk13,rfl,rfl⟩;have hf1:=hrd.fr;have hf2:=hrd.to;have hG1:RoadG pl.l.length rd:=⟨⟨by omega,by omega,hrd.rest⟩,by omega,hrd.len,hrd.area⟩;apply (qaf);refine Vu ([18]++rg 155 8) ((⟨fun g=>[(18,.int .i64 g.1.2)],fun g=>⟨b17,g.1.1.cells,157⟩ :: ((⟨.own b75 pl.l.length [],nl⟩:OwL Int).L 3 Jj ++ (⟨b9,[(⟨.own b60 pl.l.length [],pr⟩:OwL Int).val,fl.val],82⟩ :: ((⟨.own b60 pl.l.length [],pr⟩:OwL Int).L 3 Jj ++ (cblk c x k13 :: ⟨b5,[pl.val,rl.val,.slice none 0 0,.slice none 0 0],32⟩ :: (pl.L 159 XPlace.cells ++ (⟨b4,[.slice none 0 0,.slice none 0 0],82⟩ :: ⟨b3,[.slice none 0 0,.slice none 0 0],80⟩ :: ⟨b2,[.slice none 0 0,.slice none 0 0,.slice none 0 0,.slice none 0 0],32⟩ ::  (rl.L 157 XRoad.cells ++ (fl.L 3 Jj ++ [])))))))),fun _=>R,fun _=>0⟩:Head {g:XRoad×Int // RoadG pl.l.length g.1∧(-360≤g.2∧g.2≤360)∧g.1.closed=false∧((g.1.fr=(j:Int)∧g.1.to < (pl0.l.length:Int)∧g.2= -(nl.getD j 0))∨(g.1.to=(j:Int)∧g.1.fr < (pl0.l.length:Int)∧g.2=nl.getD j 0))})) ?_ ?_;·
   skip
   refine q_c ?_ ?_<;>intro hc7;·apply qay∘Xaa∘Xaf∘qcq∘Xbs∘Xbs∘Xce;exact q_j ⟨({ rd with fr:=rd.to,to:=rd.fr },- -(nl.getD j 0)),⟨⟨hG1.d.to,hG1.d.fr,hrd.rest⟩,(fun h=>hG1.ne h.symm),hrd.len,hrd.area⟩,by dsimp only;omega,hrd.closed,.inr ⟨hf1,by dsimp only;omega,by dsimp only;omega⟩⟩
   refine Jt ?_;exact q_j ⟨(rd,-(nl.getD j 0)),hG1,by dsimp only;omega,hrd.closed,.inl ⟨hf1,by dsimp only;omega,rfl⟩⟩
  rintro ⟨⟨rr,q⟩,hG,hq,hcl,hend⟩ junk;try dsimp only
  dsimp only at hG hq hcl hend;refine Ubc tb [] [0,1,2,3,6,7,8,4,5,9,10,11,12] [13,14,15] ([Blk.mk b17 _ _,Blk.mk b9 _ _,Blk.mk b5 _ _]) [] 13 Kn zf rfl rfl zk fun hT35=>?_;refine Zta 0 hT35 yd zf rfl rfl rfl rfl rfl zIb ?_;refine Zta 1 hT35 yd zf rfl rfl rfl rfl rfl zIb ?_;refine Zta 2 hT35 yd zf rfl rfl rfl rfl rfl zOb ?_;refine Zta 3 hT35 yd zf rfl rfl rfl rfl rfl zlc ?_;refine Zta 6 hT35 yd zf rfl rfl rfl rfl rfl zIb ?_;refine Zta 7 hT35 yd zf rfl rfl rfl rfl rfl zOb ?_;refine Zta 8 hT35 yd zf rfl rfl rfl rfl rfl (J2 zub) ?_;refine Jl [4,9] hT35 yd zf ?_;refine Jx ?_ ?_;·
   skip
   apply (qdn);rintro v M U ⟨b167,rfl,rfl,hR167⟩;replace hR167:=hR167.symm;subst hR167;apply (qa1);refine Jl [5,9] hT35 yd zf ?_;refine Jx ?_ ?_;·
    skip
    apply (Jjf);rintro v M U ⟨o168,rfl,hok168,rfl,rfl⟩;apply (qa1);refine Jl [9] hT35 yd zf ?_;apply qca∘qdc;rintro v M U ⟨b172,rfl,rfl,hR172⟩;replace hR172:=hR172.symm;subst hR172;exact zKd
   apply qca∘qdc;rintro v M U ⟨b172,rfl,rfl,hR172⟩;replace hR172:=hR172.symm;subst hR172;exact zTf
  apply qca∘qdc;rintro v M U ⟨b172,rfl,rfl,hR172⟩;replace hR172:=hR172.symm;subst hR172;apply (qa1);refine Jl [4] hT35 yd zf ?_;apply qca∘qdn;rintro v M U ⟨b167,rfl,rfl,hR167⟩;replace hR167:=hR167.symm;subst hR167;exact zTf
 obtain rfl:j=pl.l.length:=by omega
 have hSl:=hS.len;have hSr:=hS.roads.len;have hprl:=hPr.len;apply qbk∘qa6;refine Ju rfl (Tri.spl (.appB (.consB (.appB (.consL (.consL (.appB (.consB (.consB (.consB (.appB (.appB .nil))))))))))) (Zic c b5 x kk5 rl.l.length rl.o.cap pl.val rl.o.addr R hx hkk5 zc)) rfl ?_;rintro v M U ⟨L1,rfl,fans,doors,sf,sd,k14,S,rfl,⟨ho1,ho2,ho3,ho4⟩,hFD,hDD,hif,hid,hk14,rfl,rfl⟩;simp only [yp,yA,yv];have hxs:CodesR x (S ++ R):=hx.mono fun r h=>Jb (by simp [h]);have hFm:=hFD.m;have hDm2:=hDD.m;have hFl:=hFD.len;have hDl2:=hDD.len;apply (qaq);intro b19;apply Xbe∘qa6∘qbe∘qbe;refine Ju rfl (Vfe (n:=rl.l.length) (pres:=(⟨.own b60 pl.l.length [],pr⟩:OwL Int)) ⟨pl.arr,rl.arr⟩ (.consB (.appB (.consB (.appB (.appB (.consB (.consB (.consB (.appL (.appB (.consL (.consL (.appB (.appB (.appB (.appB .nil)))))))))))))))) zE zE zE zE zE zE ho1 ho2 ho3 ho4 hokp hokf2 (fun f hf=>(hif f hf).mono fun r hr=>Jb zJ) (fun d hd=>(hid d hd).mono fun r hr=>Jb zJ) hxs hk14 hokr2 hFD hDD hSr.symm zc hS.roads.flow (fun i p hp=>(hPr.val i p hp).1) (fun i r hr=>by dsimp only;rw [hprl];exact (hS.roads.road i r hr).d)) rfl ?_;rintro v M U ⟨rl',k15,rfl,hFI,hk15,rfl,rfl⟩;simp only [yp,yA,yv];have hrv:rl.val=(⟨rl.o,rl'⟩:OwL XRoad).val:=by simp only [OwL.val,hFI.len]
 apply (qa4);rw [hrv];refine Kh tb [188] [0,1,2,3,5,4] [6,7,8] ([Blk.mk b19 _ _,Blk.mk b9 _ _,Blk.mk b5 _ _]) _ Kn zf zk zWa ?_;apply qde∘qb3∘qde;refine Kz zKb rfl rfl rfl rfl ?_;refine V6 zKb rfl rfl rfl rfl ?_;refine Kv rfl (K5d (a:=⟨⟨pl.arr,(⟨rl.o,rl'⟩:OwL XRoad).arr⟩,fans.arr,doors.arr⟩) (.consB (.appB (.consB (.appB (.appB (.consB (.consB (.consB (.appB (.appB (.appB (.appB (.appB (.consL (.consB (.appB .nil)))))))))))))))) zE zE ho3 ho4 hxs hk15 zc zc) rfl rfl ?_;rintro v M U ⟨tf,td,k16,rfl,⟨ht1,ht2⟩,hdf,hdd,hk16,rfl,rfl⟩;simp only [yp,yA,yv];refine ⟨zk,zu,?_⟩;apply (qba);iterate 3 apply (qbg)
 refine J9 (Ja (Ud ?_));refine q_r (MadeO.L ⟨pl,⟨rl.o,rl'⟩,fans,doors,tf,td,(⟨.own b60 pl.l.length [],pr⟩:OwL Int),fl⟩ (cblk c x k16)) (S ++ R) (Kzb rfl (Jw (row:=[_,_,_,_]) tb rfl rfl rfl zh ze ze) zwb zwb) ?_;have hMA:=Vbe (a:=MadeO.a ⟨pl,⟨rl.o,rl'⟩,fans,doors,tf,td,(⟨.own b60 pl.l.length [],pr⟩:OwL Int),fl⟩) (s:=⟨sf.arr,sd.arr⟩) (t:=MadeO.t ⟨pl,⟨rl.o,rl'⟩,fans,doors,tf,td,(⟨.own b60 pl.l.length [],pr⟩:OwL Int),fl⟩) (x:=MadeO.x ⟨pl,⟨rl.o,rl'⟩,fans,doors,tf,td,(⟨.own b60 pl.l.length [],pr⟩:OwL Int),fl⟩) hP hPr hS hFD hDD ⟨hFI.len,hFI.done,hFI.todo⟩ hdf hdd;exact ⟨⟨pl,⟨rl.o,rl'⟩,fans,doors,tf,td,(⟨.own b60 pl.l.length [],pr⟩:OwL Int),fl⟩,k16,S,rfl,⟨hok,OwL.len_ok yf hokr2 hFI.len,ho1,ho2,ht1,ht2,hokp,hokf2⟩,hMA,hif,hid,hk16,rfl,rfl⟩
end Go.Proofs.YtchfclmokpbldaaGreat
end
section
namespace Go.Proofs.YtchfclmokpbldaaGreat
open Go.Aw Go
set_option maxRecDepth 20000
attribute [local irreducible] CJ LJ DJ Tri YV Gives U7 Kb Kp U8 RV Ke OwL.L
abbrev K0a (y:Arr Int):Arr Int:=⟨y.a,y.cap,y.l.take 300⟩
def Jte (y:Arr Int) (L:LB) (R:LS) (hy:CodesR y R):
 Tri Tryz.prog 14 [y.val].toArray L R (fun v M U=>∃c,v=.pointer (some ⟨c,0,none⟩)∧CodesR (K0a y) U∧cblk c (K0a y) 0 :: L=M∧bsl (K0a y) :: R=U):=by have hsl:=hy.sl;refine Kba Tryz.call14 hsl fun hyn=>?_;refine Jd 10 Tryz.call14 Tryz.func14 rfl rfl rfl ?_;apply qae∘qc1∘qa4;refine Yne 300 hsl ?_;apply qay∘qbm∘Xaq;refine J0 (Jub rfl rfl) rfl ?_;refine J0 (Uab tb rfl rfl rfl rfl (n:=(y.l.take 300).length) (by rw [yAb];omega) (by rw [yAb];omega)) rfl ?_;apply Jvf∘qax;intro b9;apply qc1∘qa0;refine q_r (cblk b9 (K0a y) 0 :: L) (bsl (K0a y) :: R) (U3 rfl (Jk zSb)) ?_;exact ⟨b9,rfl,⟨Jb zq,fun i b hb=>by rw [yoa] at hb;split at hb;exact hy.byte i b hb;cases hb⟩,rfl,rfl⟩
def K5g {c:Nat} {x:Arr Int} {k:Nat} {L B:LB} {R:LS} (hu:Spl L B [cblk c x k]) (hx:CodesR x R) (hk:k≤x.l.length):
 Tri Tryz.prog 39 [.pointer (some ⟨c, 0, none⟩)].toArray L R
  (fun v M U=>∃(m:MadeO) (k':Nat) (S:LS),v=.tuple #[m.a.val,m.t.val,m.x.val]∧m.Ok∧MadeA m.a m.t m.x∧(∀f∈m.fans.l,InR f.sl S)∧(∀d∈m.doors.l,InR d.sl S)∧k'≤x.l.length∧B ++ m.L (cblk c x k')=M∧S ++ R=U):=
 (Tri.spl hu (Yve c x k R hx hk)).mono fun v L'' U ⟨M,e,m,k',S,h1,h2,h3,h4,h5,h6,h7,h8⟩=>⟨m,k',S,h1,h2,h3,h4,h5,h6,by rw [h7];exact e,h8⟩
end Go.Proofs.YtchfclmokpbldaaGreat
end
section
namespace Go.Proofs.YtchfclmokpbldaaGreat
open Go.Aw Go
set_option maxRecDepth 20000
attribute [local irreducible] CJ LJ DJ Tri YV Gives U7 Kb Kp U8 RV Ke OwL.L
def Vjd:SpanEq Tryz.prog 90:=
 Jce (I:=3) zf zf zf zf zf
def Vs {a:XAir} {R U:LS} (h:AirR a R) (k:∀r∈R,InR r U):AirR a U:=⟨h.places.mono k,h.roads.mono k,h.fans.mono k,h.doors.mono k⟩
def Y3 {s:XSetting} {R U:LS} (h:SetR s R) (k:∀r∈R,InR r U):SetR s U:=⟨h.fans.mono k,h.doors.mono k⟩
end Go.Proofs.YtchfclmokpbldaaGreat
end
