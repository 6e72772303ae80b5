/-
  Draws: MakeS, Make, BranchW, Draw1, Draw2, FitS, Fit, MadeS, Made, New, Base, in one text. By an AI agent; no person has read it.
-/
import Derived.Test.YtchfclmokpbldaaGreatFlows
import Derived.Test.YtchfclmokpbldaaGreatOwn
set_option linter.all false
set_option maxHeartbeats 4000000
section
variable {A B:Prop}
def Zhe(h:A→B:=by exact Ku (Jl tb rfl rfl rfl rfl (i:=(a.doors.l.getD k default).road.toNat) zk za) rfl rfl rfl rfl):=h
def Y5f(h:A→B:=by exact Ku (Jl tb rfl rfl rfl rfl (i:=k) zk za) rfl rfl rfl rfl):=h
def Vnf(h:A→B:=by exact Jv rfl (Y1b zA hx hk za) rfl):=h
def Ykf(h:A→B:=by exact Jv rfl (Y1b zA hx hk1 za) rfl):=h
def Ymf(h:A→B:=by exact Jv rfl (Yia zA hx hk2 za) rfl):=h
def V4f(h:A→B:=by exact Za zKb rfl):=h
def Vgf(h:A→B:=by exact Jw (J8 (qs:=[(0,(Value.slice _ _ _).cells.toList)]) (out:=[_,_]) tb rfl rfl rfl rfl) rfl):=h
def Upf(h:A→B:=by exact Kq rfl (Jy (f:=XRoad.cells) (p:=rl) (a:=rr) tb rfl rfl rfl rfl (hokr) zj zwb rfl zy) rfl rfl):=h
def Vyf(h:A→B:=by exact Kq rfl (Jy (f:=Jj) (p:=fl) (a:=q) tb rfl rfl rfl rfl (hokf) zj zwb rfl zy) rfl rfl):=h
def Yyf(h:A→B:=by exact J6a 11 hT26 yd zc rfl rfl rfl rfl rfl zzb):=h
def Uff(h:A→B:=by exact J6a 12 hT26 yd zc rfl rfl rfl rfl rfl zzb):=h
def Ubf(h:A→B:=by exact Kq rfl (Jy (f:=XRoad.cells) (p:=rl) (a:=rr) tb rfl rfl rfl rfl (hokr2) zj zwb rfl zy) rfl rfl):=h
def Y1f(h:A→B:=by exact Kq rfl (Jy (f:=Jj) (p:=fl) (a:=q) tb rfl rfl rfl rfl (hokf2) zj zwb rfl zy) rfl rfl):=h
def Yxf(h:A→B:=by exact J6a 11 hT35 yd zc rfl rfl rfl rfl rfl zzb):=h
def V8f(h:A→B:=by exact J6a 12 hT35 yd zc rfl rfl rfl rfl rfl zzb):=h
def Kjg(h:A→B:=by exact J7 tb [] [0,1,2,3,4,5,6,7,8,9,10] [11] (_) _ Ko zc zi (by (repeat (first | apply List.Sublist.cons (a:=Blk.mk b20 _ _) | apply List.Sublist.cons_cons));exact yt _)):=h
def Z5f(h:A→B:=by exact J7 tb [] [0,1,2,3,4,5,6,7,8,9,10] [11] (_) _ Ko zc zi (by (repeat (first | apply List.Sublist.cons (a:=Blk.mk b14 _ _) | apply List.Sublist.cons_cons));exact yt _)):=h
def Z7f(h:A→B:=by exact J7 tb [] [0,1,2,3,4,5,6,7] [8] ([Blk.mk b7 _ _]) _ Ko zc zi zWa):=h
def Jqg(h:A→B:=by exact K7 rfl (Yia zA hx hk4 za) rfl rfl):=h
def Udg(h:A→B:=by exact K7 rfl (Y1b zA hx hkk za) rfl rfl):=h
def Zsf(h:A→B:=by exact Joc zKb rfl rfl rfl):=h
def Khg(h:A→B:=by exact Za (Jy (f:=Jj) (p:=tf) (a:=_) tb rfl rfl rfl rfl (hok) zj zwb rfl zy) rfl):=h
def Jtg(h:A→B:=by exact Za (Jy (f:=Jj) (p:=td) (a:=_) tb rfl rfl rfl rfl (hok2) zj zwb rfl zy) rfl):=h
def Kcg(h:A→B:=by exact Jv rfl (Yia zA hx hk1 za) rfl):=h
def Kxg(h:A→B:=by exact Jw (Jo tb ((⟨.own b75 pl.l.length [],nl⟩:OwL Int)) _ rfl rfl ((show _=Value.slice _ _ _ from rfl).trans (K6 hDl)) rfl zg (i:=rr.fr.toNat) zk zp) rfl):=h
def K2g(h:A→B:=by exact Jw (Jo tb ((⟨.own b75 pl.l.length [],nl.set rr.fr.toNat (nl.getD rr.fr.toNat 0 + q)⟩:OwL Int)) _ rfl rfl ((show _=Value.slice _ _ _ from rfl).trans (K6 (by rw [yK];exact hDl))) rfl zg (i:=rr.to.toNat) zk zp) rfl):=h
end
section
namespace Go.Proofs.YtchfclmokpbldaaGreat
open Go.Aw Go
def Ze (a : XAir) (s : XSetting) : Nat → List XSpan
 | 0=>List.replicate a.mine.roads.l.length ⟨0,0⟩
 | k + 1=>
  let d:=a.doors.l.getD k default
  let x:=Zm d (s.doors.l.getD k 0)
  let y:=(Ze a s k).getD d.road.toNat default
  (Ze a s k).set d.road.toNat ⟨y.low + x.low,y.high + x.high⟩
def Jwa (a : XAir) (s : XSetting) : ∀ k, (Ze a s k).length = a.mine.roads.l.length
 | 0=>by simp [Ze]
 | k + 1=>by simp only [Ze,yK];exact Jwa a s k
def Jvb {a:XAir} {s:XSetting} (ha:AirOk a) {r:Nat} (hr:r < a.mine.roads.l.length):∀k,k≤a.doors.l.length→∃x:XSpan,(Ze a s k)[r]?=some x∧
 (Va a s r k).low=(a.mine.roads.l.getD r default).rest.low + x.low∧(Va a s r k).high=(a.mine.roads.l.getD r default).rest.high + x.high
 | 0,_=>⟨⟨0,0⟩,by simp [Ze,hr],by simp [Va],by simp [Va]⟩
 | k + 1,hk=>by
  obtain ⟨x,h1,h2,h3⟩:=Jvb (s:=s) ha hr k za
  have hd:=ha.door k _ (Jp default (show k < a.doors.l.length by omega))
  have hd0:=hd.1.road
  simp only [Ze,Va]
  by_cases he:(a.doors.l.getD k default).road=(r:Int)
  ·rw [if_pos he]
   have he':(a.doors.l.getD k default).road.toNat=r:=by omega
   rw [he']
   have hg:(Ze a s k).getD r default=x:=by rw [yi,h1];rfl
   refine ⟨_,yH (by rw [Jwa];exact hr),?_,?_⟩ <;> rw [hg] <;> dsimp only <;> omega
  ·rw [if_neg he]
   have he':¬ (a.doors.l.getD k default).road.toNat=r:=by omega
   exact ⟨x,by rw [yba he'];exact h1,h2,h3⟩
def U6 (a : XAir) : Nat → List Nat
 | 0=>[]
 | k + 1=>if (a.mine.roads.l.getD k default).closed=true then U6 a k else U6 a k ++ [k]
def U5d (a : XAir) (v : Nat) : Nat → List Int
 | 0=>[]
 | k + 1=>
  if (a.mine.roads.l.getD k default).closed=true then U5d a v k
  else if (a.mine.roads.l.getD k default).fr=(v:Int)∨(a.mine.roads.l.getD k default).to=(v:Int) then U5d a v k ++ [((U6 a k).length:Int)]
  else U5d a v k
def V4a (a : XAir) : ∀ k, (U6 a k).length ≤ k
 | 0=>by simp [U6]
 | k + 1=>by
  have:=V4a a k
  simp only [U6]
  split
  ·omega
  ·simp;omega
def Kta (a : XAir) (v : Nat) : ∀ k, (U5d a v k).length ≤ k
 | 0=>by simp [U5d]
 | k + 1=>by
  have:=Kta a v k
  simp only [U5d]
  split
  ·omega
  ·split
   ·simp;omega
   ·omega
structure XNet where
 pipes:Arr XPipe
 at_:Arr (Arr Int)
abbrev XNet.val (n:XNet):Value:=.agg #[n.pipes.val,n.at_.val]
def XNet.cells (n:XNet):List Value:=[n.pipes.val,n.at_.val]
def Vmf (x:Arr Int):List Value:=[x.val]
abbrev Zja (x:Arr XPipe):Sl:=x.sl 12 XPipe.cells (x.l.map XPipe.sl)
abbrev Yma (x:Arr (Arr Int)):Sl:=x.sl 1 Vmf (x.l.map isl)
structure NetIs (a:XAir) (s:XSetting) (n:XNet):Prop where
 nums:n.pipes.l.map XPipe.num=(U6 a a.mine.roads.l.length).map fun (i:Nat)=>(i:Int)
 pipe:∀p∈n.pipes.l,PipeIs a s p.num p
 atl:n.at_.l.length=a.mine.places.l.length
 at_:∀(v:Nat) (x:Arr Int),n.at_.l[v]?=some x→x.l=U5d a v a.mine.roads.l.length
structure MF (a:XAir) (s:XSetting) (k:Nat) (F:List (OwL XBlow)):Prop where
 len:F.length=a.mine.roads.l.length
 ok:∀(r:Nat) (p:OwL XBlow),F[r]?=some p→p.ok 5 XBlow.cells∧p.l=blowsTo a s r k
def MF.zero (a:XAir) (s:XSetting):MF a s 0 (List.replicate a.mine.roads.l.length OwL.nil):=by exact uaF
def MF.stay {a:XAir} {s:XSetting} {k:Nat} {F:List (OwL XBlow)} (h:MF a s k F) (hs:s.fans.l.getD k 0=0):MF a s (k + 1) F:=by refine ⟨h.len,fun r p hp=>?_⟩;rw [blowsTo,if_neg (fun h=>h.1 hs)];exact h.ok r p hp
def MF.next {a : XAir} {s : XSetting} {k : Nat} {F : List (OwL XBlow)} (h : MF a s k F) (hs : ¬ s.fans.l.getD k 0 = 0) {i : Nat} (hi : (i : Int) = (a.fans.l.getD k default).road) {p : OwL XBlow} (hp : F[i]? = some p) {o : Ow}
 (ho:(⟨o,p.l ++ [⟨a.fans.l.getD k default,s.fans.l.getD k 0⟩]⟩:OwL XBlow).ok 5 XBlow.cells):MF a s (k + 1) (F.set i ⟨o,p.l ++ [⟨a.fans.l.getD k default,s.fans.l.getD k 0⟩]⟩):=by
 refine ⟨by simp [h.len],fun r q hq=>?_⟩;rw [yM] at hq;split at hq;·
  rename_i hri;subst hri;split at hq;·cases hq;refine ⟨ho,?_⟩;dsimp only;rw [blowsTo,if_pos ⟨hs,hi.symm⟩,(h.ok i p hp).2]
  ·cases hq
 ·rename_i hri;rw [blowsTo,if_neg (fun h=>hri za)];exact h.ok r q hq
structure MA (a:XAir) (k:Nat) (G:List (OwL Int)):Prop where
 len:G.length=a.mine.places.l.length
 ok:∀(v:Nat) (p:OwL Int),G[v]?=some p→p.ok 1 Jj∧p.l=U5d a v k
def MA.zero (a:XAir):MA a 0 (List.replicate a.mine.places.l.length OwL.nil):=by exact uaF
def MA.stay {a:XAir} {k:Nat} {G:List (OwL Int)} (h:MA a k G) (hc:(a.mine.roads.l.getD k default).closed=true):MA a (k + 1) G:=by refine ⟨h.len,fun v p hp=>?_⟩;rw [U5d,if_pos hc];exact h.ok v p hp
def MA.next {a : XAir} {k : Nat} {G : List (OwL Int)} (h : MA a k G) (hc : ¬ (a.mine.roads.l.getD k default).closed = true) {i j : Nat} (hi : (i : Int) = (a.mine.roads.l.getD k default).fr) (hj : (j : Int) = (a.mine.roads.l.getD k default).to) (hne : i ≠ j)
 {p q:OwL Int} (hp:G[i]?=some p) (hq:G[j]?=some q) {o o':Ow} {n:Int} (hn:n=((U6 a k).length:Int)) (ho:(⟨o,p.l ++ [n]⟩:OwL Int).ok 1 Jj) (ho':(⟨o',q.l ++ [n]⟩:OwL Int).ok 1 Jj):
 MA a (k + 1) ((G.set i ⟨o,p.l ++ [n]⟩).set j ⟨o',q.l ++ [n]⟩):=by
 refine ⟨by simp [h.len],fun v x hx=>?_⟩;rw [U5d,if_neg hc];rw [yM] at hx;split at hx;·
  rename_i hv;subst hv;split at hx;·cases hx;refine ⟨ho',?_⟩;dsimp only;rw [if_pos (.inr hj.symm),(h.ok j q hq).2,hn]
  ·cases hx
 ·
  rename_i hv;rw [yM] at hx;split at hx;·
   rename_i hv2;subst hv2;split at hx;·cases hx;refine ⟨ho,?_⟩;dsimp only;rw [if_pos (.inl hi.symm),(h.ok i p hp).2,hn]
   ·cases hx
  ·rename_i hv2;rw [if_neg za];exact h.ok v x hx
structure MP (a:XAir) (s:XSetting) (S:LS) (k:Nat) (P:OwL XPipe):Prop where
 ok:P.ok 12 XPipe.cells
 nums:P.l.map XPipe.num=(U6 a k).map fun (i:Nat)=>(i:Int)
 pipe:∀p∈P.l,PipeIs a s p.num p∧InR p.sl S
def MP.length {a:XAir} {s:XSetting} {S:LS} {k:Nat} {P:OwL XPipe} (h:MP a s S k P):P.l.length=(U6 a k).length:=by have:=congrArg List.length h.nums;simpa using this
def MP.zero (a:XAir) (s:XSetting) (S:LS):MP a s S 0 OwL.nil:=⟨OwL.nil_ok,rfl,fun _ h=>by cases h⟩
def MP.stay {a:XAir} {s:XSetting} {S:LS} {k:Nat} {P:OwL XPipe} (h:MP a s S k P) (hc:(a.mine.roads.l.getD k default).closed=true):MP a s S (k + 1) P:=
 ⟨h.ok,by rw [U6,if_pos hc];exact h.nums,h.pipe⟩
def MP.next {a:XAir} {s:XSetting} {S:LS} {k:Nat} {P:OwL XPipe} (h:MP a s S k P) (hc:¬ (a.mine.roads.l.getD k default).closed=true) {p:XPipe} (hp:PipeIs a s k p) (hs:InR p.sl S) {o:Ow} (ho:(⟨o,P.l ++ [p]⟩:OwL XPipe).ok 12 XPipe.cells):
 MP a s S (k + 1) ⟨o,P.l ++ [p]⟩:=by
 refine ⟨ho,?_,fun q hq=>?_⟩;·rw [U6, if_neg hc];simp [h.nums,hp.num]
 ·
  rcases List.mem_append.1 hq with hq | hq;·exact h.pipe q hq
  ·rw [List.mem_singleton.1 hq];refine ⟨?_,hs⟩;rw [hp.num];exact hp
def U4c {α:Type} {T:TypeId} {f:α→List Value} (n:Nat):(List.replicate n (OwL.nil:OwL α)).flatMap (OwL.L T f)=[]:=by
 induction n with
 | zero=>rfl
 | succ n ih=>rw [yvb,yN,ih];rfl
def Vtc {α:Type} (n:Nat):Jhc [.slice none 0 0] n=(List.replicate n (OwL.nil:OwL α)).flatMap J1b:=Ylb (f:=J1b) (x:=OwL.nil) rfl n
def Kpe (n:Nat):Jhc [.int .i64 0,.int .i64 0] n=(List.replicate n (⟨0,0⟩:XSpan)).flatMap XSpan.cells:=Ylb (f:=XSpan.cells) (x:=⟨0,0⟩) rfl n
end Go.Proofs.YtchfclmokpbldaaGreat
end
section
namespace Go.Proofs.YtchfclmokpbldaaGreat
open Go.Aw Go
set_option maxRecDepth 20000
attribute [local irreducible] CJ LJ DJ Tri YV Gives Uq J2 Kj Ut RV J3 OwL.L
def Vmc (a:XAir) (s:XSetting) (L:LB) (R:LS) (hm:AirR a R) (hs:SetR s R) (ha:AirOk a) (hf:FitOk a s):
 Tri Tryz.prog 113 [a.val,s.val].toArray L R (fun v U J=>∃n:XNet,v=n.val∧NetIs a s n∧L=U∧Zja n.pipes :: Yma n.at_ :: R=J):=by
 have hmr:=hm.roads;have hmp:=hm.places;have hfa:=hm.fans;have hdo:=hm.doors;have hsf:=hs.fans;have hsd:=hs.doors;have hnd:=ha.ndoors;have hnf:=ha.nfans;have hlf:=hf.lf;have hld:=hf.ld;have hnr:=ha.mine.roads;have hnp:=ha.mine.places;refine Je 181 Tryz.call113 Tryz.func113 rfl rfl rfl ?_;apply (Xaf);intro b2;apply (qax);intro b3;apply (qaq);intro b4;apply qam∘Xce∘qc7;rintro v U J ⟨b20,rfl,rfl,hR20⟩;replace hR20:=hR20.symm;subst hR20;apply Xb8∘Xce∘qc7;rintro v U J ⟨b25,rfl,rfl,hR25⟩;replace hR25:=hR25.symm;subst hR25;apply Xb5∘Xay;refine Jm [(2,.pointer _),(3,.pointer _),(4,.pointer _),(5,.slice _ _ _),(6,.slice _ _ _),(27,.slice _ _ _),(28,.int _ _),(29,.int _ _)] zh fun tq0=>?_;refine Up ([7,8,9]++rg 29 35) ((⟨fun g=>[(29,.int .i64 ((g.1:Nat):Int))],fun g=>⟨b25,Jhc [.slice none 0 0] a.mine.roads.l.length,223⟩ :: ⟨b20,(Ze a s g.1).flatMap XSpan.cells,90⟩ :: ⟨b4,[.slice none 0 0,.slice none 0 0],221⟩ :: ⟨b3,s.cells,80⟩ :: ⟨b2,a.cells,32⟩ :: L,fun _=>R,fun g=>a.doors.l.length - g.1⟩:Head {k:Nat // k≤a.doors.l.length})) (⟨0,by omega⟩) zh (by dsimp only;rw [Ze,← Kpe];exact yt _) zAb ?_;rintro ⟨k,hk⟩ junk;try dsimp only
 apply (Xaj);refine q_c ?_ ?_<;>intro hc0;·
  have hd:=Jp (l:=a.doors.l) (k:=k) default za;have hsk:=Jp (l:=s.doors.l) (k:=k) 0 za;have hdk:=ha.door _ _ hd;have hdr:=hdk.1.road;have hrl:=Jwa a s k;obtain ⟨y,hy,hy1,hy2⟩:=Jvb (s:=s) ha (r:=(a.doors.l.getD k default).road.toNat) za k za;have hyb:=Z4 (s:=s) ha (r:=(((a.doors.l.getD k default).road.toNat:Nat):Int)) za k za;have hrb:=U1b hdk.1 (s.doors.l.getD k 0);have hrr:=(ha.mine.road _ _ (Jp (l:=a.mine.roads.l) (k:=(a.doors.l.getD k default).road.toNat) default za)).rest;have hyg:(Ze a s k).getD (a.doors.l.getD k default).road.toNat default=y:=getD_some hy;apply Xa1∘qa3∘Xc7;intro b8;apply qad∘Xcp;refine Ke tb [0,1,2,3,4,5,6,7,8] _ Ko zc ye ?_;refine Ks zrb rfl rfl rfl ?_;apply Xby∘qb5∘qbl;refine q_d rfl (Yre (a.doors.l.getD k default) (s.doors.l.getD k 0) _ _ (hdo.door hd)) ?_;apply (qbr);intro b9;apply qbg∘qb9∘Kjg∘Xcw∘Zhe∘qcv∘qcr∘Xak∘qcj∘Zhe∘qcv∘qba;refine Z3 (v:=Value.int _ _) rfl rfl rfl rfl zC zU (by exact Kya (x':=⟨y.low + (Zm (a.doors.l.getD k default) (s.doors.l.getD k 0)).low,y.high⟩) yf ze zg zb) zb zi ?_;apply (qbu);obtain ⟨y2,hy2e⟩:∃y2:XSpan,y2=⟨y.low + (Zm (a.doors.l.getD k default) (s.doors.l.getD k 0)).low,y.high⟩:=⟨_,rfl⟩;have hy':((Ze a s k).set (a.doors.l.getD k default).road.toNat ⟨y.low + (Zm (a.doors.l.getD k default) (s.doors.l.getD k 0)).low,y.high⟩)[(a.doors.l.getD k default).road.toNat]?=some y2:=by rw [hy2e];exact yH za
  have hy2h:y2.high=y.high:=by rw [hy2e]
  apply Kjg∘Xcw∘Zhe∘qcv∘qcr∘Xak∘qcj∘Zhe∘qcv∘qba;refine Z3 (v:=Value.int _ _) rfl rfl rfl rfl zC zU (by exact Kya (x':=⟨y2.low,y2.high + (Zm (a.doors.l.getD k default) (s.doors.l.getD k 0)).high⟩) yf ze zg zb) zb zi ?_;apply (Xc4);subst hy2e;exact Ka ⟨k + 1,by omega⟩ zm zh (by dsimp only;rw [yLa,Ze];(try dsimp only);rw [hyg];exact zi) zAb zx
 obtain rfl:k=a.doors.l.length:=by omega
 apply qcf∘Xay;refine Jm [(2,.pointer _),(3,.pointer _),(4,.pointer _),(5,.slice _ _ _),(6,.slice _ _ _),(65,.slice _ _ _),(66,.int _ _),(67,.int _ _)] zh fun tq1=>?_;refine Up ([10,11]++rg 67 30) ((⟨fun g=>[(67,.int .i64 ((g.1.1:Nat):Int))],fun g=>⟨b25,g.1.2.flatMap J1b,223⟩ :: ⟨b20,(Ze a s a.doors.l.length).flatMap XSpan.cells,90⟩ :: ⟨b4,[.slice none 0 0,.slice none 0 0],221⟩ :: ⟨b3,s.cells,80⟩ :: ⟨b2,a.cells,32⟩ :: (g.1.2.flatMap (OwL.L 292 XBlow.cells) ++ L),fun _=>R,fun g=>a.fans.l.length - g.1.1⟩:Head {g:Nat×List (OwL XBlow) // g.1≤a.fans.l.length∧MF a s g.1 g.2})) (⟨(0,List.replicate a.mine.roads.l.length OwL.nil),by omega,MF.zero a s⟩) zh (by dsimp only;rw [U4c,← Vtc];exact yt _) zAb ?_;rintro ⟨⟨k,F⟩,hk,hF⟩ junk;try dsimp only
 dsimp only at hk hF;apply (Xaj);refine q_c ?_ ?_<;>intro hc1;·
  have hd:=Jp (l:=a.fans.l) (k:=k) default za;have hsk:=Jp (l:=s.fans.l) (k:=k) 0 za;have hdk:=ha.fan _ _ hd;have hdr:=hdk.1.road;have hFl:=hF.len;have hfl:(a.fans.l.getD k default).road.toNat < F.length:=by omega
  obtain ⟨p,hp⟩:=Kn hfl;have hpk:=hF.ok _ _ hp;have hpl:=Usa (a:=a) (s:=s) (r:=(((a.fans.l.getD k default).road.toNat:Nat):Int)) k;rw [← hpk.2] at hpl;apply Xa1∘qa3∘Xdk;intro b11;apply qad∘Xaz∘Xah∘qa3∘qa7∘Xat;refine q_c ?_ ?_<;>intro hc2;·refine J7 tb [78,79,80] [0,1,2,3,4,5,6,7,8,9,10,11,12,13,14,15] [16,17,18] ([Blk.mk b11 _ _,Blk.mk b25 _ _,Blk.mk b3 _ _]) _ Ko zc zi (by (repeat (first | apply List.Sublist.cons (a:=Blk.mk b25 _ _) | apply List.Sublist.cons_cons));exact yt _) ?_;refine Vd zZc rfl rfl rfl rfl ?_;apply Xc3∘Xcw;refine Ku zKc rfl rfl rfl rfl ?_;apply qcr∘qde∘Xcb∘qc5∘qci;refine Ku (J8 (qs:=[(0,(Value.agg _).cells.toList),(1,(Value.int _ _).cells.toList)]) (out:=[_,_,_,_,_]) tb rfl rfl rfl rfl) rfl rfl rfl rfl ?_;refine Joc znc rfl rfl rfl ?_;rintro v U J ⟨b93,rfl,rfl,hR93⟩;replace hR93:=hR93.symm;subst hR93;apply (Xcd);refine Jzb (Jy (f:=XBlow.cells) (a:=⟨a.fans.l.getD k default,s.fans.l.getD k 0⟩) tb rfl rfl rfl rfl (hpk.1) zj zwb rfl zy) rfl rfl rfl ?_;rintro v U J ⟨o94,rfl,hok94,rfl,rfl⟩;apply (qa1);refine Ks zKc rfl rfl rfl ?_;refine Z3 (v:=Value.slice _ _ _) rfl rfl rfl rfl zC zU (by exact Kya (x':=⟨o94,p.l ++ [⟨a.fans.l.getD k default,s.fans.l.getD k 0⟩]⟩) yf ze zg zb) zb zi ?_;apply (Xc4);exact uaZ
  apply (Xaw);exact uaZ
 obtain rfl:k=a.fans.l.length:=by omega
 apply qbk∘Xce∘qc7;rintro v U J ⟨b101,rfl,rfl,hR101⟩;replace hR101:=hR101.symm;subst hR101;refine Jw (J8 (qs:=[(1,(Value.slice _ _ _).cells.toList)]) (out:=[_,_]) tb rfl rfl rfl rfl) rfl ?_;apply (qaq);intro b12;apply Xa9∘qab∘Xay;refine Jm [(4,.pointer _),(5,.slice _ _ _),(6,.slice _ _ _),(12,.pointer _),(105,.slice _ _ _),(106,.int _ _),(107,.int _ _)] zh fun tq2=>?_;have mem:∀p∈F,∃r:Nat,F[r]?=some p:=fun p hp=>List.mem_iff_getElem?.1 hp;refine Yge (A:=[_,_,_,_,_,_,_]) (wd:=5) (fun b=>b.fan.sl) yf ze (fun p hp=>?okF) (fun p hp x hx=>?subF) fun S hS=>?_;case okF=>obtain ⟨r,hr⟩:=mem p hp;exact (hF.ok r p hr).1
 case subF=>obtain ⟨r,hr⟩:=mem p hp;rw [(hF.ok r p hr).2] at hx;obtain ⟨i,hi⟩:=Vla _ (ym _) x hx;exact hfa.fan hi
 apply (qb1);have hmr2:InR (rsl a.mine.roads) (S ++ R):=hmr.mono fun r h=>Ja (by simp [h]);refine Up ([13,14,15]++rg 107 73) ((⟨fun g=>[(107,.int .i64 ((g.1.1:Nat):Int))],fun g=>⟨b12,[g.1.2.1.val,.slice (some ⟨b101,0,none⟩) a.mine.places.l.length a.mine.places.l.length],221⟩ :: ⟨b101,g.1.2.2.flatMap J1b,40⟩ :: ⟨b25,F.flatMap J1b,223⟩ :: ⟨b20,(Ze a s a.doors.l.length).flatMap XSpan.cells,90⟩ :: ⟨b4,[.slice none 0 0,.slice none 0 0],221⟩ :: ⟨b3,s.cells,80⟩ :: ⟨b2,a.cells,32⟩ :: (g.1.2.1.L 225 XPipe.cells ++ (g.1.2.2.flatMap (OwL.L 3 Jj) ++ L)),fun _=>S ++ R,fun g=>a.mine.roads.l.length - g.1.1⟩:Head {g:Nat×OwL XPipe×List (OwL Int) // g.1≤a.mine.roads.l.length∧MP a s S g.1 g.2.1∧MA a g.1 g.2.2})) (⟨(0,OwL.nil,List.replicate a.mine.places.l.length OwL.nil),by dsimp only;omega,MP.zero a s S,MA.zero a⟩) zh (by dsimp only;rw [Kk,U4c,← Vtc];exact yt _) zAb ?_;rintro ⟨⟨k,P,G⟩,hk,hP,hG⟩ junk;try dsimp only
 dsimp only at hk hP hG;apply (Xaj);refine q_c ?_ ?_<;>intro hc3;·
  have hr:=Jp (l:=a.mine.roads.l) (k:=k) default za;have hro:=ha.mine.road _ _ hr;have hr1:=hro.fr;have hr2:=hro.to;have hr3:=hro.ne;have hrr:=hro.rest;have hGl:=hG.len;have hFl:=hF.len;have hPl:=hP.length;have hol:=V4a a k;have hkF:k < F.length:=by omega
  obtain ⟨fk,hfk⟩:=Kn hkF;have hfk2:=hF.ok _ _ hfk;have hg1:(a.mine.roads.l.getD k default).fr.toNat < G.length:=by omega
  have hg2:(a.mine.roads.l.getD k default).to.toNat < G.length:=by omega
  obtain ⟨p,hp⟩:=Kn hg1;obtain ⟨q,hq⟩:=Kn hg2;have hpk:=hG.ok _ _ hp;have hqk:=hG.ok _ _ hq;have hpl:=Kta a (a.mine.roads.l.getD k default).fr.toNat k;have hql:=Kta a (a.mine.roads.l.getD k default).to.toNat k;rw [← hpk.2] at hpl;rw [← hqk.2] at hql;have hne:(a.mine.roads.l.getD k default).fr.toNat≠(a.mine.roads.l.getD k default).to.toNat:=by omega
  obtain ⟨y,hy,hy1,hy2⟩:=Jvb (s:=s) ha (r:=k) za a.doors.l.length za;have hyb:=Z4 (s:=s) ha (r:=((k:Nat):Int)) za a.doors.l.length za;have hrl:=Jwa a s a.doors.l.length;apply Xa1∘qa3∘qc8∘qaq;intro b14;apply qad∘Xa9∘Xaa∘qaf;refine q_c ?_ ?_<;>intro hc4;·refine K9 (Km (J6 (Jb (Jg ?_))));apply (Xad);exact ual
  apply qbv∘Xab∘Xca;refine J7 tb [117,118,119,120] [0,1,2,3,4,5,6,7,8,9,10,11] [12,13,14] ([Blk.mk b14 _ _,Blk.mk b12 _ _,Blk.mk b101 _ _]) _ Ko zc zi zUa ?_;apply Xc3∘Xc3∘Xak∘Xak;refine Ku zHc rfl rfl rfl rfl ?_;apply qcr∘qbf∘qc9;rintro v U J ⟨b128,rfl,rfl,hR128⟩;replace hR128:=hR128.symm;subst hR128;apply (Xcd);refine Jzb (Jy (f:=Jj) (a:=(P.l.length:Int)) tb rfl rfl rfl rfl (hpk.1) zj zwb rfl zy) rfl rfl rfl ?_;rintro v U J ⟨o129,rfl,hok129,rfl,rfl⟩;apply (qa1);refine Ks zHc rfl rfl rfl ?_;refine Z3 (v:=Value.slice _ _ _) rfl rfl rfl rfl zC zU (by exact Kya (x':=⟨o129,p.l ++ [(P.l.length:Int)]⟩) yf ze zg zb) zb zi ?_;apply (qb9);have hq':(G.set (a.mine.roads.l.getD k default).fr.toNat ⟨o129,p.l ++ [(P.l.length:Int)]⟩)[(a.mine.roads.l.getD k default).to.toNat]?=some q:=by rw [yba hne];exact hq
  refine J7 tb [131,132,133,134] [0,1,2,3,4,5,6,7,8,9,10,11] [12,13,14] ([Blk.mk b14 _ _,Blk.mk b12 _ _,Blk.mk b101 _ _]) _ Ko zc zi zUa ?_;apply Xc3∘Xc3∘Xak∘Xak;refine Ku zIc rfl rfl rfl rfl ?_;apply qcr∘qbf∘qc9;rintro v U J ⟨b142,rfl,rfl,hR142⟩;replace hR142:=hR142.symm;subst hR142;apply (Xcd);refine Jzb (Jy (f:=Jj) (a:=(P.l.length:Int)) tb rfl rfl rfl rfl (hqk.1) zj zwb rfl zy) rfl rfl rfl ?_;rintro v U J ⟨o143,rfl,hok143,rfl,rfl⟩;apply (qa1);refine Ks zIc rfl rfl rfl ?_;refine Z3 (v:=Value.slice _ _ _) rfl rfl rfl rfl zC zU (by exact Kya (x':=⟨o143,q.l ++ [(P.l.length:Int)]⟩) yf ze zg zb) zb zi ?_;apply qb9∘Z5f∘Xdm∘Xdl∘Y5f∘qcv∘qcr∘qcj∘qan∘qan∘qba∘qb6∘qb9∘Z5f∘Xdm∘Xdl∘Y5f∘qcv∘qcr∘qcj∘qan∘qan∘qba∘qb6∘qbu;refine J7 tb [] [0,1,2,3,4,5,6,7,8,9] [10,11,12] ([Blk.mk b14 _ _,Blk.mk b12 _ _,Blk.mk b25 _ _]) _ Ko zc zi yd ?_;apply (Xak);refine Ku zWb rfl rfl rfl rfl ?_;apply qbf∘Xdl∘Y5f∘qcr;refine Ku (J8 (qs:=[(0,(Value.agg _).cells.toList),(1,(Value.int _ _).cells.toList),(2,(Value.slice _ _ _).cells.toList)]) (out:=[_,_,_,_,_,_,_,_,_,_,_,_]) tb rfl rfl rfl rfl) rfl rfl rfl rfl ?_;refine Joc (Ju (qs:=[(0,(Value.agg _).cells.toList)]) (out:=[_,_,_,_,_,_,_,_,_,_,_,_]) tb rfl rfl rfl rfl rfl rfl rfl) rfl rfl rfl ?_;rintro v U J ⟨b176,rfl,rfl,hR176⟩;replace hR176:=hR176.symm;subst hR176;apply (Xcd);refine Jzb (Jy (f:=XPipe.cells) (a:=⟨{ a.mine.roads.l.getD k default with rest:=⟨(a.mine.roads.l.getD k default).rest.low + y.low,(a.mine.roads.l.getD k default).rest.high + y.high⟩ },(k:Int),fk.arr⟩) tb rfl rfl rfl rfl (hP.ok) zj zwb rfl zy) rfl rfl rfl ?_;rintro v U J ⟨o177,rfl,hok177,rfl,rfl⟩;apply qa1∘Xb1∘Xc4;exact ual
 obtain rfl:k=a.mine.roads.l.length:=by omega
 apply (qc3);have hGl:=hG.len;refine Vg (A:=[_,_,_,_,_,_,_]) (wd:=12) (P.l.map XPipe.sl) yf ze hP.ok (fun x hx=>?subP) ?_;case subP=>obtain ⟨p,hp,rfl⟩:=List.mem_map.1 hx;exact (hP.pipe p hp).2.mono fun r h=>Ja (by simp [h])
 apply (qb1);refine K9c (A:=[_,_,_,_,_,_,_]) (wd:=1) yf ze (fun p hp=>?okG) fun S2 hS2=>?_;case okG=>obtain ⟨r,hr⟩:=List.mem_iff_getElem?.1 hp;exact (hG.ok r p hr).1
 apply (qb1);refine Zzb (A:=[_]) (wd:=1) (len:=(G.map OwL.arr).length) (cap:=a.mine.places.l.length) (rows:=(G.map OwL.arr).map Vmf) (subs:=(G.map OwL.arr).map isl) zo zE za (fun r hr=>?w1) ze ?cs1 (fun x hx=>?subG) ?_;case w1=>obtain ⟨y,_,rfl⟩:=List.mem_map.1 hr;rfl
 case cs1=>rw [Kcb,List.flatMap_map,yO (by rw [Ux (wd:=1) (fun _=>rfl)];simp)];rfl
 case subG=>exact zXd
 apply qb1∘qay∘Xcz;refine K2 (U:=L) (J:=Zja P.arr :: Yma ⟨some ⟨b101,0,none⟩,a.mine.places.l.length,G.map OwL.arr⟩ :: R) zQc ?hp ?hL ?hR;case hp=>
  refine ⟨⟨P.arr,⟨some ⟨b101,0,none⟩,a.mine.places.l.length,G.map OwL.arr⟩⟩,?_,⟨hP.nums,fun p hp=>(hP.pipe p hp).1,by simp [hGl],fun v x hx=>?_⟩,rfl,rfl⟩;·simp only [XNet.val, Arr.val, yD, hGl];rfl
  ·dsimp only at hx;exact zee
 case hL=>exact zi
 case hR=>exact fun r hr=>Ja (by simp only [yca,yna] at hr ⊢;rcases hr with h | h | h <;> simp [h])
end Go.Proofs.YtchfclmokpbldaaGreat
end
section
namespace Go.Proofs.YtchfclmokpbldaaGreat
open Go.Aw Go
set_option maxRecDepth 20000
attribute [local irreducible] CJ LJ DJ Tri YV Gives Uq J2 Kj Ut RV J3 OwL.L
def Zpa {a : XAir} {i : Nat} : ∀ {k : Nat}, i ∈ U6 a k ↔ i < k ∧ (a.mine.roads.l.getD i default).closed = false
 | 0=>by simp [U6]
 | k + 1=>by
  have ih:=Zpa (a:=a) (i:=i) (k:=k)
  simp only [U6]
  by_cases hc:(a.mine.roads.l.getD k default).closed=true
  ·rw [if_pos hc, ih]
   constructor
   ·rintro ⟨h1,h2⟩;exact ⟨by omega,h2⟩
   ·rintro ⟨h1, h2⟩
    refine ⟨?_,h2⟩
    rcases yVa (yeb h1) with h | h
    ·exact h
    ·subst h;rw [hc] at h2;cases h2
  ·rw [if_neg hc, yna, ih, ykb]
   constructor
   ·rintro (⟨h1, h2⟩ | rfl)
    ·exact ⟨by omega,h2⟩
    ·exact ⟨by omega,by simpa using hc⟩
   ·rintro ⟨h1, h2⟩
    rcases yVa (yeb h1) with h | h
    ·exact .inl ⟨h,h2⟩
    ·exact .inr h
def NetIs.find {a:XAir} {s:XSetting} {n:XNet} (h:NetIs a s n) {r:Int} (hr:0≤r∧r < a.mine.roads.l.length) (hc:(a.mine.roads.l.getD r.toNat default).closed=false):∃(j:Nat) (p:XPipe),n.pipes.l[j]?=some p∧p.num=r:=by
 have h1:r.toNat∈U6 a a.mine.roads.l.length:=Zpa.2 ⟨by omega,hc⟩;have h2:r∈n.pipes.l.map XPipe.num:=by rw [h.nums];exact List.mem_map.2 ⟨_,h1,by omega⟩
 obtain ⟨p,hp,he⟩:=List.mem_map.1 h2;obtain ⟨j,hj⟩:=List.mem_iff_getElem?.1 hp;exact ⟨j,p,hj,he⟩
def NetIs.open {a:XAir} {s:XSetting} {n:XNet} (h:NetIs a s n) {p:XPipe} (hp:p∈n.pipes.l):(0≤p.num∧p.num < a.mine.roads.l.length)∧(a.mine.roads.l.getD p.num.toNat default).closed=false:=by have h2:p.num∈n.pipes.l.map XPipe.num:=List.mem_map.2 ⟨p,hp,rfl⟩;rw [h.nums] at h2;obtain ⟨i,hi,he⟩:=List.mem_map.1 h2;obtain ⟨h3,h4⟩:=Zpa.1 hi;rw [← he];exact ⟨by omega,by simpa using h4⟩
def NetIs.length {a:XAir} {s:XSetting} {n:XNet} (h:NetIs a s n):n.pipes.l.length≤a.mine.roads.l.length:=by have:=congrArg List.length h.nums;simp only [yD] at this;have:=V4a a a.mine.roads.l.length;omega
def InR.pipe {x:Arr XPipe} {R:LS} (h:InR (Zja x) R) {i:Nat} {p:XPipe} (hi:x.l[i]?=some p):InR p.sl R:=
 h.sub (.deep (List.mem_map.2 ⟨p,yh hi,rfl⟩) .here)
def Zud {a : XAir} {s : XSetting} {x : XState} (h0 : Kx a = 0) (h1 : Uka a s = true) (h2 : ¬ (x.pres.l.length ≠ a.mine.places.l.length ∨ x.flows.l.length ≠ a.mine.roads.l.length)) (h3 : x.pres.l.findSome? Uv = none) (h4 : x.flows.l.findSome? Jjb = none)
 (h5:∀i,i < x.flows.l.length→Y0 a s x i=none) (h6:∀v,v < x.pres.l.length→Yb a x (Yla a x x.flows.l.length) v=none):Z8d a s x=0:=by have e1:(List.range x.flows.l.length).findSome? (Y0 a s x)=none:=List.findSome?_eq_none_iff.2 fun i hi=>h5 i (List.mem_range.1 hi);have e2:(List.range x.pres.l.length).findSome? (Yb a x (Yla a x x.flows.l.length))=none:=List.findSome?_eq_none_iff.2 fun i hi=>h6 i (List.mem_range.1 hi);rw [V9d h0 h1 h2,h3,h4,e1,e2];rfl
def Ykc {l:List Int} (h:l.findSome? Uv=none):∀(i:Nat) (p:Int),l[i]?=some p→-70368744177664≤p∧p≤70368744177664:=fun i p hp=>by
 have:=List.findSome?_eq_none_iff.1 h p (yh hp)
 unfold Uv at this
 split at this
 ·cases this
 ·omega
end Go.Proofs.YtchfclmokpbldaaGreat
end
section
namespace Go.Proofs.YtchfclmokpbldaaGreat
open Go.Aw Go
set_option maxRecDepth 20000
attribute [local irreducible] CJ LJ DJ Tri YV Gives Uq J2 Kj Ut RV J3 OwL.L
structure MadeRoad (fr to:Int) (r:XRoad):Prop where
 fr:r.fr=fr
 to:r.to=to
 len:1≤r.len∧r.len≤400
 area:4≤r.area∧r.area≤30
 closed:r.closed=false
 rest:1≤r.rest.low∧r.rest.low≤r.rest.high∧r.rest.high≤22
 lift:-300≤r.lift.low∧r.lift.low≤r.lift.high∧r.lift.high≤320
def CodesR.mono {x:Arr Int} {R J:LS} (h:CodesR x R) (k:∀r∈R,InR r J):CodesR x J:=⟨h.sl.mono k,h.byte⟩
def Ylc (c:Nat) (x:Arr Int) (k:Nat) (fr to:Int) (R:LS) (hx:CodesR x R) (hk:k≤x.l.length):
 Tri Tryz.prog 105 [.pointer (some ⟨c, 0, none⟩), .int .i64 fr, .int .i64 to].toArray [cblk c x k] R
  (fun v U J=>∃(r:XRoad) (k':Nat),v=r.val∧MadeRoad fr to r∧k'≤x.l.length∧[cblk c x k']=U∧R=J):=by refine Je 42 Tryz.call105 Tryz.func105 rfl rfl rfl ?_;apply (Xd2);intro b6;apply qam∘Xb4∘qa6∘Vnf;rintro v U J ⟨r1,k1,rfl,g1,g1',hk1,rfl,rfl⟩;apply qa6∘Ykf;rintro v U J ⟨r2,k2,rfl,g2,g2',hk2,rfl,rfl⟩;apply qa6∘Ymf;rintro v U J ⟨r3,k3,rfl,g3,g3',g3'',hk3,rfl,rfl⟩;apply qa5∘qa6;refine Jv rfl (Y1b zA hx hk3 za) rfl ?_;rintro v U J ⟨r4,k4,rfl,g4,g4',hk4,rfl,rfl⟩;refine Jw zEc rfl ?_;refine Jw (J8 (qs:=[(0,(Value.int _ _).cells.toList),(1,(Value.int _ _).cells.toList),(2,(Value.int _ _).cells.toList),(3,(Value.int _ _).cells.toList),(4,(Value.bool _).cells.toList),(6,(Value.agg _).cells.toList)]) (out:=[_,_,_,_,_,_,_,_,_,_]) tb rfl rfl rfl rfl) rfl ?_;apply (qaq);intro b7;apply Xcp∘Z7f∘Xdm∘qb3∘Jqg;rintro v U J ⟨r5,k5,rfl,g5,g5',g5'',hk5,rfl,rfl⟩;refine ⟨zi,zt,?_⟩;apply qcj∘qan∘qan∘qba∘qb6∘qb9;have g5q:=g5' za;apply qay∘qa6;refine Jv rfl (Y1b zA hx hk5 za) rfl ?_;rintro v U J ⟨r6,k6,rfl,g6,g6',hk6,rfl,rfl⟩;apply qab∘Xbk∘qa4∘Z7f∘Xdm∘qb3;refine K7 rfl (Yia zA hx hk6 za) rfl rfl ?_;rintro v U J ⟨r7,k7,rfl,g7,g7',g7'',hk7,rfl,rfl⟩;refine ⟨zi,zt,?_⟩;apply qcj∘qan∘qan∘qba∘qb6∘qb9;have g7q:=g7' za;apply (qay);refine Jw zWb rfl ?_;apply (Xbl);refine q_r [cblk c x k7] R (Vs rfl (Jr (row:=[_,_,_,_,_,_,_,_,_,_]) tb rfl rfl rfl zf zb zb)) ?_;exact ⟨⟨fr,to,r1,r2,decide (0 < r3),false,⟨r4,r4 + r5⟩,⟨r6,r6 + r7⟩⟩,k7,rfl,⟨rfl,rfl,⟨g1,g1'⟩,⟨g2,g2'⟩,rfl,by dsimp only;omega,by dsimp only;omega⟩,hk7,rfl,rfl⟩
structure MadeCurve (l:List XPoint):Prop where
 len:1≤l.length∧l.length≤4
 ok:CurveOk l
 top:(l.getD 0 default).pres≤3000
def CurveOk.snoc {l:List XPoint} {p:XPoint} (h:CurveOk l) (hl:1≤l.length) (hp:-1048576≤p.flow∧p.flow≤1048576∧0≤p.pres∧p.pres≤2199023255552) (hs:(l.getD (l.length - 1) default).flow < p.flow∧p.pres≤(l.getD (l.length - 1) default).pres):CurveOk (l ++ [p]):=by
 refine ⟨fun i q hq=>?_,fun i q r hq hr=>?_⟩;·
  rw [yxa] at hq;split at hq;·exact h.pt i q hq
  ·
   rw [ypa] at hq;split at hq;·cases hq;exact hp
   ·cases hq
 ·
  rw [yxa] at hq hr;split at hr;·rename_i h2;rw [if_pos za] at hq;exact h.st i q r hq hr
  ·
   rename_i h2;rw [ypa] at hr;split at hr;·cases hr;rw [if_pos za] at hq;(have e:i=l.length - 1:=by omega);subst e;rw [getD_some hq] at hs;exact hs
   ·cases hr
def Vx {α:Type} {l m:List α} {i:Nat} {d:α} (h:i < l.length):(l ++ m).getD i d=l.getD i d:=by rw [yi,yi,yP h]
def Yk {α:Type} {l:List α} {x d:α} {n:Nat} (h:n=l.length):(l ++ [x]).getD n d=x:=by subst h;rw [yi];simp
structure CurveI (n:Int) (y:OwL XPoint):Prop where
 n:0≤n∧(y.l.length:Int) + n≤4
 len:1≤y.l.length
 cok:CurveOk y.l
 top:(y.l.getD 0 default).pres≤3000
 last:-20≤(y.l.getD (y.l.length - 1) default).flow∧(y.l.getD (y.l.length - 1) default).flow≤40 * (y.l.length:Int)∧0≤(y.l.getD (y.l.length - 1) default).pres∧(y.l.getD (y.l.length - 1) default).pres≤3000
def CurveI.next {n:Int} {y:OwL XPoint} (h:CurveI n y) (hn:0 < n) {a b:Int} (ha:1≤a∧a≤40) (hb:0≤b∧b≤899) {o:Ow} {p:XPoint} (h1:p.flow=(y.l.getD (y.l.length - 1) default).flow + a) (h2:p.pres=max 0 ((y.l.getD (y.l.length - 1) default).pres - b)):CurveI (n - 1) ⟨o,y.l ++ [p]⟩:=by
 have hl:=h.len;have hla:=h.last;have hnn:=h.n;have e1:(y.l ++ [p]).length=y.l.length + 1:=by simp
 have e2:(y.l ++ [p]).getD ((y.l ++ [p]).length - 1) default=p:=Yk za;refine ⟨by dsimp only;omega,by dsimp only;omega,h.cok.snoc hl za za,?_,?_⟩;·dsimp only;rw [Vx za];exact h.top
 ·dsimp only;rw [e2,e1];omega
def V2c (c:Nat) (x:Arr Int) (k:Nat) (R:LS) (hx:CodesR x R) (hk:k≤x.l.length):
 Tri Tryz.prog 179 [.pointer (some ⟨c, 0, none⟩)].toArray [cblk c x k] R
  (fun v U J=>∃(y:Arr XPoint) (k':Nat),v=y.val∧MadeCurve y.l∧k'≤x.l.length∧[cblk c x k']=U∧ptsl y :: R=J):=by
 refine Je 40 Tryz.call179 Tryz.func179 rfl rfl rfl ?_;apply qae∘Xb8∘qa6∘Vnf;rintro v U J ⟨r1,k1,rfl,g1,g1',hk1,rfl,rfl⟩;apply qa6∘Ykf;rintro v U J ⟨r2,k2,rfl,g2,g2',hk2,rfl,rfl⟩;apply qcd∘V4f;rintro v U J ⟨b11,rfl,rfl,hR11⟩;replace hR11:=hR11.symm;subst hR11;apply Xb5∘qa6∘Ymf;rintro v U J ⟨r3,k3,rfl,g3,g3',g3'',hk3,rfl,rfl⟩;apply (Xbq);refine Jm [(0,.pointer _),(3,.slice _ _ _),(4,.int _ _)] zh fun tq0=>?_;have g3q:=g3' za;refine U2 (Ksb (f:=XPoint.cells) (n:=1) [⟨r1,r2⟩] rfl _) ?_;refine q_p ([3,4,5]++rg 14 25) ((⟨fun g=>[(3,g.1.2.2.val),(4,.int .i64 g.1.2.1)],fun g=>g.1.2.2.L 319 XPoint.cells ++ (cblk c x g.1.1 :: []),fun _=>R,fun g=>g.1.2.1.toNat⟩:Head {g:Nat×Int×OwL XPoint // g.1≤x.l.length∧g.2.2.ok 2 XPoint.cells∧CurveI g.2.1 g.2.2})) (⟨(k3,r3,⟨.own b11 1 [],[⟨r1,r2⟩]⟩),hk3,Vva yf rfl ze,⟨by dsimp only;simp only [yx];omega,by simp,⟨fun i q hq=>by (cases i with | zero=>cases hq;dsimp only;omega | succ i=>cases hq),fun i q r hq hr=>by cases hr⟩,by simp;omega,by simp;omega⟩⟩) ?_;rintro ⟨⟨kk,n,y⟩,hkk,hok,hI⟩ junk;try dsimp only
 dsimp only at hkk hok hI;apply Xa6∘Xb6;refine q_c ?_ ?_<;>intro hc0;·have hl:=hI.len;have hnn:=hI.n;have hla:=hI.last;have hgl:=Jp (l:=y.l) (k:=y.l.length - 1) default za;apply qbb∘qbm∘Xap∘qa9;refine Jw (Jo tb (y) _ rfl rfl rfl rfl zg (i:=y.l.length - 1) zk zp) rfl ?_;refine Jw (K2a (row:=[_,_]) tb (y) rfl rfl rfl zj zg yf zg zb zb) rfl ?_;apply (qaq);intro b5;apply qak∘qaf;refine J7 tb [] [0,1,2,3,6,7,8,4,5,9,10,11,12,13] [14,15] ([Blk.mk b5 _ _]) _ Ko zc zi yd ?_;apply Xcw∘qb3∘Xak∘qb3∘Udg;rintro v U J ⟨r4,k4,rfl,g4,g4',hk4,rfl,rfl⟩;refine ⟨zi,zt,?_⟩;apply qcj∘Jqg;rintro v U J ⟨r5,k5,rfl,g5,g5',g5'',hk5,rfl,rfl⟩;refine ⟨zi,zt,?_⟩;apply (qcc);refine Ku zfc rfl rfl rfl rfl ?_;apply qcw∘Zsf;rintro v U J ⟨b37,rfl,rfl,hR37⟩;replace hR37:=hR37.symm;subst hR37;apply (Xcd);refine Jzb (Jy (f:=XPoint.cells) (p:=y) (a:=⟨(y.l.getD (y.l.length - 1) default).flow + r4,max 0 ((y.l.getD (y.l.length - 1) default).pres - r5)⟩) tb rfl rfl rfl rfl (hok) zj zwb rfl zy) rfl rfl rfl ?_;rintro v U J ⟨o38,rfl,hok38,rfl,rfl⟩;apply (qa1);refine Ks (K8 zob) rfl rfl rfl ?_;apply qby∘Xcc;exact q_k ⟨(k5,n - 1,_),hk5,hok38,hI.next hc0 ⟨g4,g4'⟩ ⟨g5,by have:=g5' za;omega⟩ rfl rfl⟩
 apply (qc3);refine Yee [] hok yf ze yg ?_;apply Xcj∘Xci;refine q_r [cblk c x kk] (ptsl y.arr :: R) zhd ?_;exact ⟨y.arr,kk,rfl,⟨⟨hI.len,by have:=hI.n;dsimp only;omega⟩,hI.cok,hI.top⟩,hkk,rfl,rfl⟩
structure MadeDoor (road:Int) (d:XDoor):Prop where
 road:d.road=road
 other:d.other= -1
 len:2≤d.rests.l.length∧d.rests.l.length≤4
 rest:∀(i:Nat) (v:Int),d.rests.l[i]?=some v→0≤v∧v≤900
 falls:K9a d.rests.l d.rests.l.length=true
def Kab {l m : List Int} : ∀ {k : Nat}, k ≤ l.length → K9a (l ++ m) k = K9a l k
 | 0,_=>rfl
 | k + 1,hk=>by
  rw [K9a,K9a,Kab za,Vx za]
  rcases k with _ | k
  ·rfl
  ·rw [Vx za]
structure DoorI (n:Int) (l:List Int):Prop where
 n:0≤n∧(l.length:Int) + n≤4∧2≤(l.length:Int) + n
 len:1≤l.length
 rest:∀(i:Nat) (v:Int),l[i]?=some v→0≤v∧v≤900
 falls:K9a l l.length=true
 last:260 - 60 * (l.length:Int)≤l.getD (l.length - 1) 0
def DoorI.next {n:Int} {l:List Int} (h:DoorI n l) (hn:0 < n) {b v:Int} (hb:1≤b∧b≤60) (hv:v=max 0 (l.getD (l.length - 1) 0 - b)):DoorI (n - 1) (l ++ [v]):=by
 have hl:=h.len;have hnn:=h.n;have hla:=h.last;have hlr:=h.rest _ _ (Jp (l:=l) (k:=l.length - 1) 0 za);have e1:(l ++ [v]).length=l.length + 1:=by simp
 refine ⟨by rw [e1];omega,by omega,fun i w hw=>?_,?_,?_⟩;·
  rw [yxa] at hw;split at hw;·exact h.rest i w hw
  ·
   rw [ypa] at hw;split at hw;·cases hw;omega
   ·cases hw
 ·rw [e1, K9a, Kab (ym _), h.falls, Yk rfl, Vx za];simp only [Bool.true_and,yEb,decide_eq_true_eq];omega
 ·rw [e1, Yk za];omega
def Zbc (c:Nat) (x:Arr Int) (k:Nat) (road:Int) (R:LS) (hx:CodesR x R) (hk:k≤x.l.length):
 Tri Tryz.prog 180 [.pointer (some ⟨c, 0, none⟩), .int .i64 road].toArray [cblk c x k] R
  (fun v U J=>∃(d:XDoor) (k':Nat),v=d.val∧MadeDoor road d∧k'≤x.l.length∧[cblk c x k']=U∧d.sl :: R=J):=by
 refine Je 36 Tryz.call180 Tryz.func180 rfl rfl rfl ?_;apply (Xd2);intro b4;apply Xc8∘qa6∘Vnf;rintro v U J ⟨r1,k1,rfl,g1,g1',hk1,rfl,rfl⟩;apply (qcx);rintro v U J ⟨b10,rfl,rfl,hR10⟩;replace hR10:=hR10.symm;subst hR10;refine Jw zIb rfl ?_;apply (qaq);intro b5;apply Xa9∘qa6∘Ykf;rintro v U J ⟨r2,k2,rfl,g2,g2',hk2,rfl,rfl⟩;apply (Xbq);refine Jm [(0,.pointer _),(4,.pointer _),(5,.pointer _),(6,.int _ _)] zh fun tq0=>?_;refine U2 (congrArg (List.cons _) (Ksb (f:=Jj) (n:=1) [r1] rfl _)) ?_;refine q_p ([6]++rg 14 21) ((⟨fun g=>[(6,.int .i64 g.1.2.1)],fun g=>⟨b5,[.int .i64 road,.int .i64 (-1),g.1.2.2.val],239⟩ :: (g.1.2.2.L 3 Jj ++ (⟨b4,[.int .i64 0,.int .i64 0,.slice none 0 0],239⟩ :: cblk c x g.1.1 :: [])),fun _=>R,fun g=>g.1.2.1.toNat⟩:Head {g:Nat×Int×OwL Int // g.1≤x.l.length∧g.2.2.ok 1 Jj∧DoorI g.2.1 g.2.2.l})) (⟨(k2,r2,⟨.own b10 1 [],[r1]⟩),hk2,Vva yf rfl ze,⟨by dsimp only;simp only [yx];omega,by simp,fun i q hq=>by (cases i with | zero=>cases hq;omega | succ i=>cases hq),rfl,by simp;omega⟩⟩) ?_;rintro ⟨⟨kk,n,y⟩,hkk,hok,hI⟩ junk;try dsimp only
 dsimp only at hkk hok hI;apply Xa6∘Xb6;refine q_c ?_ ?_<;>intro hc0;·have hl:=hI.len;have hnn:=hI.n;have hgl:=Jp (l:=y.l) (k:=y.l.length - 1) 0 za;have hlr:=hI.rest _ _ hgl;refine J5 (Jb (Jq (Ki ?_)));refine J7 tb [] [0,1,2,3,4,5,6,7,8,9,10,11,12,13,14] [15,16,17] ([Blk.mk b5 _ _] ++ (y.L 3 Jj ++ [])) _ Ko zc zi yd ?_;apply Xak∘Xak∘Xak;refine Ku zPb rfl rfl rfl rfl ?_;apply (qcc);refine Ku (Jo tb (y) _ rfl rfl rfl rfl zg (i:=y.l.length - 1) zk zp) rfl rfl rfl rfl ?_;refine Ku (J4 tb (y) rfl rfl rfl zj zg yf zg zb) rfl rfl rfl rfl ?_;apply qb3∘Udg;rintro v U J ⟨r4,k4,rfl,g4,g4',hk4,rfl,rfl⟩;refine ⟨zi,zt,?_⟩;apply (qcc);refine Ku zfc rfl rfl rfl rfl ?_;apply (qc9);rintro v U J ⟨b32,rfl,rfl,hR32⟩;replace hR32:=hR32.symm;subst hR32;apply (Xcd);refine Jzb (Jy (f:=Jj) (p:=y) (a:=max 0 (y.l.getD (y.l.length - 1) 0 - r4)) tb rfl rfl rfl rfl (hok) zj zwb rfl zy) rfl rfl rfl ?_;rintro v U J ⟨o33,rfl,hok33,rfl,rfl⟩;apply qa1∘Xb1∘qby∘Xcc;exact q_k ⟨(k4,n - 1,_),hk4,hok33,hI.next hc0 ⟨g4,g4'⟩ rfl⟩
 apply (qc3);refine Vg (A:=[_]) (wd:=1) [] yf ze hok yg ?_;apply qb1∘qay;refine Jw zrb rfl ?_;apply (Xbl);refine q_r [cblk c x kk] ((y.arr.sl 1 Jj []) :: R) (Vs rfl zsb) ?_;exact ⟨⟨road,-1,y.arr⟩,kk,rfl,⟨rfl,rfl,by have:=hI.n;dsimp only;omega,hI.rest,hI.falls⟩,hkk,rfl,rfl⟩
end Go.Proofs.YtchfclmokpbldaaGreat
end
section
namespace Go.Proofs.YtchfclmokpbldaaGreat
open Go.Aw Go
set_option maxRecDepth 20000
attribute [local irreducible] CJ LJ DJ Tri YV Gives Uq J2 Kj Ut RV J3 OwL.L
def Zbf {c:Nat} {x:Arr Int} {k:Nat} {L:LB} {F:List Value→LB} {R:LS} (hu:USeg c (Yv x k) 168 L F) (hx:CodesR x R) (hk:k≤x.l.length):
 Tri Tryz.prog 179 [.pointer (some ⟨c, 0, none⟩)].toArray L R
  (fun v U J=>∃(y:Arr XPoint) (k':Nat),v=y.val∧MadeCurve y.l∧k'≤x.l.length∧F (Yv x k')=U∧ptsl y :: R=J):=
 (Tri.at1 (Post' := fun v cs' J => ∃ (y : Arr XPoint) (k' : Nat), v = y.val ∧ MadeCurve y.l ∧ k' ≤ x.l.length ∧ cs' = Yv x k' ∧ ptsl y :: R = J) hu (V2c c x k R hx hk)
  (fun v U J ⟨y,k',h1,h2,h5,h6,h7⟩=>⟨_,h6,y,k',h1,h2,h5,rfl,h7⟩)).mono
  (fun v U J ⟨cs',h0,y,k',h1,h2,h5,h6,h7⟩=>⟨y,k',h1,h2,h5,by rw [← h6];exact h0,h7⟩)
def U6g {c:Nat} {x:Arr Int} {k:Nat} {road:Int} {L:LB} {F:List Value→LB} {R:LS} (hu:USeg c (Yv x k) 168 L F) (hx:CodesR x R) (hk:k≤x.l.length):
 Tri Tryz.prog 180 [.pointer (some ⟨c, 0, none⟩), .int .i64 road].toArray L R
  (fun v U J=>∃(d:XDoor) (k':Nat),v=d.val∧MadeDoor road d∧k'≤x.l.length∧F (Yv x k')=U∧d.sl :: R=J):=
 (Tri.at1 (Post' := fun v cs' J => ∃ (d : XDoor) (k' : Nat), v = d.val ∧ MadeDoor road d ∧ k' ≤ x.l.length ∧ cs' = Yv x k' ∧ d.sl :: R = J) hu (Zbc c x k road R hx hk)
  (fun v U J ⟨y,k',h1,h2,h5,h6,h7⟩=>⟨_,h6,y,k',h1,h2,h5,rfl,h7⟩)).mono
  (fun v U J ⟨cs',h0,y,k',h1,h2,h5,h6,h7⟩=>⟨y,k',h1,h2,h5,by rw [← h6];exact h0,h7⟩)
def K1g {c:Nat} {x:Arr Int} {k:Nat} {fr to:Int} {L:LB} {F:List Value→LB} {R:LS} (hu:USeg c (Yv x k) 168 L F) (hx:CodesR x R) (hk:k≤x.l.length):
 Tri Tryz.prog 105 [.pointer (some ⟨c, 0, none⟩), .int .i64 fr, .int .i64 to].toArray L R
  (fun v U J=>∃(r:XRoad) (k':Nat),v=r.val∧MadeRoad fr to r∧k'≤x.l.length∧F (Yv x k')=U∧R=J):=
 (Tri.at1 (Post' := fun v cs' J => ∃ (r : XRoad) (k' : Nat), v = r.val ∧ MadeRoad fr to r ∧ k' ≤ x.l.length ∧ cs' = Yv x k' ∧ R = J) hu (Ylc c x k fr to R hx hk)
  (fun v U J ⟨y,k',h1,h2,h5,h6,h7⟩=>⟨_,h6,y,k',h1,h2,h5,rfl,h7⟩)).mono
  (fun v U J ⟨cs',h0,y,k',h1,h2,h5,h6,h7⟩=>⟨y,k',h1,h2,h5,by rw [← h6];exact h0,h7⟩)
structure FanD (n:Nat) (f:XFan):Prop where
 road:0≤f.road∧f.road < n
 curve:MadeCurve f.curve.l
structure DoorD (n:Nat) (d:XDoor):Prop where
 road:0≤d.road∧d.road < n
 made:MadeDoor d.road d
structure FansD (n:Nat) (m:Int) (fans:List XFan) (sf:List Int):Prop where
 m:0≤m∧(fans.length:Int) + m≤2
 len:sf.length=fans.length
 fan:∀f∈fans,FanD n f
 st:∀s∈sf,0≤s∧s≤2
structure DoorsD (n:Nat) (m:Int) (doors:List XDoor) (sd:List Int):Prop where
 m:0≤m∧(doors.length:Int) + m≤2
 len:sd.length=doors.length
 door:∀d∈doors,DoorD n d
 st:∀(i:Nat) (d:XDoor) (s:Int),doors[i]?=some d→sd[i]?=some s→0≤s∧s < d.rests.l.length
def FansD.next {n:Nat} {m:Int} {fans:List XFan} {sf:List Int} (h:FansD n m fans sf) (hm:0 < m) {f:XFan} (hf:FanD n f) {s:Int} (hs:0≤s∧s≤2):FansD n (m - 1) (fans ++ [f]) (sf ++ [s]):=by
 have:=h.m;refine ⟨by simp only [yl,yx];omega,by simp [h.len],fun g hg=>?_,fun t ht=>?_⟩;·
  rcases List.mem_append.1 hg with hg | hg;·exact h.fan g hg
  ·rw [List.mem_singleton.1 hg];exact hf
 ·
  rcases List.mem_append.1 ht with ht | ht;·exact h.st t ht
  ·rw [List.mem_singleton.1 ht];exact hs
def FansD.zero {n:Nat} {m:Int} {fans:List XFan} {sf:List Int} (h:FansD n m fans sf):FansD n 0 fans sf:=⟨by have:=h.m;omega,h.len,h.fan,h.st⟩
def DoorsD.zero {n:Nat} {m:Int} {doors:List XDoor} {sd:List Int} (h:DoorsD n m doors sd):DoorsD n 0 doors sd:=⟨by have:=h.m;omega,h.len,h.door,h.st⟩
def DoorsD.next {n:Nat} {m:Int} {doors:List XDoor} {sd:List Int} (h:DoorsD n m doors sd) (hm:0 < m) {d:XDoor} (hd:DoorD n d) {s:Int} (hs:0≤s∧s < d.rests.l.length):DoorsD n (m - 1) (doors ++ [d]) (sd ++ [s]):=by
 have:=h.m;refine ⟨by simp only [yl,yx];omega,by simp [h.len],fun g hg=>?_,fun i d' s' h1 h2=>?_⟩;·
  rcases List.mem_append.1 hg with hg | hg;·exact h.door g hg
  ·rw [List.mem_singleton.1 hg];exact hd
 ·
  have hl := h.len;rw [yxa] at h1 h2;split at h1;·rw [if_pos za] at h2;exact h.st i d' s' h1 h2
  ·
   rw [if_neg za] at h2;rw [ypa] at h1 h2;split at h1;·rw [if_pos za] at h2;cases h1;cases h2;exact hs
   ·cases h1
def Zfc (c ab:Nat) (x:Arr Int) (k n rc:Nat) (pv:Value) (ra:Option Addr) (R:LS) (hx:CodesR x R) (hk:k≤x.l.length) (hn:n≤100):
 Tri Tryz.prog 106 [.pointer (some ⟨c, 0, none⟩), .pointer (some ⟨ab, 0, none⟩)].toArray [cblk c x k, ⟨ab, [pv, .slice ra n rc, .slice none 0 0, .slice none 0 0], 32⟩] R
  (fun v U J=>∃(fans:OwL XFan) (doors:OwL XDoor) (sf sd:OwL Int) (k':Nat) (S:LS),v=.agg #[sf.val,sd.val]∧(fans.ok 4 XFan.cells∧doors.ok 3 XDoor.cells∧sf.ok 1 Jj∧sd.ok 1 Jj)∧FansD n 0 fans.l sf.l∧DoorsD n 0 doors.l sd.l∧
   (∀f∈fans.l,InR f.sl S)∧(∀d∈doors.l,InR d.sl S)∧k'≤x.l.length∧
   cblk c x k' :: ⟨ab,[pv,.slice ra n rc,fans.val,doors.val],32⟩ :: (fans.L 278 XFan.cells ++ (doors.L 239 XDoor.cells ++ (sf.L 3 Jj ++ (sd.L 3 Jj ++ []))))=U∧S ++ R=J):=by
 refine Je 88 Tryz.call106 Tryz.func106 rfl rfl rfl ?_;apply (Xd2);intro b4;apply qam∘qaq;intro b5;apply qam∘qa6;refine Jw zQb rfl ?_;apply Xce∘Xar∘qa6;refine Jv rfl (Yia zA hx hk za) rfl ?_;rintro v U J ⟨r1,k1,rfl,g1,g1',g1'',hk1,rfl,rfl⟩;apply (Xbq);refine Jm [(0,.pointer _),(1,.pointer _),(4,.pointer _),(5,.pointer _),(6,.int _ _),(7,.int _ _)] zh fun tq0=>?_;refine Up ([7]++rg 18 34) ((⟨fun g=>[(7,.int .i64 g.1.2.1)],fun g=>⟨b5,[g.1.2.2.2.1.val,.slice none 0 0],80⟩ :: ⟨b4,[.slice none 0 0,.slice none 0 0],80⟩ :: cblk c x g.1.1 :: ⟨ab,[pv,.slice ra n rc,g.1.2.2.1.val,.slice none 0 0],32⟩ :: (g.1.2.2.1.L 278 XFan.cells ++ (g.1.2.2.2.1.L 3 Jj ++ [])),fun g=>g.1.2.2.2.2 ++ R,fun g=>g.1.2.1.toNat⟩:Head {g:Nat×Int×OwL XFan×OwL Int×LS // g.1≤x.l.length∧(∃m,g.2.1≤m∧FansD n m g.2.2.1.l g.2.2.2.1.l)∧(g.2.2.1.ok 4 XFan.cells∧g.2.2.2.1.ok 1 Jj)∧(∀f∈g.2.2.1.l,InR f.sl g.2.2.2.2)})) (⟨(k1,r1,OwL.nil,OwL.nil,[]),hk1,⟨r1,yz _,⟨⟨g1,by have:=g1' za;simp only [yda];omega⟩,rfl,(fun _ h=>by cases h),(fun _ h=>by cases h)⟩⟩,⟨OwL.nil_ok,OwL.nil_ok⟩,(fun _ h=>by cases h)⟩) zh zAa zAb ?_;rintro ⟨⟨kk,m,fans,sf,S⟩,hkk,⟨m',hm',hD⟩,⟨hokf,hoks⟩,hin⟩ junk;try dsimp only
 dsimp only at hkk hm' hD hokf hoks hin;apply Xa6∘qa5∘qah;apply Ui (G:=[_,_]) (j:=2) (cj:=20) rfl rfl zb rfl zmb rfl;·exact zsd
 intro junk3;apply (qaf);refine q_c ?_ ?_<;>intro hc0;·
  have hxs:CodesR x (S ++ R):=hx.mono fun r h=>Ja (by simp [h]);have hml:=hD.m;have hll:=hD.len;refine J5 (Jb (Jq (Ki (Jq ?_))));refine J7 tb [26] [0,1,2,3,4,5,6,8,10,12,7,9,11,13,14,15] [16,17,18,19] ([Blk.mk ab _ _]) _ Ko zc zi yd ?_;refine Vd (Jz zNb) rfl rfl rfl rfl ?_;apply (qb3);refine Ku zQb rfl rfl rfl rfl ?_;apply Xak∘qb3∘qbf;iterate 3 apply (qb3)
  refine K7 rfl (Yia zA hxs hkk za) rfl rfl ?_;rintro v U J ⟨r2,k2,rfl,g2,g2',g2'',hk2,rfl,rfl⟩;refine ⟨zi,zt,?_⟩;refine K7 rfl (Vcf zA hxs hk2 za) rfl rfl ?_;rintro v U J ⟨r3,k3,rfl,hk3,rfl,rfl⟩;refine ⟨zi,zt,?_⟩;refine K7 rfl (Vcf zA hxs hk3 za) rfl rfl ?_;rintro v U J ⟨r4,k4,rfl,hk4,rfl,rfl⟩;refine ⟨zi,zt,?_⟩;refine K7 rfl (Zbf zA hxs hk4) rfl rfl ?_;rintro v U J ⟨y,k5,rfl,hy,hk5,rfl,rfl⟩;refine ⟨zi,zt,?_⟩;have hxs2:CodesR x (ptsl y :: (S ++ R)):=hxs.mono fun r h=>Ja (by simp [h]);refine Ku (J8 (qs:=[(0,(Value.int _ _).cells.toList),(1,(Value.bool _).cells.toList),(2,(Value.bool _).cells.toList),(3,(Value.slice _ _ _).cells.toList)]) (out:=[_,_,_,_]) tb rfl rfl rfl rfl) rfl rfl rfl rfl ?_;refine Joc zBb rfl rfl rfl ?_;rintro v U J ⟨b41,rfl,rfl,hR41⟩;replace hR41:=hR41.symm;subst hR41;apply (Xcd);refine Jzb (Jy (f:=XFan.cells) (p:=fans) (a:=⟨r2,r3,r4,y⟩) tb rfl rfl rfl rfl (hokf) zj zwb rfl zy) rfl rfl rfl ?_;rintro v U J ⟨o42,rfl,hok42,rfl,rfl⟩;apply qa1∘qcb∘Xb1∘qbu;refine J7 tb [] [0,1,2,3,4] [5,6,7] ([Blk.mk b5 _ _]) _ Ko zc zi yd ?_;apply Xak∘qb3;refine K7 rfl (Yia zA hxs2 hk5 za) rfl rfl ?_;rintro v U J ⟨r6,k6,rfl,g6,g6',g6'',hk6,rfl,rfl⟩;refine ⟨zi,zt,?_⟩;apply (qc9);rintro v U J ⟨b49,rfl,rfl,hR49⟩;replace hR49:=hR49.symm;subst hR49;apply (Xcd);refine Jzb (Jy (f:=Jj) (p:=sf) (a:=r6) tb rfl rfl rfl rfl (hoks) zj zwb rfl zy) rfl rfl rfl ?_;rintro v U J ⟨o50,rfl,hok50,rfl,rfl⟩;apply qa1∘Xb1∘qby∘Xcc;have hq2:=g2' za;have hq6:=g6' za;exact q_k ⟨(k6,m - 1,_,_,ptsl y :: S),hk6,⟨m' - 1,by dsimp only;omega,hD.next za ⟨⟨g2,by dsimp only;omega⟩,hy⟩ ⟨g6,by omega⟩⟩,⟨hok42,hok50⟩,(fun f hf=>by rcases List.mem_append.1 hf with h | h;exact (hin f h).mono (fun r hr=>Ja zI);rw [List.mem_singleton.1 h];exact Ja zo)⟩
 refine K9 (Km (Uc (J6 (Jb (Jq (Jq ?_))))));have hx8:CodesR x (S ++ R):=hx.mono fun r h=>Ja (by simp [h]);apply qay∘qa6;refine Jv rfl (Yia zA hx8 hkk za) rfl ?_;rintro v U J ⟨r7,k7,rfl,g7,g7',g7'',hk7,rfl,rfl⟩;apply (Xbq);refine Jm [(0,.pointer _),(1,.pointer _),(4,.pointer _),(5,.pointer _),(6,.int _ _),(8,.int _ _)] zh fun tq1=>?_;refine Up ([8,9]++rg 54 33) ((⟨fun g=>[(8,.int .i64 g.1.2.1)],fun g=>⟨b5,[sf.val,g.1.2.2.2.1.val],80⟩ :: ⟨b4,[.slice none 0 0,.slice none 0 0],80⟩ :: cblk c x g.1.1 :: ⟨ab,[pv,.slice ra n rc,fans.val,g.1.2.2.1.val],32⟩ :: (fans.L 278 XFan.cells ++ (g.1.2.2.1.L 239 XDoor.cells ++ (sf.L 3 Jj ++ (g.1.2.2.2.1.L 3 Jj ++ [])))),fun g=>g.1.2.2.2.2 ++ (S ++ R),fun g=>g.1.2.1.toNat⟩:Head {g:Nat×Int×OwL XDoor×OwL Int×LS // g.1≤x.l.length∧(∃m,g.2.1≤m∧DoorsD n m g.2.2.1.l g.2.2.2.1.l)∧(g.2.2.1.ok 3 XDoor.cells∧g.2.2.2.1.ok 1 Jj)∧(∀d∈g.2.2.1.l,InR d.sl g.2.2.2.2)})) (⟨(k7,r7,OwL.nil,OwL.nil,[]),hk7,⟨r7,yz _,⟨⟨g7,by have:=g7' za;simp only [yda];omega⟩,rfl,(fun _ h=>by cases h),(fun _ _ _ h=>by cases h)⟩⟩,⟨OwL.nil_ok,OwL.nil_ok⟩,(fun _ h=>by cases h)⟩) zh zAa zAb ?_;rintro ⟨⟨kk2,m2,doors,sd,S2⟩,hkk2,⟨m2',hm2',hD2⟩,⟨hokd,hokt⟩,hin2⟩ junk;try dsimp only
 dsimp only at hkk2 hm2' hD2 hokd hokt hin2;apply Xa6∘qa5∘qah;apply Ui (G:=[_,_]) (j:=2) (cj:=56) rfl rfl zb rfl zmb rfl;·exact zsd
 intro junk3;apply (qaf);refine q_c ?_ ?_<;>intro hc1;·have hx2:CodesR x (S2 ++ (S ++ R)):=hx8.mono fun r h=>Ja (by simp only [yna] at h ⊢;exact .inr h);have hml:=hD2.m;have hll:=hD2.len;apply qbb∘qa6∘Xco;refine Jv rfl (Yia zA hx2 hkk2 za) rfl ?_;rintro v U J ⟨r8,k8,rfl,g8,g8',g8'',hk8,rfl,rfl⟩;refine Jv rfl (U6g zA hx2 hk8) rfl ?_;rintro v U J ⟨d,k9,rfl,hd,hk9,rfl,rfl⟩;have hx3:CodesR x (d.sl :: (S2 ++ (S ++ R))):=hx2.mono fun r h=>Ja (yW _ h);apply (qaq);intro b9;apply (Xcp);refine J7 tb [67] [0,1,2,3,4,5,6] [7,8,9,10] (_) _ Ko zc zi yd ?_;refine Vd (Jz zNb) rfl rfl rfl rfl ?_;apply (qb3);refine Ku zQb rfl rfl rfl rfl ?_;apply (Xak);refine Ku zrb rfl rfl rfl rfl ?_;refine Joc zyb rfl rfl rfl ?_;rintro v U J ⟨b73,rfl,rfl,hR73⟩;replace hR73:=hR73.symm;subst hR73;apply (Xcd);refine Jzb (Jy (f:=XDoor.cells) (p:=doors) (a:=d) tb rfl rfl rfl rfl (hokd) zj zwb rfl zy) rfl rfl rfl ?_;rintro v U J ⟨o74,rfl,hok74,rfl,rfl⟩;apply qa1∘qcb∘Xb1∘qbu;refine J7 tb [] [0,1,2,3,4,5,6,7] [8,9,10] ([Blk.mk b9 _ _,Blk.mk b5 _ _]) _ Ko zc zi yd ?_;apply Xak∘qb3∘Xak;refine Ku zPb rfl rfl rfl rfl ?_;refine K7 rfl (Yia zA hx3 hk9 (by have:=hd.len;omega)) rfl rfl ?_;rintro v U J ⟨r10,k10,rfl,g10,g10',g10'',hk10,rfl,rfl⟩;refine ⟨zi,zt,?_⟩;apply (qc9);rintro v U J ⟨b84,rfl,rfl,hR84⟩;replace hR84:=hR84.symm;subst hR84;apply (Xcd);refine Jzb (Jy (f:=Jj) (p:=sd) (a:=r10) tb rfl rfl rfl rfl (hokt) zj zwb rfl zy) rfl rfl rfl ?_;rintro v U J ⟨o85,rfl,hok85,rfl,rfl⟩;apply qa1∘Xb1∘qby∘Xcc;have hq8:=g8' za;have hq10:=g10' (by have:=hd.len;omega);have hdr:=hd.road;exact q_k ⟨(k10,m2 - 1,_,_,d.sl :: S2),hk10,⟨m2' - 1,by dsimp only;omega,hD2.next za ⟨⟨by omega,by omega⟩,by rw [hdr];exact hd⟩ ⟨g10,by omega⟩⟩,⟨hok74,hok85⟩,(fun f hf=>by rcases List.mem_append.1 hf with h | h;exact (hin2 f h).mono (fun r hr=>Ja zI);rw [List.mem_singleton.1 h];exact Ja zo)⟩
 apply qbk∘Xcz;refine K2 (U:=cblk c x kk2 :: ⟨ab,[pv,.slice ra n rc,fans.val,doors.val],32⟩ :: (fans.L 278 XFan.cells ++ (doors.L 239 XDoor.cells ++ (sf.L 3 Jj ++ (sd.L 3 Jj ++ []))))) (J:=(S2 ++ S) ++ R) zQc ?hp ?hL ?hR;case hp=>exact ⟨fans,doors,sf,sd,kk2,S2 ++ S,rfl,⟨hokf,hokd,hoks,hokt⟩,hD.zero,hD2.zero,fun f hf=>(hin f hf).mono (fun r hr=>Ja zI),fun d hd=>(hin2 d hd).mono (fun r hr=>Ja zI),hkk2,rfl,rfl⟩
 case hL=>exact zi
 case hR=>exact fun r hr=>Ja (by rw [yn] at hr;exact hr)
structure DoubtTo (l:List Int) (n:Nat) (m:List Int):Prop where
 len:m.length=n
 val:∀(i:Nat) (v:Int),m[i]?=some v→v= -1∨l[i]?=some v
abbrev Vkc (l m:List Int):Prop:=DoubtTo l l.length m
def DoubtTo.next {l m:List Int} {n:Nat} (h:DoubtTo l n m) {v:Int} (hv:v= -1∨l[n]?=some v):DoubtTo l (n + 1) (m ++ [v]):=by
 have hl:=h.len;refine ⟨by simp [hl],fun i w hw=>?_⟩;rw [yxa] at hw;split at hw;·exact h.val i w hw
 ·
  rw [ypa] at hw;split at hw;·cases hw;(have:i=n:=by omega);rw [this];exact hv
  ·cases hw
def Z0d (c:Nat) (x:Arr Int) (k:Nat) (a:XAir) (s:XSetting) (R:LS) (hx:CodesR x R) (hk:k≤x.l.length) (hs:SetR s R) (h1:s.fans.l.length≤100) (h2:s.doors.l.length≤100):
 Tri Tryz.prog 108 [.pointer (some ⟨c, 0, none⟩), a.val, s.val].toArray [cblk c x k] R
  (fun v U J=>∃(tf td:OwL Int) (k':Nat),v=.agg #[tf.val,td.val]∧(tf.ok 1 Jj∧td.ok 1 Jj)∧Vkc s.fans.l tf.l∧Vkc s.doors.l td.l∧k'≤x.l.length∧cblk c x k' :: (tf.L 3 Jj ++ (td.L 3 Jj ++ []))=U∧R=J):=by
 have hsf:=hs.fans;have hsd:=hs.doors;refine Je 53 Tryz.call108 Tryz.func108 rfl rfl rfl ?_;apply (Xaf);intro b4;apply (qax);intro b5;apply (qaq);intro b6;apply qam∘qaq;intro b7;apply qaw∘Xbq;refine Jm [(0,.pointer _),(5,.pointer _),(6,.pointer _),(7,.pointer _),(8,.int _ _)] zh fun tq0=>?_;refine Up ([8,9]++rg 12 20) ((⟨fun g=>[(8,.int .i64 ((g.1.2.1:Nat):Int))],fun g=>⟨b7,[g.1.2.2.val,.slice none 0 0],80⟩ :: ⟨b6,[.slice none 0 0,.slice none 0 0],80⟩ :: ⟨b5,s.cells,80⟩ :: ⟨b4,a.cells,32⟩ :: cblk c x g.1.1 :: (g.1.2.2.L 3 Jj ++ []),fun _=>R,fun g=>s.fans.l.length - g.1.2.1⟩:Head {g:Nat×Nat×OwL Int // g.1≤x.l.length∧g.2.1≤s.fans.l.length∧g.2.2.ok 1 Jj∧DoubtTo s.fans.l g.2.1 g.2.2.l})) (⟨(k,0,OwL.nil),hk,yS _,OwL.nil_ok,⟨rfl,(fun _ _ h=>by cases h)⟩⟩) zh (by dsimp only;rw [Kk];exact yt _) zAb ?_;rintro ⟨⟨kk,i,tf⟩,hkk,hi,hok,hD⟩ junk;try dsimp only
 dsimp only at hkk hi hok hD;apply Xa6∘Xab∘Xbd;refine q_c ?_ ?_<;>intro hc0;·
  have hsi:=Jp (l:=s.fans.l) (k:=i) 0 za;have hll:=hD.len;apply qbb∘Xah∘qa3∘qa7∘Xar∘qa6;refine Jv rfl (Vcf zA hx hkk za) rfl ?_;rintro v U J ⟨r1,k1,rfl,hk1,rfl,rfl⟩;apply (qaf);refine q_c ?_ ?_<;>intro hc1;·apply qay∘qad;refine J9 (Jb (Jg ?_));exact uas
  refine J5 (Jb (Jg ?_));exact uas
 obtain rfl:i=s.fans.l.length:=by omega
 apply qcf∘Xbq;refine Jm [(0,.pointer _),(5,.pointer _),(6,.pointer _),(7,.pointer _),(10,.int _ _)] zh fun tq1=>?_;refine Up ([10,11]++rg 32 20) ((⟨fun g=>[(10,.int .i64 ((g.1.2.1:Nat):Int))],fun g=>⟨b7,[tf.val,g.1.2.2.val],80⟩ :: ⟨b6,[.slice none 0 0,.slice none 0 0],80⟩ :: ⟨b5,s.cells,80⟩ :: ⟨b4,a.cells,32⟩ :: cblk c x g.1.1 :: (tf.L 3 Jj ++ (g.1.2.2.L 3 Jj ++ [])),fun _=>R,fun g=>s.doors.l.length - g.1.2.1⟩:Head {g:Nat×Nat×OwL Int // g.1≤x.l.length∧g.2.1≤s.doors.l.length∧g.2.2.ok 1 Jj∧DoubtTo s.doors.l g.2.1 g.2.2.l})) (⟨(kk,0,OwL.nil),hkk,yS _,OwL.nil_ok,⟨rfl,(fun _ _ h=>by cases h)⟩⟩) zh (by dsimp only;rw [Kk];exact yt _) zAb ?_;rintro ⟨⟨kk2,j,td⟩,hkk2,hj,hok2,hD2⟩ junk;try dsimp only
 dsimp only at hkk2 hj hok2 hD2;apply Xa6∘Xab∘Xbd;refine q_c ?_ ?_<;>intro hc2;·
  have hsj:=Jp (l:=s.doors.l) (k:=j) 0 za;have hll:=hD2.len;apply qbb∘Xah∘qa3∘qa7∘Xar∘qa6;refine Jv rfl (Vcf zA hx hkk2 za) rfl ?_;rintro v U J ⟨r2,k2,rfl,hk2,rfl,rfl⟩;apply (qaf);refine q_c ?_ ?_<;>intro hc3;·apply qay∘qad;refine J9 (Jb (Jg ?_));exact uar
  refine J5 (Jb (Jg ?_));exact uar
 obtain rfl:j=s.doors.l.length:=by omega
 apply qbk∘Xcz;refine q_r (cblk c x kk2 :: (tf.L 3 Jj ++ (td.L 3 Jj ++ []))) R zQc ?_;exact ⟨tf,td,kk2,rfl,⟨hok,hok2⟩,hD,hD2,hkk2,rfl,rfl⟩
end Go.Proofs.YtchfclmokpbldaaGreat
end
section
namespace Go.Proofs.YtchfclmokpbldaaGreat
open Go.Aw Go
def SubS (x y:XSpan):Prop:=y.low≤x.low∧x.high≤y.high
def SubS.refl (x:XSpan):SubS x x:=⟨yz _,yz _⟩
def Kde (q:Int):0≤q * q:=by
 rcases Int.le_total 0 q with h | h;·exact yQ h h
 ·have := yQ zxc zxc;rwa [Int.neg_mul_neg] at this
def V2a {a b q:Int} (h:a≤b):a * q * q≤b * q * q:=by rw [yDb,yDb];exact yDa h (Kde q)
def V1e {r r' l l':XSpan} (h:SubS r r') (k:SubS l l') (q:Int):SubS (Uuc r l q) (Uuc r' l' q):=by have h1:=V2a (q:=q) h.1;have h2:=V2a (q:=q) h.2;have h3:=k.1;have h4:=k.2;unfold Uuc SubS;split <;> dsimp only <;> omega
def Vfd {l : List Int} : ∀ {k i : Nat}, i < k → Yqb l k ≤ l.getD i 0 ∧ l.getD i 0 ≤ Z2b l k
 | 0,i,h=>absurd h za
 | k + 1,i,h=>by
  simp only [Yqb,Z2b]
  rcases yVa (yeb h) with h' | h'
  ·have:=Vfd (l:=l) h';omega
  ·subst h';omega
def Vid (d:XDoor) (s t:Int):Prop:=t=s∨(t= -1∧-1≤s∧s < d.rests.l.length)
def U8e (s t:Int):Prop:=t=s∨(t= -1∧-1≤s∧s≤2)
def Jfe {d:XDoor} {s t:Int} (h:Vid d s t):SubS (Zm d s) (Zm d t):=by
 rcases h with h | ⟨h1,h2,h3⟩;·rw [h];exact .refl _
 ·
  rw [h1];by_cases hs:s= -1;·rw [hs];exact .refl _
  ·have := Vfd (l := d.rests.l) (k := d.rests.l.length) (i := s.toNat) za;unfold Zm;rw [if_neg za,if_neg hs,if_neg za,if_pos rfl];exact this
def Urd {f:XFan} {s t:Int} (h:U8e s t) (q:Int):SubS (Un f s q) (Un f t q):=by
 rcases h with h | ⟨h1,h2,h3⟩;·rw [h];exact .refl _
 ·
  rw [h1];have key:∀b:Bool,SubS (Yd f.curve.l b q) (Un f (-1) q):=fun b=>by unfold Un SubS;rw [if_neg ze,if_neg ze,if_pos rfl];cases b <;> dsimp only <;> omega
  rw [Un];split;·exact key _
  ·
   split;·exact key _
   ·
    split;·rename_i h;unfold Un;rw [if_neg ze,if_neg ze,if_pos rfl];exact .refl _
    ·unfold Un SubS;rw [if_neg ze,if_neg ze,if_pos rfl];dsimp only;omega
structure SetLess (a:XAir) (s t:XSetting):Prop where
 fan:∀k,k < a.fans.l.length→U8e (s.fans.l.getD k 0) (t.fans.l.getD k 0)
 door:∀k,k < a.doors.l.length→Vid (a.doors.l.getD k default) (s.doors.l.getD k 0) (t.doors.l.getD k 0)
def V8b {a : XAir} {s t : XSetting} (h : SetLess a s t) (r : Int) : ∀ k, k ≤ a.doors.l.length → SubS (Va a s r k) (Va a t r k)
 | 0,_=>.refl _
 | k + 1,hk=>by
  have ih:=V8b h r k za
  have hd:=Jfe (h.door k za)
  unfold SubS at *
  simp only [Va]
  split
  ·dsimp only;omega
  ·exact ih
def U2b {a : XAir} {s t : XSetting} (h : SetLess a s t) (r q : Int) : ∀ k, k ≤ a.fans.l.length → SubS (innerTo a s r q k) (innerTo a t r q k)
 | 0,_=>V1e (V8b h r _ (ym _)) (.refl _) q
 | k + 1,hk=>by
  have ih:=U2b h r q k za
  have hd:=Urd (f:=a.fans.l.getD k default) (h.fan k za) q
  unfold SubS at *
  simp only [innerTo]
  split
  ·dsimp only;omega
  ·exact ih
def J8d {a:XAir} {s t:XSetting} (h:SetLess a s t) (r q:Int):SubS (Ky a s r q) (Ky a t r q):=U2b h r q _ (ym _)
def Y5b (doors : List XDoor) (sd : List Int) (r : Int) : Nat → Int
 | 0=>0
 | k + 1=>if (doors.getD k default).road=r then Y5b doors sd r k + (Zm (doors.getD k default) (sd.getD k 0)).low else Y5b doors sd r k
def fSum (fans : List XFan) (sf : List Int) (r q : Int) : Nat → Int
 | 0=>0
 | k + 1=>if (fans.getD k default).road=r then fSum fans sf r q k + (Un (fans.getD k default) (sf.getD k 0) q).low else fSum fans sf r q k
def Uqb {d:XDoor} {road:Int} (hd:MadeDoor road d) {s:Int} (hs:0≤s∧s < d.rests.l.length):(Zm d s).low=(Zm d s).high∧0≤(Zm d s).low∧(Zm d s).low≤900:=by have hl:=hd.len;have:=hd.rest s.toNat _ (Jp 0 za);unfold Zm;rw [if_neg za,if_neg za];dsimp only;omega
def Z3b {l:List XPoint} (h:MadeCurve l) (q:Int):0≤(V7 l q).low∧(V7 l q).low≤(V7 l q).high∧(V7 l q).high≤3000:=by
 cases l with
 | nil=>simp [V7]
 | cons p rest=>
  have h0:=h.ok.pt 0 p rfl;have ht:=h.top;simp only [List.getD_cons_zero] at ht;unfold V7;dsimp only;split;·dsimp only;omega
  ·have := Zh rest p q h.ok za;omega
def Vea {l:List XPoint} (h:MadeCurve l) (back:Bool) (q:Int):-3000≤(Yd l back q).low∧(Yd l back q).low≤(Yd l back q).high∧(Yd l back q).high≤3000:=by have h1:=Z3b h q;have h2:=Z3b h (-q);unfold Yd U1f;exact ubt
def Jwb {f:XFan} (h:MadeCurve f.curve.l) (s q:Int):-3000≤(Un f s q).low∧(Un f s q).low≤(Un f s q).high∧(Un f s q).high≤3000:=by
 have h1:=Vea h f.back q;have h2:=Vea h (!f.back) q;have h3:=Vea h false q;have h4:=Vea h true q;unfold Un;split;·omega
 ·
  split;·omega
  ·split <;> dsimp only <;> omega
def V1a {n : Nat} {m : Int} {doors : List XDoor} {sd : List Int} (h : DoorsD n m doors sd) (r : Int) : ∀ k, k ≤ doors.length → 0 ≤ Y5b doors sd r k ∧ Y5b doors sd r k ≤ 900 * (k : Int)
 | 0,_=>by simp [Y5b]
 | k + 1,hk=>by
  have ih:=V1a h r k za
  have hl:=h.len
  have hg:=Jp (l:=doors) (k:=k) default za
  have hb:=Uqb (h.door _ (yh hg)).made (h.st k _ _ hg (Jp 0 za))
  simp only [Y5b]
  split <;> omega
def Vza {n : Nat} {m : Int} {fans : List XFan} {sf : List Int} (h : FansD n m fans sf) (r q : Int) : ∀ k, k ≤ fans.length → -3000 * (k : Int) ≤ fSum fans sf r q k ∧ fSum fans sf r q k ≤ 3000 * (k : Int)
 | 0,_=>by simp [fSum]
 | k + 1,hk=>by
  have ih:=Vza h r q k za
  have hg:=Jp (l:=fans) (k:=k) default za
  have hb:=Jwb (h.fan _ (yh hg)).curve (sf.getD k 0) q
  simp only [fSum]
  split <;> omega
def FanD.ok {n:Nat} {f:XFan} (h:FanD n f):FanOk f:=⟨h.road.1,h.curve.len.1,by have:=h.curve.len;omega,h.curve.ok⟩
def DoorD.ok {n:Nat} {d:XDoor} (h:DoorD n d):DoorOk d:=⟨h.road.1,by have:=h.made.len;omega,fun i x hx=>by have:=h.made.rest i x hx;omega,h.made.falls⟩
def Vib (r:XRoad) (e dS fS d q:Int):Int:=(r.rest.low + e + dS) * max q (-q) * q - d - fS
def K2f (dS fS d q:Int) (r r':XRoad):Prop:=
 ∃e u v:Int,(0≤e∧e≤r.rest.high - r.rest.low)∧(0≤u∧u≤29)∧(0≤v∧v≤29)∧r'={ r with lift:=⟨Vib r e dS fS d q - u,Vib r e dS fS d q + v⟩ }
def Ybb {R q:Int} (hR:0≤R∧R≤2000) (hq:-360≤q∧q≤360):(0≤R * max q (-q)∧R * max q (-q)≤720000)∧-259200000≤R * max q (-q) * q∧R * max q (-q) * q≤259200000:=by
 have hm:0≤max q (-q)∧max q (-q)≤360:=by omega
 generalize max q (-q)=m at *;have h1:=yQ hR.1 hm.1;have h2:=yka hR.2 hm.2 hm.1 za;generalize R * m=z at *;refine ⟨by omega,?_⟩;rcases Int.le_total 0 q with h | h;·have h3 := yQ h1 h;have h4:=yka (show z≤720000 by omega) hq.2 h za;omega
 ·have h3 := yQ h1 zxc;have h4:=yka (show z≤720000 by omega) (show -q≤360 by omega) za za;rw [yVb] at h3 h4;omega
def Kjd {R q:Int}:R * max q (-q) * q=if q < 0 then -(R * q * q) else R * q * q:=by
 split;·rw [show max q (-q)= -q by omega,yVb,yJb]
 ·rw [show max q (-q)=q by omega]
def Y0c {a : XAir} {s : XSetting} {n : Nat} {m m' : Int} (hF : FansD n m a.fans.l s.fans.l) (hD : DoorsD n m' a.doors.l s.doors.l) {i : Nat} {r0 : XRoad} {d q : Int} (hr0 : r0.rest.low ≤ r0.rest.high)
 (hfit:K2f (Y5b a.doors.l s.doors.l i a.doors.l.length) (fSum a.fans.l s.fans.l i q a.fans.l.length) d q r0 (a.mine.roads.l.getD i default)):
 (Ky a s i q).low≤d∧d≤(Ky a s i q).high:=by
 obtain ⟨e,u,v,he,hu,hv,hr⟩:=hfit;have hrest:(a.mine.roads.l.getD i default).rest=r0.rest:=by rw [hr]
 have hlift:(a.mine.roads.l.getD i default).lift=⟨Vib r0 e (Y5b a.doors.l s.doors.l i a.doors.l.length) (fSum a.fans.l s.fans.l i q a.fans.l.length) d q - u,Vib r0 e (Y5b a.doors.l s.doors.l i a.doors.l.length) (fSum a.fans.l s.fans.l i q a.fans.l.length) d q + v⟩:=by rw [hr]
 have hdo:∀k,k≤a.doors.l.length→Va a s i k=⟨r0.rest.low + Y5b a.doors.l s.doors.l i k,r0.rest.high + Y5b a.doors.l s.doors.l i k⟩:=by
  intro k;induction k with
  | zero=>intro _;simp only [Va,Y5b,yw,hrest,Int.add_zero]
  | succ k ih=>
   intro hk;have hg:=Jp (l:=a.doors.l) (k:=k) default za;have hl:=hD.len;have hb:=Uqb (hD.door _ (yh hg)).made (hD.st k _ _ hg (Jp 0 za));simp only [Va,Y5b,ih za];split;·rw [← hb.1];simp only [Int.add_assoc]
   ·rfl
 have hfa:∀k,k≤a.fans.l.length→(innerTo a s i q k).low + fSum a.fans.l s.fans.l i q k≤(innerTo a s i q 0).low∧(innerTo a s i q k).high + fSum a.fans.l s.fans.l i q k=(innerTo a s i q 0).high:=by
  intro k;induction k with
  | zero=>intro _;simp only [fSum];omega
  | succ k ih=>
   intro hk;have ih:=ih za;have hg:=Jp (l:=a.fans.l) (k:=k) default za;have hb:=Jwb (hF.fan _ (yh hg)).curve (s.fans.l.getD k 0) q;rw [innerTo.eq_2,fSum.eq_2];split;·dsimp only;omega
   ·exact ih
 have h1:=hfa _ (ym _);have h0:innerTo a s i q 0=Uuc ⟨r0.rest.low + Y5b a.doors.l s.doors.l i a.doors.l.length,r0.rest.high + Y5b a.doors.l s.doors.l i a.doors.l.length⟩ (a.mine.roads.l.getD i default).lift q:=by rw [innerTo,hdo _ (ym _),yw]
 rw [h0,hlift] at h1;unfold Ky;generalize innerTo a s i q a.fans.l.length=I at *;generalize fSum a.fans.l s.fans.l i q a.fans.l.length=fS at *;generalize Y5b a.doors.l s.doors.l i a.doors.l.length=dS at *;unfold Vib at h1;rw [Kjd] at h1;have k1:=V2a (q:=q) (show r0.rest.low + dS≤r0.rest.low + e + dS by omega);have k2:=V2a (q:=q) (show r0.rest.low + e + dS≤r0.rest.high + dS by omega);unfold Uuc at h1;dsimp only at h1;by_cases hq:q < 0;·rw [if_pos hq, if_pos hq] at h1;dsimp only at h1;omega
 ·rw [if_neg hq, if_neg hq] at h1;dsimp only at h1;omega
end Go.Proofs.YtchfclmokpbldaaGreat
end
section
namespace Go.Proofs.YtchfclmokpbldaaGreat
open Go.Aw Go
set_option maxRecDepth 20000
attribute [local irreducible] CJ LJ DJ Tri YV Gives Uq J2 Kj Ut RV J3 OwL.L
structure RoadD (np:Nat) (r:XRoad):Prop where
 fr:0≤r.fr∧r.fr < np
 to:0≤r.to∧r.to < np
 rest:1≤r.rest.low∧r.rest.low≤r.rest.high∧r.rest.high≤22
abbrev Kdb (st:XState) (r:XRoad):Int:=st.pres.l.getD r.fr.toNat 0 - st.pres.l.getD r.to.toNat 0
def Vof (a:XAir) (s:XSetting) (st:XState) (i:Nat) (r r':XRoad):Prop:=
 K2f (Y5b a.doors.l s.doors.l i a.doors.l.length) (fSum a.fans.l s.fans.l i (st.flows.l.getD i 0) a.fans.l.length) (Kdb st r) (st.flows.l.getD i 0) r r'
structure FitI (a:XAir) (s:XSetting) (st:XState) (l0:List XRoad) (i:Nat) (l:List XRoad):Prop where
 len:l.length=l0.length
 done:∀(j:Nat) (r:XRoad),j < i→l0[j]?=some r→∃r',l[j]?=some r'∧Vof a s st j r r'
 todo:∀j,i≤j→l[j]?=l0[j]?
def FitI.next {a:XAir} {s:XSetting} {st:XState} {l0 l:List XRoad} {i:Nat} (h:FitI a s st l0 i l) {r r':XRoad} (hr:l0[i]?=some r) (hf:Vof a s st i r r'):FitI a s st l0 (i + 1) (l.set i r'):=by
 have hi:=(List.getElem?_eq_some_iff.1 hr).1;refine ⟨by simp [h.len],fun j q hj hq=>?_,fun j hj=>?_⟩;·
  rcases yVa (yeb hj) with h' | h';·rw [yba za];exact h.done j q h' hq
  ·subst h';rw [hr] at hq;cases hq;exact ⟨r',yH (by rw [h.len];exact hi),hf⟩
 ·rw [yba za];exact h.todo j za
def U7f (c ab : Nat) (x : Arr Int) (k n : Nat) (pv : Value) (a : XAir) (s : XSetting) (st : XState) (roads : OwL XRoad) (R : LS) (hx : CodesR x R) (hk : k ≤ x.l.length) (hok : roads.ok 10 XRoad.cells)
 (hfa:InR (fsl a.fans) R) (hdo:InR (dsl a.doors) R) (hs:SetR s R) (hst:StateR st R) (hF:FansD n 0 a.fans.l s.fans.l) (hD:DoorsD n 0 a.doors.l s.doors.l) (hq:roads.l.length=st.flows.l.length) (hlen:roads.l.length≤100)
 (hqb:∀(i:Nat) (q:Int),st.flows.l[i]?=some q→-360≤q∧q≤360) (hpb:∀(i:Nat) (p:Int),st.pres.l[i]?=some p→-4000≤p∧p≤4000) (hr:∀(i:Nat) (r:XRoad),roads.l[i]?=some r→RoadD st.pres.l.length r):
 Tri Tryz.prog 107 [.pointer (some ⟨c, 0, none⟩), .pointer (some ⟨ab, 0, none⟩), s.val, st.val].toArray (cblk c x k :: ⟨ab, [pv, roads.val, a.fans.val, a.doors.val], 32⟩ :: (roads.L 157 XRoad.cells ++ [])) R
  (fun v U J=>∃(rl:List XRoad) (k':Nat),v=.tuple #[]∧FitI a s st roads.l roads.l.length rl∧k'≤x.l.length∧cblk c x k' :: ⟨ab,[pv,roads.val,a.fans.val,a.doors.val],32⟩ :: ((⟨roads.o,rl⟩:OwL XRoad).L 157 XRoad.cells ++ [])=U∧R=J):=by
 have hsf:=hs.fans;have hsd:=hs.doors;have hsp:=hst.pres;have hsq:=hst.flows;have hFm:=hF.m;have hFl:=hF.len;have hDm:=hD.m;have hDl:=hD.len;refine Je 166 Tryz.call107 Tryz.func107 rfl rfl rfl ?_;apply (Xaf);intro b6;apply (qax);intro b7;apply qam∘Xbq;refine Jm [(0,.pointer _),(1,.pointer _),(6,.pointer _),(7,.pointer _),(8,.int _ _)] zh fun tq0=>?_;refine q_p (rg 8 158) ((⟨fun g=>[(8,.int .i64 ((g.1.2.1:Nat):Int))],fun g=>⟨b7,st.cells,82⟩ :: ⟨b6,s.cells,80⟩ :: cblk c x g.1.1 :: ⟨ab,[pv,(⟨roads.o,g.1.2.2⟩:OwL XRoad).val,a.fans.val,a.doors.val],32⟩ :: ((⟨roads.o,g.1.2.2⟩:OwL XRoad).L 157 XRoad.cells ++ []),fun _=>R,fun g=>roads.l.length - g.1.2.1⟩:Head {g:Nat×Nat×List XRoad // g.1≤x.l.length∧g.2.1≤roads.l.length∧(⟨roads.o,g.2.2⟩:OwL XRoad).ok 10 XRoad.cells∧FitI a s st roads.l g.2.1 g.2.2})) (⟨(k,0,roads.l),hk,yS _,hok,⟨rfl,(fun _ _ h=>absurd h (Nat.not_lt_zero _)),(fun _ _=>rfl)⟩⟩) ?_;rintro ⟨⟨kk,i,rl⟩,hkk,hi,hokr,hI⟩ junk;try dsimp only
 dsimp only at hkk hi hokr hI;have hrl:=hI.len;apply Xa6∘qa6;refine Jw zQb rfl ?_;apply Xce∘Xbd;refine q_c ?_ ?_<;>intro hc0;·
  have hr0:=Jp (l:=roads.l) (k:=i) default za;obtain ⟨r,hre⟩:∃r,r=roads.l.getD i default:=⟨_,rfl⟩;rw [← hre] at hr0;have hri:rl[i]?=some r:=by rw [hI.todo i (ym _)];exact hr0
  have hrd:=hr i r hr0;have hrr:=hrd.rest;have hrf:=hrd.fr;have hrt:=hrd.to;obtain ⟨q,hqe⟩:∃q,q=st.flows.l.getD i 0:=⟨_,rfl⟩;have hqi:=Jp (l:=st.flows.l) (k:=i) 0 za;rw [← hqe] at hqi;have hqq:=hqb _ _ hqi;have hpf:=Jp (l:=st.pres.l) (k:=r.fr.toNat) 0 za;have hpt:=Jp (l:=st.pres.l) (k:=r.to.toNat) 0 za;have hpfb:=hpb _ _ hpf;have hptb:=hpb _ _ hpt;have hpa:-8000≤Kdb st r∧Kdb st r≤8000:=by dsimp only [Kdb];omega
  apply qbb∘qa6;refine Jw zQb rfl ?_;apply qab∘Xah;refine Jw (Jo tb ((⟨roads.o,rl⟩:OwL XRoad)) _ rfl rfl rfl rfl zg (i:=i) zk zp) rfl ?_;apply qc1∘qam∘Xah∘qa3∘qa7∘Xca;refine Ke tb [0,1,2,3,4,5,6,7,8,9,10,11,12,13,14,15,16,17,18,19,20] ([Blk.mk ab _ _] ++ ((⟨roads.o,rl⟩:OwL XRoad).L 157 XRoad.cells ++ [])) Ko zc zi ?_;apply Xbn∘qce∘qce∘qdf∘qb8∘Xbn∘qce∘qce∘qdf∘Xbn∘qce∘qce∘qdf∘qb7∘qc2;refine Vo rfl (Yia zA hx hkk za) rfl rfl ?_;rintro v U J ⟨e,k1,rfl,g1,g1',g1'',hk1,rfl,rfl⟩;refine ⟨zi,zt,?_⟩;apply qc2∘qcg;refine J1 (Jb (Jq (Jq ?_)));have g1q:=g1' za;apply qay∘Xbq;refine Vw (rg 8 158) zJ [(8,.int _ _),(9,.pointer _),(10,.int _ _),(11,.int _ _),(12,.int _ _)] zh fun tq1=>?_;refine q_s ([11,12]++rg 57 35) (fun g:{g:Nat×Int // g.1≤a.doors.l.length∧g.2=r.rest.low + e + Y5b a.doors.l s.doors.l i g.1}=>[(12,.int .i64 ((g.1.1:Nat):Int)),(11,.int .i64 g.1.2)]) (fun g=>a.doors.l.length - g.1.1) (⟨(0,r.rest.low + e),yS _,(Int.add_zero _).symm⟩) ?_;rintro ⟨⟨kd,rs⟩,hkd,hrs⟩ junk;try dsimp only
  dsimp only at hkd hrs;apply Xa6∘qa6;refine Jw zQb rfl ?_;apply Xab∘Xbd;refine q_c ?_ ?_<;>intro hc1;·
   have hdk:=Jp (l:=a.doors.l) (k:=kd) default za;have hsk:=Jp (l:=s.doors.l) (k:=kd) 0 za;have hdb:=V1a hD i kd za;have hrb:=Uqb (hD.door _ (yh hdk)).made (hD.st kd _ _ hdk hsk);apply qbb∘qa6;refine Jw zQb rfl ?_;apply Xah∘qa3∘Xbc∘qaa∘Xbu;refine q_c ?_ ?_<;>intro hc2;·refine Ke tb [0,1,2,3,4,5,6,7,8,9,10,11,12,13,14,15,16] _ Ko zc ye ?_;apply qao∘Xbn∘Xby∘qb5∘qdv∘Xby∘qb5∘qbl;refine q_d rfl (V9c (a.doors.l.getD kd default) (s.doors.l.getD kd 0) _ _ (hdo.door hdk)) ?_;refine Ks zDc rfl rfl rfl ?_;apply qc2∘qcg∘qby∘Xbw;exact uaz
   apply qbj∘Xbw;exact uaz
  obtain rfl:kd=a.doors.l.length:=by omega
  have hdb:=V1a hD i a.doors.l.length (ym _);have hlb:=Ybb (R:=rs) (q:=q) za hqq;apply (qc3);refine Ke tb [0,1,2,3,4,5,6,7,8,9,10,11,12,13,14,15,16,17,18,19,20,21,22,23,24,25,26] _ Ko zc ye ?_;iterate 3 apply (qao)
  refine Ks (Zha rfl za za) rfl rfl rfl ?_;refine Ks zfc rfl rfl rfl ?_;apply qdh∘qao∘qdh∘Xal∘Xbn∘qce∘qdf;refine Ks (by first | exact Jd tb rfl rfl rfl rfl zu (i:=r.fr.toNat) zk za | exact Jl tb rfl rfl rfl rfl (i:=r.fr.toNat) zk za) rfl rfl rfl ?_;apply qbl∘Xal∘Xbn∘qce∘qdf;refine Ks (by first | exact Jd tb rfl rfl rfl rfl zu (i:=r.to.toNat) zk za | exact Jl tb rfl rfl rfl rfl (i:=r.to.toNat) zk za) rfl rfl rfl ?_;apply qbl∘qb7∘qb7∘qcg∘qc6∘Xbq;refine Vw (rg 8 158) zJ [(8,.int _ _),(9,.pointer _),(10,.int _ _),(13,.int _ _),(14,.int _ _)] zh fun tq2=>?_;refine q_s ([13,14]++rg 118 36) (fun g:{g:Nat×Int // g.1≤a.fans.l.length∧g.2=rs * max q (-q) * q - Kdb st r - fSum a.fans.l s.fans.l i q g.1}=>[(14,.int .i64 ((g.1.1:Nat):Int)),(13,.int .i64 g.1.2)]) (fun g=>a.fans.l.length - g.1.1) (⟨(0,rs * max q (-q) * q - Kdb st r),yS _,(Int.sub_zero _).symm⟩) ?_;rintro ⟨⟨kf,lf⟩,hkf,hlf⟩ junk;try dsimp only
  dsimp only at hkf hlf;apply Xa6∘qa6;refine Jw zQb rfl ?_;apply Xab∘Xbd;refine q_c ?_ ?_<;>intro hc3;·
   have hfk:=Jp (l:=a.fans.l) (k:=kf) default za;have hsk:=Jp (l:=s.fans.l) (k:=kf) 0 za;have hfb:=Vza hF i q kf za;have hfd:=hF.fan _ (yh hfk);have hsb:=Jwb hfd.curve (s.fans.l.getD kf 0) q;have hst2:=hF.st _ (yh hsk);apply qbb∘qa6;refine Jw zQb rfl ?_;apply Xah∘qa3∘Xbc∘qaa∘Xbu;refine q_c ?_ ?_<;>intro hc4;·refine Ke tb [0,1,2,3,4,5,6,7,8,9,10,11,12,13,14,15,16,17] _ Ko zc ye ?_;apply qao∘Xbn∘Xby∘qb5∘qdp∘Xby∘qb5∘qbl∘qao;refine q_d rfl (Ujd (a.fans.l.getD kf default) (s.fans.l.getD kf 0) q _ _ (hfa.fan hfk) hfd.ok za za) ?_;refine Ks zDc rfl rfl rfl ?_;apply qb7∘qcg∘qby∘Xbw;exact uaA
   apply qbj∘Xbw;exact uaA
  obtain rfl:kf=a.fans.l.length:=by omega
  have hfb:=Vza hF i q a.fans.l.length (ym _);refine K9 (Km (Uc (J6 (Jb (Jg ?_)))));apply Xco∘qa6∘Kcg;rintro v U J ⟨u,k2,rfl,g2,g2',g2'',hk2,rfl,rfl⟩;apply qa9∘qaa∘qa6∘Ymf;rintro v U J ⟨w,k3,rfl,g3,g3',g3'',hk3,rfl,rfl⟩;have g2q:=g2' za;apply qar∘qcd;refine Jw zQb rfl ?_;apply (qb0);refine Vk (Uw tb ((⟨roads.o,rl⟩:OwL XRoad)) ({ r with lift:=⟨lf - u,lf + w⟩ }) rfl rfl rfl rfl zj zg yf zg (yR rfl) zb zb) ?_;rintro v U J ⟨rfl,rfl⟩;apply qcs∘Xbw;have g3q:=g3' za;exact Ka ⟨(k3,i + 1,rl.set i { r with lift:=⟨lf - u,lf + w⟩ }),hk3,by dsimp only;omega,OwL.set_ok (p:=⟨roads.o,rl⟩) yf hokr,hI.next hr0 ⟨e,u,w,by omega,by omega,by omega,by rw [Vib,← hrs,← hqe,← hlf]⟩⟩ zm zh (by dsimp only;rw [OwL.set_val];exact zi) zAb zx
 obtain rfl:i=roads.l.length:=by omega
 refine K9 (Km (Uc (J6 ?_)));refine Joa (U:=cblk c x kk :: ⟨ab,[pv,roads.val,a.fans.val,a.doors.val],32⟩ :: ((⟨roads.o,rl⟩:OwL XRoad).L 157 XRoad.cells ++ [])) (J:=R) (Y6f rfl) ?hp ?hL ?hR;case hp=>exact ⟨rl,kk,rfl,hI,hkk,rfl,rfl⟩
 case hL=>
  have e:roads.val=(⟨roads.o,rl⟩:OwL XRoad).val:=by simp only [OwL.val,hrl]
  rw [e];exact zi
 case hR=>exact Jc _
def Y6e {A B : LB} {c ab : Nat} {x : Arr Int} {k n : Nat} {pv : Value} {roads : OwL XRoad} {fans : OwL XFan} {doors : OwL XDoor} {sf sd pres flows : OwL Int} {R : LS} (mine : XMine)
 (hsp:Spl A B (roads.L 157 XRoad.cells ++ (cblk c x k :: ⟨ab,[pv,roads.val,fans.val,doors.val],32⟩ :: [])))
 (b1:InB (fans.L 278 XFan.cells) B) (b2:InB (doors.L 239 XDoor.cells) B) (b3:InB (sf.L 3 Jj) B) (b4:InB (sd.L 3 Jj) B) (b5:InB (pres.L 3 Jj) B) (b6:InB (flows.L 3 Jj) B)
 (o1:fans.ok 4 XFan.cells) (o2:doors.ok 3 XDoor.cells) (o3:sf.ok 1 Jj) (o4:sd.ok 1 Jj) (o5:pres.ok 1 Jj) (o6:flows.ok 1 Jj) (r1:∀f∈fans.l,InR f.sl R) (r2:∀d∈doors.l,InR d.sl R)
 (hx:CodesR x R) (hk:k≤x.l.length) (hok:roads.ok 10 XRoad.cells) (hF:FansD n 0 fans.l sf.l) (hD:DoorsD n 0 doors.l sd.l) (hq:roads.l.length=flows.l.length) (hlen:roads.l.length≤100)
 (hqb:∀(i:Nat) (q:Int),flows.l[i]?=some q→-360≤q∧q≤360) (hpb:∀(i:Nat) (p:Int),pres.l[i]?=some p→-4000≤p∧p≤4000) (hr:∀(i:Nat) (r:XRoad),roads.l[i]?=some r→RoadD pres.l.length r):
 Tri Tryz.prog 107 [.pointer (some ⟨c, 0, none⟩), .pointer (some ⟨ab, 0, none⟩), .agg #[sf.val, sd.val], .agg #[pres.val, flows.val]].toArray A R
  (fun v L'' J=>∃(rl:List XRoad) (k':Nat),v=.tuple #[]∧FitI ⟨mine,fans.arr,doors.arr⟩ ⟨sf.arr,sd.arr⟩ ⟨pres.arr,flows.arr⟩ roads.l roads.l.length rl∧k'≤x.l.length∧
   B ++ (cblk c x k' :: ⟨ab,[pv,roads.val,fans.val,doors.val],32⟩ :: ((⟨roads.o,rl⟩:OwL XRoad).L 157 XRoad.cells ++ []))=L''∧R=J):=by
 have h := U7f c ab x k n pv ⟨mine, fans.arr, doors.arr⟩ ⟨sf.arr, sd.arr⟩ ⟨pres.arr, flows.arr⟩ roads ([fsl fans.arr, dsl doors.arr, isl sf.arr, isl sd.arr, isl pres.arr, isl flows.arr] ++ R) (hx.mono fun r h => Ja (by simp [h])) hk hok
  (Ja zo) (Ja zo) ⟨Ja zo,Ja zo⟩ ⟨Ja zo,Ja zo⟩ hF hD hq hlen hqb hpb hr
 have h2:=Tri.lend (S:=[fsl fans.arr,dsl doors.arr,isl sf.arr,isl sd.arr,isl pres.arr,isl flows.arr]) (Post:=fun v U=>∃(rl:List XRoad) (k':Nat),v=.tuple #[]∧FitI ⟨mine,fans.arr,doors.arr⟩ ⟨sf.arr,sd.arr⟩ ⟨pres.arr,flows.arr⟩ roads.l roads.l.length rl∧k'≤x.l.length∧
  (cblk c x k' :: ⟨ab,[pv,roads.val,fans.val,doors.val],32⟩ :: ((⟨roads.o,rl⟩:OwL XRoad).L 157 XRoad.cells ++ []))=U) hsp (fun w G hh s hs=>?_)
  ((Tri.permL U8g h).mono fun v U J ⟨rl,k',a1,a2,a3,a4,a5⟩=>⟨⟨rl,k',a1,a2,a3,a4⟩,a5⟩)
 ·exact h2.mono fun v L'' J ⟨U,e,⟨rl,k',a1,a2,a3,a4⟩,a5⟩=>⟨rl,k',a1,a2,a3,by rw [← a4] at e;exact e,a5⟩
 ·
  simp only [yca, yY, or_false] at hs;rcases hs with rfl | rfl | rfl | rfl | rfl | rfl;·exact Yw hh b1 o1 yf ze (fun s hs=>by obtain ⟨y,hy,rfl⟩:=List.mem_map.1 hs;exact r1 y hy)
  ·exact Yw hh b2 o2 yf ze (fun s hs=>by obtain ⟨y,hy,rfl⟩:=List.mem_map.1 hs;exact r2 y hy)
  ·exact Yw hh b3 o3 yf ze yg
  ·exact Yw hh b4 o4 yf ze yg
  ·exact Yw hh b5 o5 yf ze yg
  ·exact Yw hh b6 o6 yf ze yg
def U1d {A B : LB} {c : Nat} {x : Arr Int} {k : Nat} {a : XAir} {sf sd : OwL Int} {R : LS} (hsp : Spl A B [cblk c x k]) (b3 : InB (sf.L 3 Jj) B) (b4 : InB (sd.L 3 Jj) B) (o3 : sf.ok 1 Jj) (o4 : sd.ok 1 Jj)
 (hx:CodesR x R) (hk:k≤x.l.length) (h1:sf.l.length≤100) (h2:sd.l.length≤100):
 Tri Tryz.prog 108 [.pointer (some ⟨c, 0, none⟩), a.val, .agg #[sf.val, sd.val]].toArray A R
  (fun v L'' J=>∃(tf td:OwL Int) (k':Nat),v=.agg #[tf.val,td.val]∧(tf.ok 1 Jj∧td.ok 1 Jj)∧Vkc sf.l tf.l∧Vkc sd.l td.l∧k'≤x.l.length∧B ++ (cblk c x k' :: (tf.L 3 Jj ++ (td.L 3 Jj ++ [])))=L''∧R=J):=by
 have h:=Z0d c x k a ⟨sf.arr,sd.arr⟩ ([isl sf.arr,isl sd.arr] ++ R) (hx.mono fun r h=>Ja (by simp [h])) hk ⟨Ja zo,Ja zo⟩ h1 h2;have h2 := Tri.lend (S := [isl sf.arr, isl sd.arr]) (Post := fun v U => ∃ (tf td : OwL Int) (k' : Nat), v = .agg #[tf.val, td.val] ∧ (tf.ok 1 Jj ∧ td.ok 1 Jj) ∧ Vkc sf.l tf.l ∧ Vkc sd.l td.l ∧ k' ≤ x.l.length ∧ cblk c x k' :: (tf.L 3 Jj ++ (td.L 3 Jj ++ [])) = U) hsp (fun w G hh s hs => ?_)
  (h.mono fun v U J ⟨tf,td,k',a1,a2,a3,a4,a5,a6,a7⟩=>⟨⟨tf,td,k',a1,a2,a3,a4,a5,a6⟩,a7⟩)
 ·exact h2.mono fun v L'' J ⟨U,e,⟨tf,td,k',a1,a2,a3,a4,a5,a6⟩,a7⟩=>⟨tf,td,k',a1,a2,a3,a4,a5,by rw [← a6] at e;exact e,a7⟩
 ·
  simp only [yca, yY, or_false] at hs;rcases hs with rfl | rfl;·exact Yw hh b3 o3 yf ze yg
  ·exact Yw hh b4 o4 yf ze yg
end Go.Proofs.YtchfclmokpbldaaGreat
end
section
namespace Go.Proofs.YtchfclmokpbldaaGreat
open Go.Aw Go
def Uy {α β:Type} {f:α→Option β} {l:List α} (h:∀x∈l,f x=none):l.findSome? f=none:=List.findSome?_eq_none_iff.2 h
def Yoc {n:Nat} {r:XRoad} (h:RoadOk n r) (h1:1≤r.len∧r.len≤100000) (h2:1≤r.area∧r.area≤1000):Yr n r=none:=by have a:=h.fr;have b:=h.to;have c:=h.ne;have d:=Khb.2 h.rest;have e:=Khb.2 h.lift;unfold Yr;rw [if_neg za,if_neg (by rw [d,e];simp only [Bool.true_eq_false,or_false];omega)]
def Ysc {m:XMine} (h1:m.places.l.length≤64) (h2:m.roads.l.length≤128) (h3:∀p∈m.places.l,-10000≤p.height∧p.height≤10000) (h4:∀r∈m.roads.l,Yr m.places.l.length r=none):Ul m=0:=by rw [Ul,if_neg za,Uy (fun p hp=>by have:=h3 p hp;unfold Uga;exact if_neg za),Uy h4];rfl
def Knd {f:XFan} (h:FanOk f):Yca f=0:=by
 have a:=h.road;have b:=h.len1;have c:=h.len8;rw [Yca,if_neg za,if_neg za,Uy];·rfl
 ·
  intro i hi;have hi:=List.mem_range.1 hi;obtain ⟨p,hp⟩:=Kn hi;have hpt:=h.ok.pt i p hp;unfold Yg;rw [hp];dsimp only;rw [if_neg za];by_cases h0:i=0;·rw [if_pos h0]
  ·rw [if_neg h0];obtain ⟨q,hq⟩:=Kn (l:=f.curve.l) (k:=i - 1) za;have hst:=h.ok.st (i - 1) q p hq (by rw [show i - 1 + 1=i by omega];exact hp);rw [hq];dsimp only;rw [if_neg za]
def U2c {l:List XDoor} (h1:l.length≤16) (h2:∀d∈l,DoorOk d∧d.other= -1):Vz l=0:=by
 rw [Vz,if_neg za,Uy];·rfl
 ·
  intro i hi;obtain ⟨d,hd⟩:=Kn (List.mem_range.1 hi);obtain ⟨a,b⟩:=h2 d (yh hd);have c:=a.road;have e:=a.len;rw [K4b hd,if_neg za,if_neg za,Uy (fun x hx=>?_)];·dsimp only;rw [if_neg (by rw [a.falls];decide),if_neg (fun h=>h.1 b)]
  ·obtain ⟨j, hj⟩ := List.mem_iff_getElem?.1 hx;have:=a.rest j x hj;unfold Jtb;exact if_neg za
def K4d {a:XAir} (h1:Ul a.mine=0) (h2:a.fans.l.length≤8) (h3:∀f∈a.fans.l,FanOk f∧f.road < a.mine.roads.l.length) (h4:a.doors.l.length≤16) (h5:∀d∈a.doors.l,(DoorOk d∧d.other= -1)∧d.road < a.mine.roads.l.length):Kx a=0:=by
 rw [Yvb h1 za (Uy (fun f hf=>by
  have:=h3 f hf;unfold Kod;rw [if_neg (by rw [Knd this.1];decide),if_neg za])),U2c h4 (fun d hd=>(h5 d hd).1),if_neg ze,Uy (fun d hd=>by
  have:=h5 d hd;unfold Zwb;exact if_neg za)]
 rfl
def Jrd {a:XAir} {s:XSetting} (h:FitOk a s):Uka a s=true:=by
 have h1:=h.lf;have h2:=h.ld;rw [Vtb h1 h2,Uy (fun x hx=>?_),Uy (fun i hi=>?_)];·rfl
 ·have hi := List.mem_range.1 hi;obtain ⟨y,hy⟩:=Kn hi;obtain ⟨d,hd⟩:=Kn (l:=a.doors.l) (k:=i) za;have:=h.door i y d hy hd;rw [Zea hy hd];exact if_neg za
 ·obtain ⟨j, hj⟩ := List.mem_iff_getElem?.1 hx;have:=h.fan j x hj;unfold J9b;exact if_neg za
def Yab {a:XAir} {s:XSetting} (h:Kx a=0) (h':Uka a s=true):Ksc a s=true:=by simp [Ksc,h,h']
structure PlacesD (sh:Nat) (pl:List XPlace):Prop where
 shb:1≤sh∧sh≤2
 len:sh≤pl.length∧pl.length≤sh + 4
 val:∀(i:Nat) (p:XPlace),pl[i]?=some p→(-10000≤p.height∧p.height≤10000)∧p.surface=decide (i < sh)
structure PresD (sh np:Nat) (i:Nat) (pr:List Int):Prop where
 len:pr.length=np
 val:∀(j:Nat) (p:Int),pr[j]?=some p→(-4000≤p∧p≤4000)∧(j < sh∨i≤j→p=0)
def PresD.next {sh np i:Nat} {pr:List Int} (h:PresD sh np i pr) (hi:sh≤i) {p:Int} (hp:-4000≤p∧p≤4000):PresD sh np (i + 1) (pr.set i p):=by
 refine ⟨by simp [h.len],fun j q hq=>?_⟩;rw [yM] at hq;split at hq;·
  rename_i hij;split at hq;·cases hq;exact ⟨hp,fun hj=>by omega⟩
  ·cases hq
 ·have := h.val j q hq;exact ⟨this.1,fun hj=>this.2 za⟩
structure RoadG (np:Nat) (r:XRoad):Prop where
 d:RoadD np r
 ne:r.fr≠r.to
 len:1≤r.len∧r.len≤400
 area:4≤r.area∧r.area≤30
structure RoadsD (np:Nat) (rl:List XRoad) (fl:List Int):Prop where
 len:fl.length=rl.length
 road:∀(i:Nat) (r:XRoad),rl[i]?=some r→RoadG np r
 flow:∀(i:Nat) (q:Int),fl[i]?=some q→-360≤q∧q≤360
 closed:∀(i:Nat) (r:XRoad) (q:Int),rl[i]?=some r→fl[i]?=some q→r.closed=true→q=0
def RoadsD.nil (np:Nat):RoadsD np [] []:=⟨rfl,(fun _ _ h=>by cases h),(fun _ _ h=>by cases h),(fun _ _ _ h=>by cases h)⟩
def RoadsD.next {np:Nat} {rl:List XRoad} {fl:List Int} (h:RoadsD np rl fl) {r:XRoad} {q:Int} (hr:RoadG np r) (hq:-360≤q∧q≤360) (hc:r.closed=true→q=0):RoadsD np (rl ++ [r]) (fl ++ [q]):=by
 have hl:=h.len;have sn:∀{α:Type} {l:List α} {x y:α} {i:Nat},(l ++ [x])[i]?=some y→l[i]?=some y∨(i=l.length∧y=x):=by
  intro α l x y i hi;rw [yxa] at hi;split at hi;·exact .inl hi
  ·
   rw [ypa] at hi;split at hi;·cases hi;exact .inr ⟨by omega,rfl⟩
   ·cases hi
 refine ⟨by simp [hl],fun i s hs=>?_,fun i p hp=>?_,fun i s p hs hp hcl=>?_⟩;·
  rcases sn hs with hs | ⟨_, rfl⟩;·exact h.road i s hs
  ·exact hr
 ·
  rcases sn hp with hp | ⟨_, rfl⟩;·exact h.flow i p hp
  ·exact hq
 ·
  rcases sn hs with hs | ⟨e, rfl⟩;·
   rcases sn hp with hp | ⟨e', _⟩;·exact h.closed i s p hs hp hcl
   ·have := (List.getElem?_eq_some_iff.1 hs).1;omega
  ·
   rcases sn hp with hp | ⟨_, rfl⟩;·have := (List.getElem?_eq_some_iff.1 hp).1;omega
   ·exact hc hcl
def Vba (N:List Int) (r:XRoad) (q:Int):List Int:=
 let l1:=N.set r.fr.toNat (N.getD r.fr.toNat 0 + q)
 l1.set r.to.toNat (l1.getD r.to.toNat 0 - q)
def Kpc (rl : List XRoad) (fl : List Int) (np : Nat) : Nat → List Int
 | 0=>List.replicate np 0
 | k + 1=>Vba (Kpc rl fl np k) (rl.getD k default) (fl.getD k 0)
def Ykd (a : XAir) (x : XState) : ∀ k, Yla a x k = Kpc a.mine.roads.l x.flows.l x.pres.l.length k
 | 0=>rfl
 | k + 1=>by rw [Yla,Ykd a x k];rfl
def Jxc (N:List Int) (r:XRoad) (q:Int):(Vba N r q).length=N.length:=by simp [Vba]
def Vda (rl : List XRoad) (fl : List Int) (np : Nat) : ∀ k, (Kpc rl fl np k).length = np
 | 0=>by simp [Kpc]
 | k + 1=>by rw [Kpc,Jxc,Vda rl fl np k]
def Zxb {rl m : List XRoad} {fl m' : List Int} {np : Nat} (hl : fl.length = rl.length) : ∀ k, k ≤ rl.length → Kpc (rl ++ m) (fl ++ m') np k = Kpc rl fl np k
 | 0,_=>rfl
 | k + 1,hk=>by rw [Kpc,Kpc,Zxb hl k za,Vx za,Vx za]
def Zmb {rl:List XRoad} {fl:List Int} {np:Nat} (hl:fl.length=rl.length) (r:XRoad) (q:Int):Kpc (rl ++ [r]) (fl ++ [q]) np (rl ++ [r]).length=Vba (Kpc rl fl np rl.length) r q:=by rw [yl,yx,Kpc,Zxb hl _ (ym _),Yk rfl,Yk hl.symm]
def K2c {rl rl' : List XRoad} {fl : List Int} {np : Nat} : ∀ k, (∀ i, i < k → (rl'.getD i default).fr = (rl.getD i default).fr ∧ (rl'.getD i default).to = (rl.getD i default).to) → Kpc rl' fl np k = Kpc rl fl np k
 | 0,_=>rfl
 | k + 1,h=>by
  rw [Kpc,Kpc,K2c k (fun i hi=>h i za)]
  have:=h k za
  unfold Vba
  rw [this.1,this.2]
def Vrb {l:List Int} {i j:Nat} {v:Int} (hi:i < l.length):(l.set i v).getD j 0=if i=j then v else l.getD j 0:=by
 rw [yi,yi,yM];by_cases h:i=j;·subst h;simp [hi]
 ·simp [h]
def Jdb {N:List Int} {r:XRoad} {q:Int} {np:Nat} (hN:N.length=np) (hr:RoadG np r) (v:Nat):(Vba N r q).getD v 0=N.getD v 0 + (if r.fr=(v:Int) then q else 0) - (if r.to=(v:Int) then q else 0):=by
 have h1:=hr.d.fr;have h2:=hr.d.to;have h3:=hr.ne;have hne:¬ r.fr.toNat=r.to.toNat:=by omega
 unfold Vba;dsimp only;rw [Vrb zha,Vrb za,if_neg hne,Vrb za];by_cases c1:r.to.toNat=v;·
  have e : r.to = (v : Int) := by omega
  rw [if_pos c1,if_pos e,if_neg za,c1];omega
 ·
  rw [if_neg c1, if_neg (show ¬ r.to = (v : Int) by omega)];by_cases c2:r.fr.toNat=v;·rw [if_pos c2,if_pos (show r.fr=(v:Int) by omega),c2];omega
  ·rw [if_neg c2,if_neg (show ¬ r.fr=(v:Int) by omega)];omega
structure Drawn (np:Nat) (m:Int) (rl:List XRoad) (fl:List Int) (nl:List Int):Prop where
 m:0≤m∧(rl.length:Int) + m≤5
 roads:RoadsD np rl fl
 net:nl=Kpc rl fl np rl.length
 small:∀v,-60 * (rl.length:Int)≤nl.getD v 0∧nl.getD v 0≤60 * (rl.length:Int)
def Drawn.len {np:Nat} {m:Int} {rl:List XRoad} {fl nl:List Int} (h:Drawn np m rl fl nl):nl.length=np:=by rw [h.net];exact Vda _ _ _ _
def Drawn.zero {np:Nat} {m:Int} (hm:0≤m∧m≤5):Drawn np m [] [] (List.replicate np 0):=by
 refine ⟨by simpa using hm,RoadsD.nil np,rfl,fun v=>?_⟩;have:(List.replicate np (0:Int)).getD v 0=0:=by rw [yi,yC];split <;> rfl
 rw [this];simp
def Drawn.next {np:Nat} {m:Int} {rl:List XRoad} {fl nl:List Int} (h:Drawn np m rl fl nl) (hm:0 < m) {r:XRoad} {q:Int} (hr:RoadG np r) (hq:-60≤q∧q≤60) (hc:r.closed=true→q=0):Drawn np (m - 1) (rl ++ [r]) (fl ++ [q]) (Vba nl r q):=by have hmm:=h.m;refine ⟨by simp only [yl,yx];omega,h.roads.next hr za hc,by rw [Zmb h.roads.len,h.net],fun v=>?_⟩;have hv:=h.small v;rw [Jdb h.len hr v];have:=hr.ne;simp only [yl,yx];split <;> split <;> omega
structure Shafted (sh np i:Nat) (net0:List Int) (rl:List XRoad) (fl:List Int):Prop where
 roads:RoadsD np rl fl
 len:rl.length + sh≤5 + i
 done:∀v,sh≤v→v < i→(Kpc rl fl np rl.length).getD v 0=0
 shaft:∀v:Nat,sh≤v→v < i→∃(k:Nat) (r:XRoad),rl[k]?=some r∧r.closed=false∧((r.fr=(v:Int)∧r.to < (sh:Int))∨(r.to=(v:Int)∧r.fr < (sh:Int)))
 todo:∀v,i≤v→(Kpc rl fl np rl.length).getD v 0=net0.getD v 0
def Drawn.shafted {np:Nat} {m:Int} {rl:List XRoad} {fl nl:List Int} (h:Drawn np m rl fl nl) (sh:Nat):Shafted sh np sh nl rl fl:=
 ⟨h.roads,by have:=h.m;omega,fun v h1 h2=>absurd h2 za,fun v h1 h2=>absurd h2 za,fun v _=>by rw [← h.net]⟩
def Shafted.next {sh np i : Nat} {net0 : List Int} {rl : List XRoad} {fl : List Int} (h : Shafted sh np i net0 rl fl) (hi : sh ≤ i) {r : XRoad} {q : Int} (hr : RoadG np r) (hq : -360 ≤ q ∧ q ≤ 360) (hc : r.closed = false)
 (hend:(r.fr=(i:Int)∧r.to < (sh:Int)∧q= -(net0.getD i 0))∨(r.to=(i:Int)∧r.fr < (sh:Int)∧q=net0.getD i 0)):Shafted sh np (i + 1) net0 (rl ++ [r]) (fl ++ [q]):=by
 have hlen:=h.len;refine ⟨h.roads.next hr hq (fun hcl=>by rw [hc] at hcl;cases hcl),by simp only [yl,yx];omega,fun v h1 h2=>?_,fun v h1 h2=>?_,fun v h1=>?_⟩
 rotate_left
 ·
  rcases yVa (yeb h2) with h' | h';·obtain ⟨k, r', k1, k2⟩ := h.shaft v h1 h';exact ⟨k,r',by rw [yP (List.getElem?_eq_some_iff.1 k1).1];exact k1,k2⟩
  ·subst h';exact ⟨rl.length,r,by rw [yZ (ym _)];simp,hc,by rcases hend with h | h;exact .inl ⟨h.1,h.2.1⟩;exact .inr ⟨h.1,h.2.1⟩⟩
 rotate_left
 ·
  rw [Zmb h.roads.len, Jdb (Vda _ _ _ _) hr v];rcases yVa (yeb h2) with h' | h';·rw [h.done v h1 h',if_neg za,if_neg za];rfl
  ·subst h';rw [h.todo v (ym _)];have:=hr.ne;split <;> split <;> omega
 ·rw [Zmb h.roads.len,Jdb (Vda _ _ _ _) hr v,h.todo v za,if_neg za,if_neg za];omega
def Z9a {l m:List Int} (h:Vkc l m) {k:Nat} (hk:k < l.length):m.getD k 0= -1∨m.getD k 0=l.getD k 0:=by
 have:=h.len;have hg:=Jp (l:=m) (k:=k) 0 za;rcases h.val k _ hg with h1 | h1;·exact .inl h1
 ·rw [Jp (l := l) 0 hk] at h1;exact .inr (yG h1).symm
structure MadeA (a:XAir) (t:XSetting) (x:XState):Prop where
 err:Kx a=0
 fit:Uka a t=true
 fits:Z8d a t x=0
 nplaces:1≤a.mine.places.l.length∧a.mine.places.l.length≤6
 nroads:a.mine.roads.l.length≤9
 nfans:a.fans.l.length≤2
 ndoors:a.doors.l.length≤2
 small:∀(i:Nat) (r:XRoad),a.mine.roads.l[i]?=some r→(-260000000≤r.lift.low∧r.lift.high≤260000000)∧r.rest.high≤22
 curve:∀f∈a.fans.l,MadeCurve f.curve.l
 rests:∀d∈a.doors.l,MadeDoor d.road d
 press:∀p∈x.pres.l,-4000≤p∧p≤4000
 surf0:(a.mine.places.l.getD 0 default).surface=true
 shaft:∀v:Nat,v < a.mine.places.l.length→(a.mine.places.l.getD v default).surface=false→∃k u:Nat,k < a.mine.roads.l.length∧(a.mine.places.l.getD u default).surface=true∧(a.mine.roads.l.getD k default).closed=false∧(((a.mine.roads.l.getD k default).fr=(v:Int)∧(a.mine.roads.l.getD k default).to=(u:Int))∨((a.mine.roads.l.getD k default).fr=(u:Int)∧(a.mine.roads.l.getD k default).to=(v:Int)))
def Y5e {sh : Nat} {a : XAir} {s t : XSetting} {x : XState} {rl0 : List XRoad} {net0 : List Int} (hpl : PlacesD sh a.mine.places.l) (hpr : PresD sh a.mine.places.l.length a.mine.places.l.length x.pres.l) (hro : Shafted sh a.mine.places.l.length a.mine.places.l.length net0 rl0 x.flows.l)
 (hF:FansD rl0.length 0 a.fans.l s.fans.l) (hD:DoorsD rl0.length 0 a.doors.l s.doors.l) (hfit:FitI a s x rl0 rl0.length a.mine.roads.l) (htf:Vkc s.fans.l t.fans.l) (htd:Vkc s.doors.l t.doors.l):MadeA a t x:=by
 have hsh:=hpl.shb
 have hpn:=hpl.len
 have hln:=hfit.len
 have hrl:=hro.len
 have hqn:=hro.roads.len
 have hFm:=hF.m
 have hDm:=hD.m
 have hxp:=hpr.len
 -- a road of the air
 have road:∀(i:Nat) (r':XRoad),a.mine.roads.l[i]?=some r'→∃r,rl0[i]?=some r∧RoadG a.mine.places.l.length r∧Vof a s x i r r':=by
  intro i r' hr'
  obtain ⟨hi,_⟩:=List.getElem?_eq_some_iff.1 hr'
  obtain ⟨r,hr⟩:=Kn (l:=rl0) (k:=i) za
  obtain ⟨r2,h2,h3⟩:=hfit.done i r za hr
  rw [hr'] at h2;cases h2
  exact ⟨r,hr,hro.roads.road i r hr,h3⟩
 have presb:∀i:Nat,-4000≤x.pres.l.getD i 0∧x.pres.l.getD i 0≤4000:=fun i=>by
  rcases yk i x.pres.l.length with h | h
  ·exact (hpr.val i _ (Jp 0 h)).1
  ·rw [yi,yu h];simp
 have flowb:∀i:Nat,-360≤x.flows.l.getD i 0∧x.flows.l.getD i 0≤360:=fun i=>by
  rcases yk i x.flows.l.length with h | h
  ·exact hro.roads.flow i _ (Jp 0 h)
  ·rw [yi,yu h];simp
 have ok:∀(i:Nat) (r':XRoad),a.mine.roads.l[i]?=some r'→RoadOk a.mine.places.l.length r'∧(1≤r'.len∧r'.len≤100000)∧(1≤r'.area∧r'.area≤1000)∧(-260000000≤r'.lift.low∧r'.lift.high≤260000000)∧r'.rest.high≤22:=by
  intro i r' hr'
  obtain ⟨r,hr,hg,e,u,v,he,hu,hv,heq⟩:=road i r' hr'
  have h1:=hg.d.rest
  have h2:=hg.len
  have h3:=hg.area
  have b1:=V1a hD i a.doors.l.length (ym _)
  have b2:=Vza hF i (x.flows.l.getD i 0) a.fans.l.length (ym _)
  have b3:=Ybb (R:=r.rest.low + e + Y5b a.doors.l s.doors.l i a.doors.l.length) (q:=x.flows.l.getD i 0) za (flowb i)
  have b4:=presb r.fr.toNat
  have b5:=presb r.to.toNat
  rw [heq]
  refine ⟨⟨hg.d.fr,hg.d.to,hg.ne,⟨h1.1,h1.2.1,by dsimp only;omega⟩,?_⟩,⟨h2.1,by dsimp only;omega⟩,⟨by dsimp only;omega,by dsimp only;omega⟩,?_,h1.2.2⟩
  ·unfold Vib Kdb
   dsimp only
   omega
  ·unfold Vib Kdb
   dsimp only
   omega
 have hme:Ul a.mine=0:=Ysc za za (fun p hp=>by
  obtain ⟨i,hi⟩:=List.mem_iff_getElem?.1 hp
  exact (hpl.val i p hi).1) (fun r hr=>by
  obtain ⟨i,hi⟩:=List.mem_iff_getElem?.1 hr
  obtain ⟨h1,h2,h3,_,_⟩:=ok i r hi
  exact Yoc h1 h2 h3)
 have hae:Kx a=0:=K4d hme za (fun f hf=>⟨(hF.fan f hf).ok,by have:=(hF.fan f hf).road;omega⟩) za (fun d hd=>⟨⟨(hD.door d hd).ok,(hD.door d hd).made.other⟩,by have:=(hD.door d hd).road;omega⟩)
 have hFl:=hF.len
 have hDl:=hD.len
 have ht1:=htf.len
 have ht2:=htd.len
 have less:SetLess a s t:=by
  refine ⟨fun k hk=>?_,fun k hk=>?_⟩
  ·have h1 := hF.st _ (yh (Jp (l := s.fans.l) (k := k) 0 za))
   rcases Z9a htf (k:=k) za with h | h
   ·exact .inr ⟨h,by omega,by omega⟩
   ·exact .inl h
  ·have h1 := hD.st k _ _ (Jp (l := a.doors.l) (k := k) default hk) (Jp (l := s.doors.l) (k := k) 0 za)
   rcases Z9a htd (k:=k) za with h | h
   ·exact .inr ⟨h,by omega,by omega⟩
   ·exact .inl h
 have hfb:Uka a t=true:=Jrd ⟨by omega,by omega,fun i y hy=>by
  obtain ⟨hi,_⟩:=List.getElem?_eq_some_iff.1 hy
  have h1:=hF.st _ (yh (Jp (l:=s.fans.l) (k:=i) 0 za))
  rcases htf.val i y hy with h | h
  ·omega
  ·rw [Jp (l := s.fans.l) 0 (show i < s.fans.l.length by omega)] at h
   rw [← yG h];omega,fun i y d hy hd=>by
  obtain ⟨hi,_⟩:=List.getElem?_eq_some_iff.1 hy
  have h1:=hD.st i d _ hd (Jp (l:=s.doors.l) (k:=i) 0 za)
  have h2:=(hD.door d (yh hd)).made.len
  rcases htd.val i y hy with h | h
  ·omega
  ·rw [Jp (l := s.doors.l) 0 (show i < s.doors.l.length by omega)] at h
   rw [← yG h];omega⟩
 have hnet:Yla a x x.flows.l.length=Kpc rl0 x.flows.l a.mine.places.l.length rl0.length:=by
  rw [Ykd,hxp,hqn]
  refine K2c _ (fun i hi=>?_)
  obtain ⟨r,hr,_,e,u,v,_,_,_,heq⟩:=road i _ (Jp (l:=a.mine.roads.l) (k:=i) default za)
  rw [getD_some hr,heq]
  exact ⟨rfl,rfl⟩
 refine ⟨hae,hfb,?_,by omega,by omega,by omega,by omega,fun i r hr=>(ok i r hr).2.2.2,fun f hf=>(hF.fan f hf).curve,fun d hd=>(hD.door d hd).made,fun p hp=>by obtain ⟨i,hi⟩:=List.mem_iff_getElem?.1 hp;exact (hpr.val i p hi).1,?_,fun v hv hs=>?_⟩
 rotate_left
 ·have hg := Jp (l := a.mine.places.l) (k := 0) default za
  rw [(hpl.val 0 _ hg).2]
  exact decide_eq_true za
 ·have hg := Jp (l := a.mine.places.l) (k := v) default hv
  have hsv:=(hpl.val v _ hg).2
  rw [hs] at hsv
  obtain ⟨k,r,k1,k2,k3⟩:=hro.shaft v (by have:=of_decide_eq_false hsv.symm;omega) hv
  have hkl:=(List.getElem?_eq_some_iff.1 k1).1
  obtain ⟨r2,h2,_,e,u,w,_,_,_,heq⟩:=road k _ (Jp (l:=a.mine.roads.l) (k:=k) default za)
  rw [k1] at h2
  cases h2
  have hrg:=(hro.roads.road k r k1).d
  have hrf:=hrg.fr
  have hrt:=hrg.to
  have surf:∀u:Nat,u < sh→(a.mine.places.l.getD u default).surface=true:=fun u hu=>by
   rw [(hpl.val u _ zoc).2];exact decide_eq_true hu
  rcases k3 with ⟨e1,e2⟩ | ⟨e1,e2⟩
  ·exact ⟨k,r.to.toNat,by omega,surf _ za,by rw [heq];exact k2,.inl ⟨by rw [heq];exact e1,by rw [heq];show r.to=_;omega⟩⟩
  ·exact ⟨k,r.fr.toNat,by omega,surf _ za,by rw [heq];exact k2,.inr ⟨by rw [heq];show r.fr=_;omega,by rw [heq];exact e1⟩⟩
 refine Zud hae hfb za (Uy (fun p hp=>?_)) (Uy (fun q hq=>?_)) (fun i hi=>?_) (fun v hv=>?_)
 ·obtain ⟨j, hj⟩ := List.mem_iff_getElem?.1 hp
  have:=(hpr.val j p hj).1
  exact if_neg za
 ·obtain ⟨j, hj⟩ := List.mem_iff_getElem?.1 hq
  have:=hro.roads.flow j q hj
  exact if_neg za
 ·have hg := Jp (l := a.mine.roads.l) (k := i) default za
  obtain ⟨r,hr,hgr,hft⟩:=road i _ hg
  have hin:=Y0c hF hD (hgr.d.rest.2.1) hft
  have hls:=J8d less (i:Int) (x.flows.l.getD i 0)
  have hcl:=hro.roads.closed i r _ hr (Jp (l:=x.flows.l) (k:=i) 0 za)
  have e1:(a.mine.roads.l.getD i default).fr=r.fr∧(a.mine.roads.l.getD i default).to=r.to∧(a.mine.roads.l.getD i default).closed=r.closed:=by
   obtain ⟨e,u,v,_,_,_,heq⟩:=hft
   rw [heq];exact ⟨rfl,rfl,rfl⟩
  unfold Y0
  dsimp only
  rw [e1.1,e1.2.1,e1.2.2]
  refine if_neg ?_
  have h1:=hls.1
  have h2:=hls.2
  dsimp only [Kdb] at hin
  rintro (⟨h3,h4⟩ | ⟨_,h4⟩)
  ·exact h4 (hcl h3)
  ·omega
 ·rw [hxp] at hv
  obtain ⟨p,hp⟩:=Kn (l:=a.mine.places.l) (k:=v) hv
  have h1:=(hpl.val v p hp).2
  have h2:=hpr.val v _ (Jp (l:=x.pres.l) (k:=v) 0 za)
  unfold Yb
  rw [hnet,getD_some hp,h1]
  refine if_neg ?_
  rintro (⟨h3,h4⟩ | ⟨h3,h4⟩)
  ·exact h4 (h2.2 (.inl (by simpa using h3)))
  ·exact h4 (hro.done v (by simpa using h3) za)
end Go.Proofs.YtchfclmokpbldaaGreat
end
section
namespace Go.Proofs.YtchfclmokpbldaaGreat
open Go.Aw Go
set_option maxRecDepth 20000
attribute [local irreducible] CJ LJ DJ Tri YV Gives Uq J2 Kj Ut RV J3 OwL.L
structure MadeO where
 places:OwL XPlace
 roads:OwL XRoad
 fans:OwL XFan
 doors:OwL XDoor
 tf:OwL Int
 td:OwL Int
 pres:OwL Int
 flows:OwL Int
abbrev MadeO.a (m:MadeO):XAir:=⟨⟨m.places.arr,m.roads.arr⟩,m.fans.arr,m.doors.arr⟩
abbrev MadeO.t (m:MadeO):XSetting:=⟨m.tf.arr,m.td.arr⟩
abbrev MadeO.x (m:MadeO):XState:=⟨m.pres.arr,m.flows.arr⟩
abbrev MadeO.L (m:MadeO) (cb:Blk):LB:=
 m.pres.L 3 Jj ++ (m.places.L 159 XPlace.cells ++ (m.flows.L 3 Jj ++ (m.fans.L 278 XFan.cells ++ (m.doors.L 239 XDoor.cells ++ (m.roads.L 157 XRoad.cells ++ (cb :: (m.tf.L 3 Jj ++ (m.td.L 3 Jj ++ []))))))))
structure MadeO.Ok (m:MadeO):Prop where
 places:m.places.ok 2 XPlace.cells
 roads:m.roads.ok 10 XRoad.cells
 fans:m.fans.ok 4 XFan.cells
 doors:m.doors.ok 3 XDoor.cells
 tf:m.tf.ok 1 Jj
 td:m.td.ok 1 Jj
 pres:m.pres.ok 1 Jj
 flows:m.flows.ok 1 Jj
def PlacesD.snoc {sh:Nat} {pl:List XPlace} (h:PlacesD sh pl) (hl:pl.length < sh + 4) {z:Int} (hz:0≤z∧z≤99):PlacesD sh (pl ++ [⟨-z,false⟩]):=by
 have:=h.len;refine ⟨h.shb,by simp only [yl,yx];omega,fun i p hp=>?_⟩;rw [yxa] at hp;split at hp;·exact h.val i p hp
 ·
  rw [ypa] at hp;split at hp;·cases hp;refine ⟨by dsimp only;omega,?_⟩;dsimp only;symm;rw [decide_eq_false_iff_not];omega
  ·cases hp
def Kae {n f j:Int} (hf:0≤f∧f < n) (hj:0≤j∧j < n - 1):0≤(f + 1 + j).tmod n∧(f + 1 + j).tmod n < n∧f≠(f + 1 + j).tmod n:=by
 rw [ypb za];have h1:=yAb (f + 1 + j) (show n≠0 by omega);have h2:=Int.emod_lt_of_pos (f + 1 + j) (show 0 < n by omega);refine ⟨h1,h2,?_⟩;rcases yla (f + 1 + j) n with h | h;·rw [Int.emod_eq_of_lt za h];omega
 ·
  have:(f + 1 + j) % n=f + 1 + j - n:=by (have e:f + 1 + j=(f + 1 + j - n) + n:=by omega);rw [e,Int.add_emod_right,Int.emod_eq_of_lt za za];omega
  omega
def Kif (c:Nat) (x:Arr Int) (k:Nat) (R:LS) (hx:CodesR x R) (hk:k≤x.l.length):
 Tri Tryz.prog 39 [.pointer (some ⟨c, 0, none⟩)].toArray [cblk c x k] R
  (fun v U J=>∃(m:MadeO) (k':Nat) (S:LS),v=.tuple #[m.a.val,m.t.val,m.x.val]∧m.Ok∧MadeA m.a m.t m.x∧(∀f∈m.fans.l,InR f.sl S)∧(∀d∈m.doors.l,InR d.sl S)∧k'≤x.l.length∧m.L (cblk c x k')=U∧S ++ R=J):=by
 refine Je 189 Tryz.call39 Tryz.func39 rfl rfl rfl ?_;apply (Xd2);intro b2;apply (qaq);intro b3;apply (qaq);intro b4;apply (qam);refine Jw zac rfl ?_;apply (V4f);rintro v U J ⟨b21,rfl,rfl,hR21⟩;replace hR21:=hR21.symm;subst hR21;apply (Vgf);refine Jw zYb rfl ?_;apply (qaq);intro b5;apply qak∘qco;refine Vrf (yEa (l₁:=[_,_,_,_,_]) (l₂:=[_])) ?_;refine U2 (congrArg (List.cons _) (congrArg (List.cons _) (Ksb (f:=XPlace.cells) (n:=1) [⟨0,true⟩] rfl _))) ?_;apply qay∘qa6;refine Jv rfl (Vcf zA hx hk za) rfl ?_;rintro v U J ⟨r1,k1,rfl,hk1,rfl,rfl⟩;apply (qaf);refine Vq (rg 26 8) ((⟨fun g=>[],fun g=>cblk c x k1 :: ⟨b5,[g.1.1.val,.slice none 0 0,.slice none 0 0,.slice none 0 0],32⟩ :: (g.1.1.L 159 XPlace.cells ++ (⟨b4,[.slice none 0 0,.slice none 0 0],82⟩ :: ⟨b3,[.slice none 0 0,.slice none 0 0],80⟩ :: ⟨b2,[.slice none 0 0,.slice none 0 0,.slice none 0 0,.slice none 0 0],32⟩ :: [])),fun _=>R,fun _=>0⟩:Head {g:OwL XPlace×Unit // g.1.ok 2 XPlace.cells∧g.1.l.length≤2∧PlacesD g.1.l.length g.1.l})) ?_ ?_;·
  skip
  refine q_c ?_ ?_<;>intro hc0;·apply qay∘Xdc;refine Jw (J8 (qs:=[(1,(Value.bool _).cells.toList),(0,(Value.int _ _).cells.toList)]) (out:=[_,_]) tb rfl rfl rfl rfl) rfl ?_;apply (V4f);rintro v U J ⟨b30,rfl,rfl,hR30⟩;replace hR30:=hR30.symm;subst hR30;refine Za (Jy (f:=XPlace.cells) (p:=⟨.own b21 1 [],[⟨0,true⟩]⟩) (a:=⟨10,true⟩) tb rfl rfl rfl rfl (Vva yf rfl ze) zj zwb rfl zy) rfl ?_;rintro v U J ⟨o31,rfl,hok31,rfl,rfl⟩;apply qab∘Xbo∘qav;exact q_j ⟨(⟨o31,_⟩,()),hok31,by simp,⟨by simp,by simp,fun i p hp=>by (cases i with | zero=>cases hp;exact ⟨by decide,rfl⟩ | succ i=>(cases i with | zero=>cases hp;exact ⟨by decide,rfl⟩ | succ i=>cases hp))⟩⟩
  refine J5 ?_;exact q_j ⟨(⟨.own b21 1 [],[⟨0,true⟩]⟩,()),Vva yf rfl ze,by simp,⟨by simp,by simp,fun i p hp=>by (cases i with | zero=>cases hp;exact ⟨by decide,rfl⟩ | succ i=>cases hp)⟩⟩
 rintro ⟨⟨pl0,_⟩,hok0,hl0,hP0⟩ junk;try dsimp only
 dsimp only at hok0 hl0 hP0;apply qae∘Xce∘Xar∘qa6∘Kcg;rintro v U J ⟨r2,k2,rfl,g2,g2',g2'',hk2,rfl,rfl⟩;apply (Xbq);refine Jm [(0,.pointer _),(2,.pointer _),(3,.pointer _),(4,.pointer _),(5,.pointer _),(6,.int _ _),(7,.int _ _)] zh fun tq0=>?_;have g2q:=g2' za;refine q_p ([7]++rg 40 15) ((⟨fun g=>[(7,.int .i64 g.1.2.1)],fun g=>cblk c x g.1.1 :: ⟨b5,[g.1.2.2.val,.slice none 0 0,.slice none 0 0,.slice none 0 0],32⟩ :: (g.1.2.2.L 159 XPlace.cells ++ (⟨b4,[.slice none 0 0,.slice none 0 0],82⟩ :: ⟨b3,[.slice none 0 0,.slice none 0 0],80⟩ :: ⟨b2,[.slice none 0 0,.slice none 0 0,.slice none 0 0,.slice none 0 0],32⟩ ::  [])),fun _=>R,fun g=>g.1.2.1.toNat⟩:Head {g:Nat×Int×OwL XPlace // g.1≤x.l.length∧g.2.2.ok 2 XPlace.cells∧PlacesD pl0.l.length g.2.2.l∧0≤g.2.1∧(g.2.2.l.length:Int) + g.2.1≤(pl0.l.length:Int) + 4})) (⟨(k2,r2,pl0),hk2,hok0,hP0,g2,by dsimp only;omega⟩) ?_;rintro ⟨⟨kk,m,pl⟩,hkk,hok,hP,hm0,hm1⟩ junk;try dsimp only
 dsimp only at hkk hok hP hm0 hm1;refine Jq (Jq ?_);have g2q:=g2' za;apply Xa5∘Xb6;refine q_c ?_ ?_<;>intro hc1;·refine J5 (Jb (Jq (Ki ?_)));refine J7 tb [] [0,1,2,3,4,5,6,7] [8,9,10,11] ([Blk.mk b5 _ _]) _ Ko zc zi yd ?_;apply Xdm∘qb3;refine K7 rfl (Yia zA hx hkk za) rfl rfl ?_;rintro v U J ⟨r3,k3,rfl,g3,g3',g3'',hk3,rfl,rfl⟩;refine ⟨zi,zt,?_⟩;have g3q:=g3' za;refine Ku (Zha rfl za za) rfl rfl rfl rfl ?_;refine Ku zEc rfl rfl rfl rfl ?_;apply (Zsf);rintro v U J ⟨b51,rfl,rfl,hR51⟩;replace hR51:=hR51.symm;subst hR51;apply (Xcd);refine Jzb (Jy (f:=XPlace.cells) (p:=pl) (a:=⟨-r3,false⟩) tb rfl rfl rfl rfl (hok) zj zwb rfl zy) rfl rfl rfl ?_;rintro v U J ⟨o52,rfl,hok52,rfl,rfl⟩;apply qa1∘qal∘Xb1∘qby∘Xcc;exact q_k ⟨(k3,m - 1,⟨o52,_⟩),hk3,hok52,hP.snoc za za,by dsimp only;omega,by dsimp only;simp only [yl,yx];omega⟩
 apply (qc3);have hsb:=hP.shb;have hnp:=hP.len;apply qay∘Xce∘Xau∘qc7;rintro v U J ⟨b60,rfl,rfl,hR60⟩;replace hR60:=hR60.symm;subst hR60;apply Vgf∘qaq;intro b9;apply Xa9∘qaa∘Xbq;refine Jm [(0,.pointer _),(2,.pointer _),(3,.pointer _),(4,.pointer _),(5,.pointer _),(6,.int _ _),(8,.int _ _),(9,.pointer _),(10,.int _ _)] zh fun tq1=>?_;refine U2 (congrArg (List.cons _) (Vh (f:=Jj) (x:=(0:Int)) rfl _)) ?_;refine Up ([10]++rg 63 11) ((⟨fun g=>[(10,.int .i64 ((g.1.2.1:Nat):Int))],fun g=>⟨b9,[(⟨.own b60 pl.l.length [],g.1.2.2⟩:OwL Int).val,.slice none 0 0],82⟩ :: ((⟨.own b60 pl.l.length [],g.1.2.2⟩:OwL Int).L 3 Jj ++ (cblk c x g.1.1 :: ⟨b5,[pl.val,.slice none 0 0,.slice none 0 0,.slice none 0 0],32⟩ :: (pl.L 159 XPlace.cells ++ (⟨b4,[.slice none 0 0,.slice none 0 0],82⟩ :: ⟨b3,[.slice none 0 0,.slice none 0 0],80⟩ :: ⟨b2,[.slice none 0 0,.slice none 0 0,.slice none 0 0,.slice none 0 0],32⟩ ::  [])))),fun _=>R,fun g=>pl.l.length - g.1.2.1⟩:Head {g:Nat×Nat×List Int // g.1≤x.l.length∧(pl0.l.length≤g.2.1∧g.2.1≤pl.l.length)∧(⟨.own b60 pl.l.length [],g.2.2⟩:OwL Int).ok 1 Jj∧PresD pl0.l.length pl.l.length g.2.1 g.2.2})) (⟨(kk,pl0.l.length,List.replicate pl.l.length 0),hkk,⟨ym _,by dsimp only;omega⟩,U0 yf zB,⟨by simp,fun j p hp=>by rw [yC] at hp;split at hp;cases hp;exact ⟨by omega,fun _=>rfl⟩;cases hp⟩⟩) zh (by dsimp only;rw [V9e];exact yt _) zAb ?_;rintro ⟨⟨kk2,i,pr⟩,hkk2,⟨hi1,hi2⟩,hokp,hPr⟩ junk;try dsimp only
 dsimp only at hkk2 hi1 hi2 hokp hPr;apply Xa6∘qaa∘Xbd;refine q_c ?_ ?_<;>intro hc2;·have hprl:=hPr.len;have hpri:=Jp (l:=pr) (k:=i) 0 za;refine J5 (Jb (Jq (Ki ?_)));refine J7 tb [] [0,1,2,3,4,5] [6] ([Blk.mk b9 _ _]) _ Ko zc zi (by (repeat (first | apply List.Sublist.cons (a:=Blk.mk b69 _ _) | apply List.Sublist.cons_cons));exact yt _) ?_;apply Xcb∘qb3;refine K7 rfl (Y1b zA hx hkk2 za) rfl rfl ?_;rintro v U J ⟨r4,k4,rfl,g4,g4',hk4,rfl,rfl⟩;refine ⟨zi,zt,?_⟩;refine Ku (Jo tb ((⟨.own b60 pl.l.length [],pr⟩:OwL Int)) _ rfl rfl rfl rfl zg (i:=i) zk zp) rfl rfl rfl rfl ?_;apply (qba);refine Ywa (Jn tb ((⟨.own b60 pl.l.length [],pr⟩:OwL Int)) (r4) rfl rfl rfl rfl zj zg yf zg ze zb zb) rfl rfl ?_;rintro v U J ⟨rfl,rfl⟩;apply qa1∘qby∘Xbw;exact Ka ⟨(k4,i + 1,pr.set i r4),hk4,⟨by dsimp only;omega,by dsimp only;omega⟩,OwL.set_ok (p:=(⟨.own b60 pl.l.length [],pr⟩:OwL Int)) yf hokp,hPr.next hi1 ⟨g4,g4'⟩⟩ zm zh (by dsimp only;rw [OwL.set_val];exact zi) zAb zx
 obtain rfl:i=pl.l.length:=by omega
 apply Xdg∘qc7;rintro v U J ⟨b75,rfl,rfl,hR75⟩;replace hR75:=hR75.symm;subst hR75;apply (Xdd);refine U2 (Vh (f:=Jj) (x:=(0:Int)) rfl _) ?_;have hprl:=hPr.len;apply Xa5∘Xb6;refine Vq ([12,13,14,15]++rg 78 58) ((⟨fun g=>[],fun g=>(⟨.own b75 pl.l.length [],g.1.2.2.2⟩:OwL Int).L 3 Jj ++ (⟨b9,[(⟨.own b60 pl.l.length [],pr⟩:OwL Int).val,g.1.2.2.1.val],82⟩ :: ((⟨.own b60 pl.l.length [],pr⟩:OwL Int).L 3 Jj ++ (cblk c x g.1.1 :: ⟨b5,[pl.val,g.1.2.1.val,.slice none 0 0,.slice none 0 0],32⟩ :: (pl.L 159 XPlace.cells ++ (⟨b4,[.slice none 0 0,.slice none 0 0],82⟩ :: ⟨b3,[.slice none 0 0,.slice none 0 0],80⟩ :: ⟨b2,[.slice none 0 0,.slice none 0 0,.slice none 0 0,.slice none 0 0],32⟩ ::  (g.1.2.1.L 157 XRoad.cells ++ (g.1.2.2.1.L 3 Jj ++ []))))))),fun _=>R,fun _=>0⟩:Head {g:Nat×OwL XRoad×OwL Int×List Int // g.1≤x.l.length∧(g.2.1.ok 10 XRoad.cells∧g.2.2.1.ok 1 Jj∧(⟨.own b75 pl.l.length [],g.2.2.2⟩:OwL Int).ok 1 Jj)∧∃m,Drawn pl.l.length m g.2.1.l g.2.2.1.l g.2.2.2})) ?_ ?_;·
  skip
  refine q_c ?_ ?_<;>intro hc3;·
   apply qae∘qa6;refine Jv rfl (Yia zA hx hkk2 za) rfl ?_;rintro v U J ⟨r5,k5,rfl,g5,g5',g5'',hk5,rfl,rfl⟩;apply (Xbq);refine Vw ([12,13,14,15]++rg 78 58) zJ [(12,.int _ _)] zh fun tq2=>?_;have g5q:=g5' za;refine Up ([12,13,14,15]++rg 80 56) ((⟨fun g=>[(12,.int .i64 g.1.2.1)],fun g=>(⟨.own b75 pl.l.length [],g.1.2.2.2.2⟩:OwL Int).L 3 Jj ++ (⟨b9,[(⟨.own b60 pl.l.length [],pr⟩:OwL Int).val,g.1.2.2.2.1.val],82⟩ :: ((⟨.own b60 pl.l.length [],pr⟩:OwL Int).L 3 Jj ++ (cblk c x g.1.1 :: ⟨b5,[pl.val,g.1.2.2.1.val,.slice none 0 0,.slice none 0 0],32⟩ :: (pl.L 159 XPlace.cells ++ (⟨b4,[.slice none 0 0,.slice none 0 0],82⟩ :: ⟨b3,[.slice none 0 0,.slice none 0 0],80⟩ :: ⟨b2,[.slice none 0 0,.slice none 0 0,.slice none 0 0,.slice none 0 0],32⟩ ::  (g.1.2.2.1.L 157 XRoad.cells ++ (g.1.2.2.2.1.L 3 Jj ++ []))))))),fun _=>R,fun g=>g.1.2.1.toNat⟩:Head {g:Nat×Int×OwL XRoad×OwL Int×List Int // g.1≤x.l.length∧(g.2.2.1.ok 10 XRoad.cells∧g.2.2.2.1.ok 1 Jj∧(⟨.own b75 pl.l.length [],g.2.2.2.2⟩:OwL Int).ok 1 Jj)∧Drawn pl.l.length g.2.1 g.2.2.1.l g.2.2.2.1.l g.2.2.2.2})) (⟨(k5,r5,OwL.nil,OwL.nil,List.replicate pl.l.length 0),hk5,⟨OwL.nil_ok,OwL.nil_ok,U0 yf zB⟩,Drawn.zero zx⟩) zh zAa zAb ?_;rintro ⟨⟨kk3,mm,rl,fl,nl⟩,hkk3,⟨hokr,hokf,hokn⟩,hD⟩ junk;(try dsimp only);dsimp only at hkk3 hokr hokf hokn hD;apply Xa6∘Xb6;refine q_c ?_ ?_<;>intro hc4;·
    have hDm:=hD.m;have hDl:=hD.len;have hDr:=hD.roads.len;apply qbb∘Xco;refine Jv rfl (Yia zA hx hkk3 za) rfl ?_;rintro v U J ⟨r6,k6,rfl,g6,g6',g6'',hk6,rfl,rfl⟩;apply (Xca);have g6q:=g6' za;apply qay∘Xco∘Xbf∘qa6∘Xbz;refine Jv rfl (Yia zA hx hk6 za) rfl ?_;rintro v U J ⟨r7,k7,rfl,g7,g7',g7'',hk7,rfl,rfl⟩;have g7q:=g7' za;apply Xac∘qda;refine Jv rfl (K1g zA hx hk7) rfl ?_;rintro v U J ⟨rd,k8,rfl,hrd,hk8,rfl,rfl⟩;apply (qaq);intro b14;apply Xaz∘qa6;refine Jv rfl (Vcf zA hx hk8 za) rfl ?_;rintro v U J ⟨cl,k9,rfl,hk9,rfl,rfl⟩;apply (qab);refine Uva (v:=Value.bool _) tb rfl rfl rfl rfl zC zca zY zb ?_;apply qam∘qa6;refine Jv rfl (Y1b zA hx hk9 za) rfl ?_;rintro v U J ⟨r8,k10,rfl,g8,g8',hk10,rfl,rfl⟩;apply Xar∘Xaa∘qaf;refine Vq [15] ((⟨fun g=>[(15,.int .i64 g.1)],fun g=>⟨b14,XRoad.cells { rd with closed:=cl },157⟩ :: ((⟨.own b75 pl.l.length [],nl⟩:OwL Int).L 3 Jj ++ (⟨b9,[(⟨.own b60 pl.l.length [],pr⟩:OwL Int).val,fl.val],82⟩ :: ((⟨.own b60 pl.l.length [],pr⟩:OwL Int).L 3 Jj ++ (cblk c x k10 :: ⟨b5,[pl.val,rl.val,.slice none 0 0,.slice none 0 0],32⟩ :: (pl.L 159 XPlace.cells ++ (⟨b4,[.slice none 0 0,.slice none 0 0],82⟩ :: ⟨b3,[.slice none 0 0,.slice none 0 0],80⟩ :: ⟨b2,[.slice none 0 0,.slice none 0 0,.slice none 0 0,.slice none 0 0],32⟩ ::  (rl.L 157 XRoad.cells ++ (fl.L 3 Jj ++ [])))))))),fun _=>R,fun _=>0⟩:Head {q:Int // (-60≤q∧q≤60)∧(cl=true→q=0)})) ?_ ?_;·
     skip
     refine q_c ?_ ?_<;>intro hc5;·apply qay∘Xax;exact q_j ⟨0,by omega,fun _=>rfl⟩
     refine J5 ?_;exact q_j ⟨r8,⟨g8,g8'⟩,fun h=>absurd h (by first | exact hc5 | (rw [hc5];decide))⟩
    rintro ⟨q,hq,hqc⟩ junk;(try dsimp only);obtain ⟨rr,hrr⟩:∃rr:XRoad,rr={ rd with closed:=cl }:=⟨_,rfl⟩;rw [← hrr];have hto:=Kae (n:=(pl.l.length:Int)) ⟨g6,g6q⟩ ⟨g7,g7q⟩;(have hf1:rr.fr=r6:=by rw [hrr];exact hrd.fr);(have hf2:rr.to=(r6 + 1 + r7).tmod pl.l.length:=by rw [hrr];exact hrd.to);have hG:RoadG pl.l.length rr:=⟨⟨by omega,by omega,by rw [hrr];exact hrd.rest⟩,by omega,by rw [hrr];exact hrd.len,by rw [hrr];exact hrd.area⟩;(have hcl:rr.closed=true→q=0:=by rw [hrr];exact hqc);have hv1:=hD.small rr.fr.toNat;have hg1:=Jp (l:=nl) (k:=rr.fr.toNat) 0 za;have hg2:=Jp (l:=nl.set rr.fr.toNat (nl.getD rr.fr.toNat 0 + q)) (k:=rr.to.toNat) 0 zha;(have hv2:-360≤(nl.set rr.fr.toNat (nl.getD rr.fr.toNat 0 + q)).getD rr.to.toNat 0∧(nl.set rr.fr.toNat (nl.getD rr.fr.toNat 0 + q)).getD rr.to.toNat 0≤360:=by rw [Vrb za];have:=hD.small rr.to.toNat;split <;> omega);refine Jq ?_;refine Vq (rg 106 14) ((⟨fun _=>[],fun g=>⟨b14,rr.cells,157⟩ :: ((⟨.own b75 pl.l.length [],nl⟩:OwL Int).L 3 Jj ++ (⟨b9,[(⟨.own b60 pl.l.length [],pr⟩:OwL Int).val,(⟨g.1.2,fl.l ++ [q]⟩:OwL Int).val],82⟩ :: ((⟨.own b60 pl.l.length [],pr⟩:OwL Int).L 3 Jj ++ (cblk c x k10 :: ⟨b5,[pl.val,(⟨g.1.1,rl.l ++ [rr]⟩:OwL XRoad).val,.slice none 0 0,.slice none 0 0],32⟩ :: (pl.L 159 XPlace.cells ++ (⟨b4,[.slice none 0 0,.slice none 0 0],82⟩ :: ⟨b3,[.slice none 0 0,.slice none 0 0],80⟩ :: ⟨b2,[.slice none 0 0,.slice none 0 0,.slice none 0 0,.slice none 0 0],32⟩ ::  ((⟨g.1.1,rl.l ++ [rr]⟩:OwL XRoad).L 157 XRoad.cells ++ ((⟨g.1.2,fl.l ++ [q]⟩:OwL Int).L 3 Jj ++ [])))))))),fun _=>R,fun _=>0⟩:Head {g:Ow×Ow // (⟨g.1,rl.l ++ [rr]⟩:OwL XRoad).ok 10 XRoad.cells∧(⟨g.2,fl.l ++ [q]⟩:OwL Int).ok 1 Jj})) ?_ ?_;·
     skip
     refine Job tb [] [0,1,2,3,6,7,8,4,5,9,10,11,12] [13,14,15] ([Blk.mk b14 _ _,Blk.mk b9 _ _,Blk.mk b5 _ _]) [] 13 Ko zc rfl rfl zi fun hT26=>?_;refine J6a 0 hT26 yd zc rfl rfl rfl rfl rfl zzb ?_;refine J6a 1 hT26 yd zc rfl rfl rfl rfl rfl zzb ?_;refine J6a 2 hT26 yd zc rfl rfl rfl rfl rfl zHb ?_;refine J6a 3 hT26 yd zc rfl rfl rfl rfl rfl zWb ?_;refine J6a 6 hT26 yd zc rfl rfl rfl rfl rfl zzb ?_;refine J6a 7 hT26 yd zc rfl rfl rfl rfl rfl zHb ?_;refine J6a 8 hT26 yd zc rfl rfl rfl rfl rfl (Jz znb) ?_;refine Jf [4,9] hT26 yd zc ?_;refine Jt ?_ ?_;·
      skip
      apply (qdn);rintro v U J ⟨b110,rfl,rfl,hR110⟩;replace hR110:=hR110.symm;subst hR110;apply (qa1);refine Jf [5,9] hT26 yd zc ?_;refine Jt ?_ ?_;·
       skip
       apply (Upf);rintro v U J ⟨o111,rfl,hok111,rfl,rfl⟩;apply (qa1);refine Jf [9] hT26 yd zc ?_;apply qca∘qdc;rintro v U J ⟨b115,rfl,rfl,hR115⟩;replace hR115:=hR115.symm;subst hR115;exact zrd
      apply qca∘qdc;rintro v U J ⟨b115,rfl,rfl,hR115⟩;replace hR115:=hR115.symm;subst hR115;exact zpe
     apply qca∘qdc;rintro v U J ⟨b115,rfl,rfl,hR115⟩;replace hR115:=hR115.symm;subst hR115;apply (qa1);refine Jf [4] hT26 yd zc ?_;apply qca∘qdn;rintro v U J ⟨b110,rfl,rfl,hR110⟩;replace hR110:=hR110.symm;subst hR110;exact zpe
    rintro ⟨⟨o111,o116⟩,hok111,hok116⟩ junk;(try dsimp only);dsimp only at hok111 hok116;apply qae∘Xbx∘Kxg;refine Jw zrc rfl ?_;apply Xbf∘Kxg;refine Vk (Jn tb ((⟨.own b75 pl.l.length [],nl⟩:OwL Int)) (nl.getD rr.fr.toNat 0 + q) rfl rfl rfl rfl zj zg yf zg ze zb zb) ?_;rintro v U J ⟨rfl,rfl⟩;apply (qaf);have hokn2:=OwL.set_ok (f:=Jj) (wd:=1) (p:=(⟨.own b75 pl.l.length [],nl⟩:OwL Int)) (i:=rr.fr.toNat) (x:=nl.getD rr.fr.toNat 0 + q) yf hokn;apply qay∘Xbx∘K2g;refine Jw (J4 tb ((⟨.own b75 pl.l.length [],nl.set rr.fr.toNat (nl.getD rr.fr.toNat 0 + q)⟩:OwL Int)) rfl rfl rfl zj zg yf zg zb) rfl ?_;apply Xbz∘K2g;refine Vk (Jn tb ((⟨.own b75 pl.l.length [],nl.set rr.fr.toNat (nl.getD rr.fr.toNat 0 + q)⟩:OwL Int)) ((nl.set rr.fr.toNat (nl.getD rr.fr.toNat 0 + q)).getD rr.to.toNat 0 - q) rfl rfl rfl rfl zj zg yf zg ze zb zb) ?_;rintro v U J ⟨rfl,rfl⟩;apply qcs∘Xcc;exact q_k ⟨(k10,mm - 1,⟨o111,_⟩,⟨o116,_⟩,Vba nl rr q),hk10,⟨hok111,hok116,OwL.set_ok (p:=(⟨.own b75 pl.l.length [],nl.set rr.fr.toNat (nl.getD rr.fr.toNat 0 + q)⟩:OwL Int)) yf hokn2⟩,hD.next za hG hq hcl⟩
   refine K9 (Km (Uc (J6 ?_)));exact q_j ⟨(kk3,rl,fl,nl),hkk3,⟨hokr,hokf,hokn⟩,mm,hD⟩
  refine J5 ?_;exact V0b ⟨(kk2,OwL.nil,OwL.nil,List.replicate pl.l.length 0),hkk2,⟨OwL.nil_ok,OwL.nil_ok,U0 yf zB⟩,0,Drawn.zero za⟩ zm zh (by dsimp only;rw [Kk,Kk];exact zi) zAb
 rintro ⟨⟨kk4,rl,fl,nl⟩,hkk4,⟨hokr,hokf,hokn⟩,mm,hD⟩ junk;try dsimp only
 dsimp only at hkk4 hokr hokf hokn hD;apply Xa6∘Xbq;refine Jm [(0,.pointer _),(2,.pointer _),(3,.pointer _),(4,.pointer _),(5,.pointer _),(6,.int _ _),(8,.int _ _),(9,.pointer _),(11,.slice _ _ _),(16,.int _ _)] zh fun tq3=>?_;have hDl:=hD.len;have hDm:=hD.m;refine q_p ([16,17,18]++rg 137 40) ((⟨fun g=>[(16,.int .i64 ((g.1.2.1:Nat):Int))],fun g=>(⟨.own b75 pl.l.length [],nl⟩:OwL Int).L 3 Jj ++ (⟨b9,[(⟨.own b60 pl.l.length [],pr⟩:OwL Int).val,g.1.2.2.2.val],82⟩ :: ((⟨.own b60 pl.l.length [],pr⟩:OwL Int).L 3 Jj ++ (cblk c x g.1.1 :: ⟨b5,[pl.val,g.1.2.2.1.val,.slice none 0 0,.slice none 0 0],32⟩ :: (pl.L 159 XPlace.cells ++ (⟨b4,[.slice none 0 0,.slice none 0 0],82⟩ :: ⟨b3,[.slice none 0 0,.slice none 0 0],80⟩ :: ⟨b2,[.slice none 0 0,.slice none 0 0,.slice none 0 0,.slice none 0 0],32⟩ ::  (g.1.2.2.1.L 157 XRoad.cells ++ (g.1.2.2.2.L 3 Jj ++ []))))))),fun _=>R,fun g=>pl.l.length - g.1.2.1⟩:Head {g:Nat×Nat×OwL XRoad×OwL Int // g.1≤x.l.length∧(pl0.l.length≤g.2.1∧g.2.1≤pl.l.length)∧(g.2.2.1.ok 10 XRoad.cells∧g.2.2.2.ok 1 Jj)∧Shafted pl0.l.length pl.l.length g.2.1 nl g.2.2.1.l g.2.2.2.l})) (⟨(kk4,pl0.l.length,rl,fl),hkk4,⟨ym _,by dsimp only;omega⟩,⟨hokr,hokf⟩,hD.shafted _⟩) ?_;rintro ⟨⟨kk5,j,rl,fl⟩,hkk5,⟨hj1,hj2⟩,⟨hokr2,hokf2⟩,hS⟩ junk;try dsimp only
 dsimp only at hkk5 hj1 hj2 hokr2 hokf2 hS;apply Xa6∘qaa∘Xbd;refine q_c ?_ ?_<;>intro hc6;·
  have hSl:=hS.len;have hSr:=hS.roads.len;have hnj:=Jp (l:=nl) (k:=j) 0 za;have hnb:=hD.small j;refine J5 (Jb (Jq (Ki (Jq ?_))));refine Ke tb [0,1,2,3,6,7,8,9,10,4,5,11,12,13] (((⟨.own b75 pl.l.length [],nl⟩:OwL Int).L 3 Jj ++ [])) Ko zc zi ?_;apply qb8∘qao∘qb8∘qao;refine Ks zZc rfl rfl rfl ?_;apply (qao);refine Ks (Jo tb ((⟨.own b75 pl.l.length [],nl⟩:OwL Int)) _ rfl rfl ((show _=Value.slice _ _ _ from rfl).trans (K6 hDl)) rfl zg (i:=j) zk zp) rfl rfl rfl ?_;refine Ks zrc rfl rfl rfl ?_;refine Ks (Zha rfl za za) rfl rfl rfl ?_;refine Vo rfl (Yia zA hx hkk5 za) rfl rfl ?_;rintro v U J ⟨r9,k11,rfl,g9,g9',g9'',hk11,rfl,rfl⟩;refine ⟨zi,zt,?_⟩;have g9q:=g9' za;refine Vo rfl (K1g zA hx hk11) rfl rfl ?_;rintro v U J ⟨rd,k12,rfl,hrd,hk12,rfl,rfl⟩;refine ⟨zi,zt,?_⟩;apply (qbr);intro b17;apply Xdf∘qc6∘qa6;refine Jv rfl (Vcf zA hx hk12 za) rfl ?_;rintro v U J ⟨b,k13,rfl,hk13,rfl,rfl⟩;have hf1:=hrd.fr;have hf2:=hrd.to;have hG1:RoadG pl.l.length rd:=⟨⟨by omega,by omega,hrd.rest⟩,by omega,hrd.len,hrd.area⟩;apply (qaf);refine Vq ([18]++rg 155 8) ((⟨fun g=>[(18,.int .i64 g.1.2)],fun g=>⟨b17,g.1.1.cells,157⟩ :: ((⟨.own b75 pl.l.length [],nl⟩:OwL Int).L 3 Jj ++ (⟨b9,[(⟨.own b60 pl.l.length [],pr⟩:OwL Int).val,fl.val],82⟩ :: ((⟨.own b60 pl.l.length [],pr⟩:OwL Int).L 3 Jj ++ (cblk c x k13 :: ⟨b5,[pl.val,rl.val,.slice none 0 0,.slice none 0 0],32⟩ :: (pl.L 159 XPlace.cells ++ (⟨b4,[.slice none 0 0,.slice none 0 0],82⟩ :: ⟨b3,[.slice none 0 0,.slice none 0 0],80⟩ :: ⟨b2,[.slice none 0 0,.slice none 0 0,.slice none 0 0,.slice none 0 0],32⟩ ::  (rl.L 157 XRoad.cells ++ (fl.L 3 Jj ++ [])))))))),fun _=>R,fun _=>0⟩:Head {g:XRoad×Int // RoadG pl.l.length g.1∧(-360≤g.2∧g.2≤360)∧g.1.closed=false∧((g.1.fr=(j:Int)∧g.1.to < (pl0.l.length:Int)∧g.2= -(nl.getD j 0))∨(g.1.to=(j:Int)∧g.1.fr < (pl0.l.length:Int)∧g.2=nl.getD j 0))})) ?_ ?_;·
   skip
   refine q_c ?_ ?_<;>intro hc7;·apply qay∘Xaa∘Xah∘qcq∘Xbk∘Xbk∘Xax;exact q_j ⟨({ rd with fr:=rd.to,to:=rd.fr },- -(nl.getD j 0)),⟨⟨hG1.d.to,hG1.d.fr,hrd.rest⟩,(fun h=>hG1.ne h.symm),hrd.len,hrd.area⟩,by dsimp only;omega,hrd.closed,.inr ⟨hf1,by dsimp only;omega,by dsimp only;omega⟩⟩
   refine J5 ?_;exact q_j ⟨(rd,-(nl.getD j 0)),hG1,by dsimp only;omega,hrd.closed,.inl ⟨hf1,by dsimp only;omega,rfl⟩⟩
  rintro ⟨⟨rr,q⟩,hG,hq,hcl,hend⟩ junk;try dsimp only
  dsimp only at hG hq hcl hend;refine Job tb [] [0,1,2,3,6,7,8,4,5,9,10,11,12] [13,14,15] ([Blk.mk b17 _ _,Blk.mk b9 _ _,Blk.mk b5 _ _]) [] 13 Ko zc rfl rfl zi fun hT35=>?_;refine J6a 0 hT35 yd zc rfl rfl rfl rfl rfl zzb ?_;refine J6a 1 hT35 yd zc rfl rfl rfl rfl rfl zzb ?_;refine J6a 2 hT35 yd zc rfl rfl rfl rfl rfl zHb ?_;refine J6a 3 hT35 yd zc rfl rfl rfl rfl rfl zWb ?_;refine J6a 6 hT35 yd zc rfl rfl rfl rfl rfl zzb ?_;refine J6a 7 hT35 yd zc rfl rfl rfl rfl rfl zHb ?_;refine J6a 8 hT35 yd zc rfl rfl rfl rfl rfl (Jz znb) ?_;refine Jf [4,9] hT35 yd zc ?_;refine Jt ?_ ?_;·
   skip
   apply (qdn);rintro v U J ⟨b167,rfl,rfl,hR167⟩;replace hR167:=hR167.symm;subst hR167;apply (qa1);refine Jf [5,9] hT35 yd zc ?_;refine Jt ?_ ?_;·
    skip
    apply (Ubf);rintro v U J ⟨o168,rfl,hok168,rfl,rfl⟩;apply (qa1);refine Jf [9] hT35 yd zc ?_;apply qca∘qdc;rintro v U J ⟨b172,rfl,rfl,hR172⟩;replace hR172:=hR172.symm;subst hR172;exact zod
   apply qca∘qdc;rintro v U J ⟨b172,rfl,rfl,hR172⟩;replace hR172:=hR172.symm;subst hR172;exact zqe
  apply qca∘qdc;rintro v U J ⟨b172,rfl,rfl,hR172⟩;replace hR172:=hR172.symm;subst hR172;apply (qa1);refine Jf [4] hT35 yd zc ?_;apply qca∘qdn;rintro v U J ⟨b167,rfl,rfl,hR167⟩;replace hR167:=hR167.symm;subst hR167;exact zqe
 obtain rfl:j=pl.l.length:=by omega
 have hSl:=hS.len;have hSr:=hS.roads.len;have hprl:=hPr.len;apply qbk∘qa6;refine Jv rfl (Tri.spl (.appB (.consB (.appB (.consL (.consL (.appB (.consB (.consB (.consB (.appB (.appB .nil))))))))))) (Zfc c b5 x kk5 rl.l.length rl.o.cap pl.val rl.o.addr R hx hkk5 za)) rfl ?_;rintro v U J ⟨L1,rfl,fans,doors,sf,sd,k14,S,rfl,⟨ho1,ho2,ho3,ho4⟩,hFD,hDD,hif,hid,hk14,rfl,rfl⟩;simp only [yn,yr,yv];have hxs:CodesR x (S ++ R):=hx.mono fun r h=>Ja (by simp [h]);have hFm:=hFD.m;have hDm2:=hDD.m;have hFl:=hFD.len;have hDl2:=hDD.len;apply (qaq);intro b19;apply Xaz∘qa6∘qbe∘qbe;refine Jv rfl (Y6e (n:=rl.l.length) (pres:=(⟨.own b60 pl.l.length [],pr⟩:OwL Int)) ⟨pl.arr,rl.arr⟩ (.consB (.appB (.consB (.appB (.appB (.consB (.consB (.consB (.appL (.appB (.consL (.consL (.appB (.appB (.appB (.appB .nil)))))))))))))))) zG zG zG zG zG zG ho1 ho2 ho3 ho4 hokp hokf2 (fun f hf=>(hif f hf).mono fun r hr=>Ja zI) (fun d hd=>(hid d hd).mono fun r hr=>Ja zI) hxs hk14 hokr2 hFD hDD hSr.symm za hS.roads.flow (fun i p hp=>(hPr.val i p hp).1) (fun i r hr=>by dsimp only;rw [hprl];exact (hS.roads.road i r hr).d)) rfl ?_;rintro v U J ⟨rl',k15,rfl,hFI,hk15,rfl,rfl⟩;simp only [yn,yr,yv];have hrv:rl.val=(⟨rl.o,rl'⟩:OwL XRoad).val:=by simp only [OwL.val,hFI.len]
 apply (qa4);rw [hrv];refine J7 tb [188] [0,1,2,3,5,4] [6,7,8] ([Blk.mk b19 _ _,Blk.mk b9 _ _,Blk.mk b5 _ _]) _ Ko zc zi (by (repeat (first | apply List.Sublist.cons (a:=Blk.mk b2 _ _) | apply List.Sublist.cons (a:=Blk.mk b3 _ _) | apply List.Sublist.cons (a:=Blk.mk b4 _ _) | apply List.Sublist.cons_cons));exact yt _) ?_;apply qde∘qb3∘qde;refine Ku zGb rfl rfl rfl rfl ?_;refine Vd zGb rfl rfl rfl rfl ?_;refine K7 rfl (U1d (a:=⟨⟨pl.arr,(⟨rl.o,rl'⟩:OwL XRoad).arr⟩,fans.arr,doors.arr⟩) (.consB (.appB (.consB (.appB (.appB (.consB (.consB (.consB (.appB (.appB (.appB (.appB (.appB (.consL (.consB (.appB .nil)))))))))))))))) zG zG ho3 ho4 hxs hk15 za za) rfl rfl ?_;rintro v U J ⟨tf,td,k16,rfl,⟨ht1,ht2⟩,hdf,hdd,hk16,rfl,rfl⟩;simp only [yn,yr,yv];refine ⟨zi,zt,?_⟩;apply (qba);iterate 3 apply (qbg)
 refine J1 (Jb (Uk ?_));refine q_r (MadeO.L ⟨pl,⟨rl.o,rl'⟩,fans,doors,tf,td,(⟨.own b60 pl.l.length [],pr⟩:OwL Int),fl⟩ (cblk c x k16)) (S ++ R) (Ulb rfl zDb zpb zpb) ?_;have hMA:=Y5e (a:=MadeO.a ⟨pl,⟨rl.o,rl'⟩,fans,doors,tf,td,(⟨.own b60 pl.l.length [],pr⟩:OwL Int),fl⟩) (s:=⟨sf.arr,sd.arr⟩) (t:=MadeO.t ⟨pl,⟨rl.o,rl'⟩,fans,doors,tf,td,(⟨.own b60 pl.l.length [],pr⟩:OwL Int),fl⟩) (x:=MadeO.x ⟨pl,⟨rl.o,rl'⟩,fans,doors,tf,td,(⟨.own b60 pl.l.length [],pr⟩:OwL Int),fl⟩) hP hPr hS hFD hDD ⟨hFI.len,hFI.done,hFI.todo⟩ hdf hdd;exact ⟨⟨pl,⟨rl.o,rl'⟩,fans,doors,tf,td,(⟨.own b60 pl.l.length [],pr⟩:OwL Int),fl⟩,k16,S,rfl,⟨hok,OwL.len_ok yf hokr2 hFI.len,ho1,ho2,ht1,ht2,hokp,hokf2⟩,hMA,hif,hid,hk16,rfl,rfl⟩
end Go.Proofs.YtchfclmokpbldaaGreat
end
section
namespace Go.Proofs.YtchfclmokpbldaaGreat
open Go.Aw Go
set_option maxRecDepth 20000
attribute [local irreducible] CJ LJ DJ Tri YV Gives Uq J2 Kj Ut RV J3 OwL.L
abbrev Kma (y:Arr Int):Arr Int:=⟨y.a,y.cap,y.l.take 300⟩
def Vye (y:Arr Int) (L:LB) (R:LS) (hy:CodesR y R):
 Tri Tryz.prog 14 [y.val].toArray L R (fun v U J=>∃c,v=.pointer (some ⟨c,0,none⟩)∧CodesR (Kma y) J∧cblk c (Kma y) 0 :: L=U∧bsl (Kma y) :: R=J):=by have hsl:=hy.sl;refine Jgb Tryz.call14 hsl fun hyn=>?_;refine Je 10 Tryz.call14 Tryz.func14 rfl rfl rfl ?_;apply qae∘qc1∘qa4;refine Vjd 300 hsl ?_;apply Xcj∘Xap;refine Jw zOc rfl ?_;refine Jw (Ubb tb rfl rfl rfl rfl (n:=(y.l.take 300).length) (by rw [yHa];omega) (by rw [yHa];omega)) rfl ?_;apply Vgf∘qax;intro b9;apply qc1∘qa0;refine q_r (cblk b9 (Kma y) 0 :: L) (bsl (Kma y) :: R) (Vs rfl (Ji zNb)) ?_;exact ⟨b9,rfl,⟨Ja zo,fun i b hb=>by rw [yva] at hb;split at hb;exact hy.byte i b hb;cases hb⟩,rfl,rfl⟩
def Vig {c:Nat} {x:Arr Int} {k:Nat} {L B:LB} {R:LS} (hu:Spl L B [cblk c x k]) (hx:CodesR x R) (hk:k≤x.l.length):
 Tri Tryz.prog 39 [.pointer (some ⟨c, 0, none⟩)].toArray L R
  (fun v U J=>∃(m:MadeO) (k':Nat) (S:LS),v=.tuple #[m.a.val,m.t.val,m.x.val]∧m.Ok∧MadeA m.a m.t m.x∧(∀f∈m.fans.l,InR f.sl S)∧(∀d∈m.doors.l,InR d.sl S)∧k'≤x.l.length∧B ++ m.L (cblk c x k')=U∧S ++ R=J):=
 (Tri.spl hu (Kif c x k R hx hk)).mono fun v L'' J ⟨U,e,m,k',S,h1,h2,h3,h4,h5,h6,h7,h8⟩=>⟨m,k',S,h1,h2,h3,h4,h5,h6,by rw [h7];exact e,h8⟩
end Go.Proofs.YtchfclmokpbldaaGreat
end
section
namespace Go.Proofs.YtchfclmokpbldaaGreat
open Go.Aw Go
set_option maxRecDepth 20000
attribute [local irreducible] CJ LJ DJ Tri YV Gives Uq J2 Kj Ut RV J3 OwL.L
def Uye:SpanEq Tryz.prog 90:=
 Uee (I:=3) zc zc zc zc zc
def Zw {a:XAir} {R J:LS} (h:AirR a R) (k:∀r∈R,InR r J):AirR a J:=⟨h.places.mono k,h.roads.mono k,h.fans.mono k,h.doors.mono k⟩
def Yoa {s:XSetting} {R J:LS} (h:SetR s R) (k:∀r∈R,InR r J):SetR s J:=⟨h.fans.mono k,h.doors.mono k⟩
def Zqd {P n code t R} {Q : Kw} {A : LB} {m : MadeO} {cb : Blk} (hm : m.Ok) (hf : ∀ f ∈ m.fans.l, InR f.sl R) (hd : ∀ d ∈ m.doors.l, InR d.sl R)
 (h:∀J,AirR m.a J→SetR m.t J→StateR m.x J→(∀r∈R,InR r J)→CJ P n code t (A ++ (cb :: [])) J Q):CJ P n code t (A ++ m.L cb) R Q:=by
 unfold MadeO.L;refine Vg [] K0 ze hm.pres yg ?_;refine Vg [] yf (by decide:0 < 2) hm.places yg ?_;refine Vg [] K0 ze hm.flows yg ?_;refine Vg (m.fans.l.map XFan.sl) yf (by decide:0 < 4) hm.fans (fun s hs=>by obtain ⟨y,hy,rfl⟩:=List.mem_map.1 hs;exact (hf y hy).mono fun r hr=>Ja zI) ?_;refine Vg (m.doors.l.map XDoor.sl) yf (by decide:0 < 3) hm.doors (fun s hs=>by obtain ⟨y,hy,rfl⟩:=List.mem_map.1 hs;exact (hd y hy).mono fun r hr=>Ja zI) ?_;refine Vg [] yf (by decide:0 < 10) hm.roads yg ?_;have e:∀X:LB,A ++ (cb :: X)=(A ++ [cb]) ++ X:=fun X=>by simp
 rw [e];refine Vg [] K0 ze hm.tf yg ?_;refine Vg [] K0 ze hm.td yg ?_;rw [yaa];refine h _ ⟨?_,?_,?_,?_⟩ ⟨?_,?_⟩ ⟨?_,?_⟩ (fun r hr=>Ja zI);·exact Ja (.tail _ (.tail _ (.tail _ (.tail _ (.tail _ (.tail _ (.head _)))))))
 ·exact Ja (.tail _ (.tail _ (.head _)))
 ·exact Ja (.tail _ (.tail _ (.tail _ (.tail _ (.head _)))))
 ·exact Ja (.tail _ (.tail _ (.tail _ (.head _))))
 ·exact Ja (.tail _ (.head _))
 ·exact Ja (.head _)
 ·exact Ja (.tail _ (.tail _ (.tail _ (.tail _ (.tail _ (.tail _ (.tail _ (.head _))))))))
 ·exact Ja (.tail _ (.tail _ (.tail _ (.tail _ (.tail _ (.head _))))))
end Go.Proofs.YtchfclmokpbldaaGreat
end
