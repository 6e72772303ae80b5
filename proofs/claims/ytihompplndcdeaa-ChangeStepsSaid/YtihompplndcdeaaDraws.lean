/-
  Draws: MakeS, Make, BranchW, Draw1, Draw2, FitS, Fit, MadeS, Made, New, Base, in one text. By an AI agent; no person has read it.
-/
import Derived.Test.YtihompplndcdeaaFlows
import Derived.Test.YtihompplndcdeaaOwn
set_option linter.unusedVariables false
set_option linter.unusedSimpArgs false
section
variable {A9 B9:Prop}
theorem J0a (a:A9) (h:A9→B9:=by exact Jb1 (Jah tb rfl rfl rfl rfl (i:=(a.doors.l.getD k default).road.toNat) (by first | rfl | omega | (simp;omega)) (by omega)) rfl rfl rfl rfl):B9:=h a
theorem J26 (a:A9) (h:A9→B9:=by exact Jb1 (Jah tb rfl rfl rfl rfl (i:=k) (by first | rfl | omega | (simp;omega)) (by omega)) rfl rfl rfl rfl):B9:=h a
theorem J3f (a:A9) (h:A9→B9:=by exact Jaq rfl (Jlt (by repeat (first | apply USeg.here | apply USeg.cons | apply USeg.app)) hx hk (by omega)) rfl):B9:=h a
theorem J22 (a:A9) (h:A9→B9:=by exact Jaq rfl (Jlt (by repeat (first | apply USeg.here | apply USeg.cons | apply USeg.app)) hx hk1 (by omega)) rfl):B9:=h a
theorem J3l (a:A9) (h:A9→B9:=by exact Jaq rfl (Jgz (by repeat (first | apply USeg.here | apply USeg.cons | apply USeg.app)) hx hk2 (by omega)) rfl):B9:=h a
theorem J2z (a:A9) (h:A9→B9:=by exact Jh0 (Jas (qs:=[(0,(Value.agg _).cells.toList)]) (out:=[_,_]) tb rfl rfl rfl rfl rfl rfl rfl) rfl):B9:=h a
theorem J3t (a:A9) (h:A9→B9:=by exact Jax (Jbo (qs:=[(0,(Value.slice _ _ _).cells.toList)]) (out:=[_,_]) tb rfl rfl rfl rfl) rfl):B9:=h a
theorem J2c (a:A9) (h:A9→B9:=by exact Jdi rfl (Jam (f:=XRoad.cells) (p:=rl) (a:=rr) tb rfl rfl rfl rfl (hokr) (by repeat (first | apply OSeg.cons | exact OSeg.here | exact OSeg.last | exact OSeg.at (by assumption) | apply OSeg.app)) (Ja1 (by repeat (first | exact zi0 | apply zi1 | apply zi2)) rfl rfl) rfl (by first | omega | (simp only [List.length_cons,List.length_nil,List.length_append];omega))) rfl rfl):B9:=h a
theorem J3r (a:A9) (h:A9→B9:=by exact Jdi rfl (Jam (f:=Jad) (p:=fl) (a:=q) tb rfl rfl rfl rfl (hokf) (by repeat (first | apply OSeg.cons | exact OSeg.here | exact OSeg.last | exact OSeg.at (by assumption) | apply OSeg.app)) (Ja1 (by repeat (first | exact zi0 | apply zi1 | apply zi2)) rfl rfl) rfl (by first | omega | (simp only [List.length_cons,List.length_nil,List.length_append];omega))) rfl rfl):B9:=h a
theorem J2i (a:A9) (h:A9→B9:=by exact Jjq 11 hT26 (List.nil_sublist _) (by kernel_rfl) rfl rfl rfl rfl rfl (Jcr tb rfl rfl rfl)):B9:=h a
theorem J2x (a:A9) (h:A9→B9:=by exact Jjq 12 hT26 (List.nil_sublist _) (by kernel_rfl) rfl rfl rfl rfl rfl (Jcr tb rfl rfl rfl)):B9:=h a
theorem J3g (a:A9) (h:A9→B9:=by exact Jdi rfl (Jam (f:=XRoad.cells) (p:=rl) (a:=rr) tb rfl rfl rfl rfl (hokr2) (by repeat (first | apply OSeg.cons | exact OSeg.here | exact OSeg.last | exact OSeg.at (by assumption) | apply OSeg.app)) (Ja1 (by repeat (first | exact zi0 | apply zi1 | apply zi2)) rfl rfl) rfl (by first | omega | (simp only [List.length_cons,List.length_nil,List.length_append];omega))) rfl rfl):B9:=h a
theorem J2w (a:A9) (h:A9→B9:=by exact Jdi rfl (Jam (f:=Jad) (p:=fl) (a:=q) tb rfl rfl rfl rfl (hokf2) (by repeat (first | apply OSeg.cons | exact OSeg.here | exact OSeg.last | exact OSeg.at (by assumption) | apply OSeg.app)) (Ja1 (by repeat (first | exact zi0 | apply zi1 | apply zi2)) rfl rfl) rfl (by first | omega | (simp only [List.length_cons,List.length_nil,List.length_append];omega))) rfl rfl):B9:=h a
theorem J2j (a:A9) (h:A9→B9:=by exact Jjq 11 hT35 (List.nil_sublist _) (by kernel_rfl) rfl rfl rfl rfl rfl (Jcr tb rfl rfl rfl)):B9:=h a
theorem J2o (a:A9) (h:A9→B9:=by exact Jjq 12 hT35 (List.nil_sublist _) (by kernel_rfl) rfl rfl rfl rfl rfl (Jcr tb rfl rfl rfl)):B9:=h a
theorem J4u (a:A9) (h:A9→B9:=by exact Jaz tb [] [0,1,2,3,4,5,6,7,8,9,10] [11] (_) _ Jbh (by kernel_rfl) (by repeat (first | exact zs0 _ | exact zs1 _ | apply zs2 | apply zs3 | apply zs4 | apply zs5)) (by (repeat (first | apply List.Sublist.cons (a:=Blk.mk b20 _ _) | apply List.Sublist.cons_cons));exact List.Sublist.refl _)):B9:=h a
theorem J5d (a:A9) (h:A9→B9:=by exact Jaz tb [] [0,1,2,3,4,5,6,7,8,9,10] [11] (_) _ Jbh (by kernel_rfl) (by repeat (first | exact zs0 _ | exact zs1 _ | apply zs2 | apply zs3 | apply zs4 | apply zs5)) (by (repeat (first | apply List.Sublist.cons (a:=Blk.mk b14 _ _) | apply List.Sublist.cons_cons));exact List.Sublist.refl _)):B9:=h a
theorem J5x (a:A9) (h:A9→B9:=by exact Jaz tb [] [0,1,2,3,4,5,6,7] [8] ([Blk.mk b7 _ _]) _ Jbh (by kernel_rfl) (by repeat (first | exact zs0 _ | exact zs1 _ | apply zs2 | apply zs3 | apply zs4 | apply zs5)) (by (repeat (first | apply List.Sublist.cons (a:=Blk.mk b7 _ _) | apply List.Sublist.cons_cons));exact List.Sublist.refl _)):B9:=h a
theorem J4r (a:A9) (h:A9→B9:=by exact Jbt rfl (Jgz (by repeat (first | apply USeg.here | apply USeg.cons | apply USeg.app)) hx hk4 (by omega)) rfl rfl):B9:=h a
theorem J40 (a:A9) (h:A9→B9:=by exact Jbt rfl (Jlt (by repeat (first | apply USeg.here | apply USeg.cons | apply USeg.app)) hx hkk (by omega)) rfl rfl):B9:=h a
theorem J4z (a:A9) (h:A9→B9:=by exact Jti (Jas (qs:=[(0,(Value.agg _).cells.toList)]) (out:=[_,_]) tb rfl rfl rfl rfl rfl rfl rfl) rfl rfl rfl):B9:=h a
theorem J6h (a:A9) (h:A9→B9:=by exact Jh0 (Jam (f:=Jad) (p:=tf) (a:=_) tb rfl rfl rfl rfl (hok) (by repeat (first | apply OSeg.cons | exact OSeg.here | exact OSeg.last | exact OSeg.at (by assumption) | apply OSeg.app)) (Ja1 (by repeat (first | exact zi0 | apply zi1 | apply zi2)) rfl rfl) rfl (by first | omega | (simp only [List.length_cons,List.length_nil,List.length_append];omega))) rfl):B9:=h a
theorem J4i (a:A9) (h:A9→B9:=by exact Jh0 (Jam (f:=Jad) (p:=td) (a:=_) tb rfl rfl rfl rfl (hok2) (by repeat (first | apply OSeg.cons | exact OSeg.here | exact OSeg.last | exact OSeg.at (by assumption) | apply OSeg.app)) (Ja1 (by repeat (first | exact zi0 | apply zi1 | apply zi2)) rfl rfl) rfl (by first | omega | (simp only [List.length_cons,List.length_nil,List.length_append];omega))) rfl):B9:=h a
theorem J46 (a:A9) (h:A9→B9:=by exact Jbt rfl (Jgz (by repeat (first | apply USeg.here | apply USeg.cons | apply USeg.app)) hx hkk (by omega)) rfl rfl):B9:=h a
theorem J6l (a:A9) (h:A9→B9:=by exact Jaq rfl (Jgz (by repeat (first | apply USeg.here | apply USeg.cons | apply USeg.app)) hx hk1 (by omega)) rfl):B9:=h a
theorem J4y (a:A9) (h:A9→B9:=by exact Jax (Jao tb ((⟨.own b75 pl.l.length [],nl⟩:OwL Int)) _ rfl rfl ((show _=Value.slice _ _ _ from rfl).trans (Jei hDl)) rfl (by assumption) (i:=rr.fr.toNat) (by first | rfl | omega | (simp;omega)) (by first | omega | (dsimp only;omega) | (dsimp only;rw [List.length_set];omega) | (dsimp only;simp only [List.length_set];omega))) rfl):B9:=h a
theorem J57 (a:A9) (h:A9→B9:=by exact Jax (Jao tb ((⟨.own b75 pl.l.length [],nl.set rr.fr.toNat (nl.getD rr.fr.toNat 0 + q)⟩:OwL Int)) _ rfl rfl ((show _=Value.slice _ _ _ from rfl).trans (Jei (by rw [List.length_set];exact hDl))) rfl (by assumption) (i:=rr.to.toNat) (by first | rfl | omega | (simp;omega)) (by first | omega | (dsimp only;omega) | (dsimp only;rw [List.length_set];omega) | (dsimp only;simp only [List.length_set];omega))) rfl):B9:=h a
end
section
namespace Go.Proofs.Ytihompplndcdeaa
open Go.Aw Go
def Jeb (a : XAir) (s : XSetting) : Nat → List XSpan
  | 0=>List.replicate a.mine.roads.l.length ⟨0,0⟩
  | k + 1=>
    let d:=a.doors.l.getD k default
    let x:=Jeh d (s.doors.l.getD k 0)
    let y:=(Jeb a s k).getD d.road.toNat default
    (Jeb a s k).set d.road.toNat ⟨y.low + x.low,y.high + x.high⟩
theorem Jfd (a : XAir) (s : XSetting) : ∀ k, (Jeb a s k).length = a.mine.roads.l.length
  | 0=>by simp [Jeb]
  | k + 1=>by simp only [Jeb,List.length_set];exact Jfd a s k
theorem Jjj {a:XAir} {s:XSetting} (ha:AirOk a) {r:Nat} (hr:r < a.mine.roads.l.length):∀k,k≤a.doors.l.length→∃x:XSpan,(Jeb a s k)[r]?=some x∧
    (Jbq a s r k).low=(a.mine.roads.l.getD r default).rest.low + x.low∧(Jbq a s r k).high=(a.mine.roads.l.getD r default).rest.high + x.high
  | 0,_=>⟨⟨0,0⟩,by simp [Jeb,hr],by simp [Jbq],by simp [Jbq]⟩
  | k + 1,hk=>by
    obtain ⟨x,h1,h2,h3⟩:=Jjj (s:=s) ha hr k (by omega)
    have hd:=ha.door k _ (Jai default (show k < a.doors.l.length by omega))
    have hd0:=hd.1.road
    simp only [Jeb,Jbq]
    by_cases he:(a.doors.l.getD k default).road=(r:Int)
    · rw [if_pos he]
      have he':(a.doors.l.getD k default).road.toNat=r:=by omega
      rw [he']
      have hg:(Jeb a s k).getD r default=x:=by rw [List.getD_eq_getElem?_getD,h1];rfl
      refine ⟨_,List.getElem?_set_self (by rw [Jfd];exact hr),?_,?_⟩ <;> rw [hg] <;> dsimp only <;> omega
    · rw [if_neg he]
      have he':¬ (a.doors.l.getD k default).road.toNat=r:=by omega
      exact ⟨x,by rw [List.getElem?_set_ne he'];exact h1,h2,h3⟩
def Jcf (a : XAir) : Nat → List Nat
  | 0=>[]
  | k + 1=>if (a.mine.roads.l.getD k default).closed=true then Jcf a k else Jcf a k ++ [k]
def Jum (a : XAir) (v : Nat) : Nat → List Int
  | 0=>[]
  | k + 1=>
    if (a.mine.roads.l.getD k default).closed=true then Jum a v k
    else if (a.mine.roads.l.getD k default).fr=(v:Int)∨(a.mine.roads.l.getD k default).to=(v:Int) then Jum a v k ++ [((Jcf a k).length:Int)]
    else Jum a v k
theorem Jha (a : XAir) : ∀ k, (Jcf a k).length ≤ k
  | 0=>by simp [Jcf]
  | k + 1=>by
    have:=Jha a k
    simp only [Jcf]
    split
    · omega
    · simp;omega
theorem Jf1 (a : XAir) (v : Nat) : ∀ k, (Jum a v k).length ≤ k
  | 0=>by simp [Jum]
  | k + 1=>by
    have:=Jf1 a v k
    simp only [Jum]
    split
    · omega
    · split
      · simp;omega
      · omega
structure XNet where
  pipes:Arr XPipe
  at_:Arr (Arr Int)
abbrev XNet.val (n:XNet):Value:=.agg #[n.pipes.val,n.at_.val]
def XNet.cells (n:XNet):List Value:=[n.pipes.val,n.at_.val]
def J20 (x:Arr Int):List Value:=[x.val]
abbrev Jiy (x:Arr XPipe):Sl:=x.sl 12 XPipe.cells (x.l.map XPipe.sl)
abbrev Jh1 (x:Arr (Arr Int)):Sl:=x.sl 1 J20 (x.l.map isl)
structure NetIs (a:XAir) (s:XSetting) (n:XNet):Prop where
  nums:n.pipes.l.map XPipe.num=(Jcf a a.mine.roads.l.length).map fun (i:Nat)=>(i:Int)
  pipe:∀p∈n.pipes.l,PipeIs a s p.num p
  atl:n.at_.l.length=a.mine.places.l.length
  at_:∀(v:Nat) (x:Arr Int),n.at_.l[v]?=some x→x.l=Jum a v a.mine.roads.l.length
structure MF (a:XAir) (s:XSetting) (k:Nat) (F:List (OwL XBlow)):Prop where
  len:F.length=a.mine.roads.l.length
  ok:∀(r:Nat) (p:OwL XBlow),F[r]?=some p→p.ok 5 XBlow.cells∧p.l=blowsTo a s r k
theorem MF.zero (a:XAir) (s:XSetting):MF a s 0 (List.replicate a.mine.roads.l.length OwL.nil):=by
  refine ⟨by simp,fun r p hp=>?_⟩
  rw [List.getElem?_replicate] at hp
  split at hp
  · cases hp;exact ⟨OwL.nil_ok,rfl⟩
  · cases hp
theorem MF.stay {a:XAir} {s:XSetting} {k:Nat} {F:List (OwL XBlow)} (h:MF a s k F) (hs:s.fans.l.getD k 0=0):MF a s (k + 1) F:=by
  refine ⟨h.len,fun r p hp=>?_⟩
  rw [blowsTo,if_neg (fun h=>h.1 hs)]
  exact h.ok r p hp
theorem MF.next {a : XAir} {s : XSetting} {k : Nat} {F : List (OwL XBlow)} (h : MF a s k F) (hs : ¬ s.fans.l.getD k 0 = 0) {i : Nat} (hi : (i : Int) = (a.fans.l.getD k default).road) {p : OwL XBlow} (hp : F[i]? = some p) {o : Ow}
    (ho:(⟨o,p.l ++ [⟨a.fans.l.getD k default,s.fans.l.getD k 0⟩]⟩:OwL XBlow).ok 5 XBlow.cells):MF a s (k + 1) (F.set i ⟨o,p.l ++ [⟨a.fans.l.getD k default,s.fans.l.getD k 0⟩]⟩):=by
  refine ⟨by simp [h.len],fun r q hq=>?_⟩
  rw [List.getElem?_set] at hq
  split at hq
  · rename_i hri
    subst hri
    split at hq
    · cases hq
      refine ⟨ho,?_⟩
      dsimp only
      rw [blowsTo,if_pos ⟨hs,hi.symm⟩,(h.ok i p hp).2]
    · cases hq
  · rename_i hri
    rw [blowsTo,if_neg (fun h=>hri (by omega))]
    exact h.ok r q hq
structure MA (a:XAir) (k:Nat) (G:List (OwL Int)):Prop where
  len:G.length=a.mine.places.l.length
  ok:∀(v:Nat) (p:OwL Int),G[v]?=some p→p.ok 1 Jad∧p.l=Jum a v k
theorem MA.zero (a:XAir):MA a 0 (List.replicate a.mine.places.l.length OwL.nil):=by
  refine ⟨by simp,fun r p hp=>?_⟩
  rw [List.getElem?_replicate] at hp
  split at hp
  · cases hp;exact ⟨OwL.nil_ok,rfl⟩
  · cases hp
theorem MA.stay {a:XAir} {k:Nat} {G:List (OwL Int)} (h:MA a k G) (hc:(a.mine.roads.l.getD k default).closed=true):MA a (k + 1) G:=by
  refine ⟨h.len,fun v p hp=>?_⟩
  rw [Jum,if_pos hc]
  exact h.ok v p hp
theorem MA.next {a : XAir} {k : Nat} {G : List (OwL Int)} (h : MA a k G) (hc : ¬ (a.mine.roads.l.getD k default).closed = true) {i j : Nat} (hi : (i : Int) = (a.mine.roads.l.getD k default).fr) (hj : (j : Int) = (a.mine.roads.l.getD k default).to) (hne : i ≠ j)
    {p q:OwL Int} (hp:G[i]?=some p) (hq:G[j]?=some q) {o o':Ow} {n:Int} (hn:n=((Jcf a k).length:Int)) (ho:(⟨o,p.l ++ [n]⟩:OwL Int).ok 1 Jad) (ho':(⟨o',q.l ++ [n]⟩:OwL Int).ok 1 Jad):
    MA a (k + 1) ((G.set i ⟨o,p.l ++ [n]⟩).set j ⟨o',q.l ++ [n]⟩):=by
  refine ⟨by simp [h.len],fun v x hx=>?_⟩
  rw [Jum,if_neg hc]
  rw [List.getElem?_set] at hx
  split at hx
  · rename_i hv
    subst hv
    split at hx
    · cases hx
      refine ⟨ho',?_⟩
      dsimp only
      rw [if_pos (.inr hj.symm),(h.ok j q hq).2,hn]
    · cases hx
  · rename_i hv
    rw [List.getElem?_set] at hx
    split at hx
    · rename_i hv2
      subst hv2
      split at hx
      · cases hx
        refine ⟨ho,?_⟩
        dsimp only
        rw [if_pos (.inl hi.symm),(h.ok i p hp).2,hn]
      · cases hx
    · rename_i hv2
      rw [if_neg (by omega)]
      exact h.ok v x hx
structure MP (a:XAir) (s:XSetting) (S:List Sl) (k:Nat) (P:OwL XPipe):Prop where
  ok:P.ok 12 XPipe.cells
  nums:P.l.map XPipe.num=(Jcf a k).map fun (i:Nat)=>(i:Int)
  pipe:∀p∈P.l,PipeIs a s p.num p∧InR p.sl S
theorem MP.length {a:XAir} {s:XSetting} {S:List Sl} {k:Nat} {P:OwL XPipe} (h:MP a s S k P):P.l.length=(Jcf a k).length:=by
  have:=congrArg List.length h.nums
  simpa using this
theorem MP.zero (a:XAir) (s:XSetting) (S:List Sl):MP a s S 0 OwL.nil:=⟨OwL.nil_ok,rfl,fun _ h=>by cases h⟩
theorem MP.stay {a:XAir} {s:XSetting} {S:List Sl} {k:Nat} {P:OwL XPipe} (h:MP a s S k P) (hc:(a.mine.roads.l.getD k default).closed=true):MP a s S (k + 1) P:=
  ⟨h.ok,by rw [Jcf,if_pos hc];exact h.nums,h.pipe⟩
theorem MP.next {a:XAir} {s:XSetting} {S:List Sl} {k:Nat} {P:OwL XPipe} (h:MP a s S k P) (hc:¬ (a.mine.roads.l.getD k default).closed=true) {p:XPipe} (hp:PipeIs a s k p) (hs:InR p.sl S) {o:Ow} (ho:(⟨o,P.l ++ [p]⟩:OwL XPipe).ok 12 XPipe.cells):
    MP a s S (k + 1) ⟨o,P.l ++ [p]⟩:=by
  refine ⟨ho,?_,fun q hq=>?_⟩
  · rw [Jcf, if_neg hc]
    simp [h.nums,hp.num]
  · rcases List.mem_append.1 hq with hq | hq
    · exact h.pipe q hq
    · rw [List.mem_singleton.1 hq]
      refine ⟨?_,hs⟩
      rw [hp.num]
      exact hp
theorem Jqg {α:Type} {T:TypeId} {f:α→List Value} (n:Nat):(List.replicate n (OwL.nil:OwL α)).flatMap (OwL.L T f)=[]:=by
  induction n with
  | zero=>rfl
  | succ n ih=>rw [List.replicate_succ,List.flatMap_cons,ih];rfl
theorem Jq6 {α:Type} (n:Nat):Joo [.slice none 0 0] n=(List.replicate n (OwL.nil:OwL α)).flatMap Jl3:=Jno (f:=Jl3) (x:=OwL.nil) rfl n
theorem Jzm (n:Nat):Joo [.int .i64 0,.int .i64 0] n=(List.replicate n (⟨0,0⟩:XSpan)).flatMap XSpan.cells:=Jno (f:=XSpan.cells) (x:=⟨0,0⟩) rfl n
end Go.Proofs.Ytihompplndcdeaa
end
section
namespace Go.Proofs.Ytihompplndcdeaa
open Go.Aw Go
set_option maxRecDepth 20000
attribute [local irreducible] CJ LJ DJ Tri YV Gives Jdn Jaw Jbk Jdo RV Jay OwL.L
theorem Jqv (a:XAir) (s:XSetting) (L:List Blk) (R:List Sl) (hm:AirR a R) (hs:SetR s R) (ha:AirOk a) (hf:FitOk a s):
    Tri Try.prog 63 [a.val,s.val].toArray L R (fun v L' R'=>∃n:XNet,v=n.val∧NetIs a s n∧L=L'∧Jiy n.pipes :: Jh1 n.at_ :: R=R'):=by
  have hmr:=hm.roads
  have hmp:=hm.places
  have hfa:=hm.fans
  have hdo:=hm.doors
  have hsf:=hs.fans
  have hsd:=hs.doors
  have hnd:=ha.ndoors
  have hnf:=ha.nfans
  have hlf:=hf.lf
  have hld:=hf.ld
  have hnr:=ha.mine.roads
  have hnp:=ha.mine.places
  refine Jae 181 Try.call63 Try.func63 rfl rfl rfl ?_
  refine Xaj ?_
  intro b2
  refine qax ?_
  intro b3
  refine qaq ?_
  intro b4
  refine qam ?_
  refine Xa7 ?_
  refine qc7 ?_
  rintro v L' R' ⟨b20,rfl,rfl,hR20⟩
  replace hR20:=hR20.symm;subst hR20
  refine Xcf ?_
  refine Xa7 ?_
  refine qc7 ?_
  rintro v L' R' ⟨b25,rfl,rfl,hR25⟩
  replace hR25:=hR25.symm;subst hR25
  refine Xbo ?_
  refine Xbm ?_
  refine Jag [(2,Value.pointer _),(3,Value.pointer _),(4,Value.pointer _),(5,Value.slice _ _ _),(6,Value.slice _ _ _),(27,Value.slice _ _ _),(28,Value.int _ _),(29,Value.int _ _)] (by repeat' (first | exact trivial | refine And.intro rfl ?_)) fun tq0=>?_
  refine Jcc [7,8,9,29,30,31,32,33,34,35,36,37,38,39,40,41,42,43,44,45,46,47,48,49,50,51,52,53,54,55,56,57,58,59,60,61,62,63] ((⟨fun g=>[(29,.int .i64 ((g.1:Nat):Int))],fun g=>⟨b25,Joo [.slice none 0 0] a.mine.roads.l.length,126⟩ :: ⟨b20,(Jeb a s g.1).flatMap XSpan.cells,54⟩ :: ⟨b4,[.slice none 0 0,.slice none 0 0],124⟩ :: ⟨b3,s.cells,35⟩ :: ⟨b2,a.cells,32⟩ :: L,fun _=>R,fun g=>a.doors.l.length - g.1⟩:Head {k:Nat // k≤a.doors.l.length})) (⟨0,by omega⟩) (by repeat' (first | exact trivial | refine And.intro rfl ?_)) (by dsimp only;rw [Jeb,← Jzm];exact List.Sublist.refl _) (Jac _) ?_
  rintro ⟨k,hk⟩ junk
  try dsimp only
  refine Xar ?_
  refine q_c (fun hc0=>?_) (fun hc0=>?_)
  ·
   have hd:=Jai (l:=a.doors.l) (k:=k) default (by omega)
   have hsk:=Jai (l:=s.doors.l) (k:=k) 0 (by omega)
   have hdk:=ha.door _ _ hd
   have hdr:=hdk.1.road
   have hrl:=Jfd a s k
   obtain ⟨y,hy,hy1,hy2⟩:=Jjj (s:=s) ha (r:=(a.doors.l.getD k default).road.toNat) (by omega) k (by omega)
   have hyb:=Jcz (s:=s) ha (r:=(((a.doors.l.getD k default).road.toNat:Nat):Int)) (by omega) k (by omega)
   have hrb:=Jh8 hdk.1 (s.doors.l.getD k 0)
   have hrr:=(ha.mine.road _ _ (Jai (l:=a.mine.roads.l) (k:=(a.doors.l.getD k default).road.toNat) default (by omega))).rest
   have hyg:(Jeb a s k).getD (a.doors.l.getD k default).road.toNat default=y:=getD_some hy
   refine Xa8 ?_
   refine qa3 ?_
   refine qdk ?_
   refine qaq ?_
   intro b8
   refine qad ?_
   refine qak ?_
   refine qa4 ?_
   refine Ja5 tb [0,1,2,3,4,5,6,7,8] _ Jbh (by kernel_rfl) (List.Sublist.refl _) ?_
   refine Jbx (Jba (row:=[_,_,_]) tb rfl rfl rfl (by repeat (first | exact zi0 | apply zi1 | apply zi2)) (by rfl) (by rfl)) rfl rfl rfl ?_
   refine Xb6 ?_
   refine qbl ?_
   refine q_d rfl (J0m (a.doors.l.getD k default) (s.doors.l.getD k 0) _ _ (hdo.door hd)) ?_
   refine qbr ?_
   intro b9
   refine qbg ?_
   refine qb9 ?_
   refine J4u ?_
   refine Xcx ?_
   refine J0a ?_
   refine qcv ?_
   refine qcr ?_
   refine Xac ?_
   refine qcj ?_
   refine J0a ?_
   refine qcv ?_
   refine qba ?_
   refine Jex (v:=Value.int _ _) rfl rfl rfl rfl (by repeat (first | apply zu0 | apply zu1 | apply zu2)) (by exact Jfx (fun _=>rfl) (by assumption) (by decide)) (by exact Jfu (x':=⟨y.low + (Jeh (a.doors.l.getD k default) (s.doors.l.getD k 0)).low,y.high⟩) (fun _=>rfl) (by decide) (by assumption) (by rfl)) (by rfl) (by repeat (first | exact zs0 _ | exact zs1 _ | apply zs2 | apply zs3 | apply zs4 | apply zs5)) ?_
   refine qbu ?_
   obtain ⟨y2,hy2e⟩:∃y2:XSpan,y2=⟨y.low + (Jeh (a.doors.l.getD k default) (s.doors.l.getD k 0)).low,y.high⟩:=⟨_,rfl⟩
   have hy':((Jeb a s k).set (a.doors.l.getD k default).road.toNat ⟨y.low + (Jeh (a.doors.l.getD k default) (s.doors.l.getD k 0)).low,y.high⟩)[(a.doors.l.getD k default).road.toNat]?=some y2:=by rw [hy2e];exact List.getElem?_set_self (by omega)
   have hy2h:y2.high=y.high:=by rw [hy2e]
   refine J4u ?_
   refine Xcx ?_
   refine J0a ?_
   refine qcv ?_
   refine qcr ?_
   refine Xac ?_
   refine qcj ?_
   refine J0a ?_
   refine qcv ?_
   refine qba ?_
   refine Jex (v:=Value.int _ _) rfl rfl rfl rfl (by repeat (first | apply zu0 | apply zu1 | apply zu2)) (by exact Jfx (fun _=>rfl) (by assumption) (by decide)) (by exact Jfu (x':=⟨y2.low,y2.high + (Jeh (a.doors.l.getD k default) (s.doors.l.getD k 0)).high⟩) (fun _=>rfl) (by decide) (by assumption) (by rfl)) (by rfl) (by repeat (first | exact zs0 _ | exact zs1 _ | apply zs2 | apply zs3 | apply zs4 | apply zs5)) ?_
   refine qby ?_
   refine Xag ?_
   subst hy2e
   exact Jau ⟨k + 1,by omega⟩ (by repeat (first | exact Off.refl | apply Off.upd rfl | apply Off.havoc rfl | apply Off.updL rfl | apply Off.left rfl)) (by repeat' (first | exact trivial | refine And.intro rfl ?_)) (by dsimp only;rw [List.set_set,Jeb];(try dsimp only);rw [hyg];exact (by repeat (first | exact zs0 _ | exact zs1 _ | apply zs2 | apply zs3 | apply zs4 | apply zs5))) (Jac _) (by dsimp only;omega)
  obtain rfl:k=a.doors.l.length:=by omega
  refine qcf ?_
  refine Xbm ?_
  refine Jag [(2,Value.pointer _),(3,Value.pointer _),(4,Value.pointer _),(5,Value.slice _ _ _),(6,Value.slice _ _ _),(65,Value.slice _ _ _),(66,Value.int _ _),(67,Value.int _ _)] (by repeat' (first | exact trivial | refine And.intro rfl ?_)) fun tq1=>?_
  refine Jcc [10,11,67,68,69,70,71,72,73,74,75,76,77,78,79,80,81,82,83,84,85,86,87,88,89,90,91,92,93,94,95,96] ((⟨fun g=>[(67,.int .i64 ((g.1.1:Nat):Int))],fun g=>⟨b25,g.1.2.flatMap Jl3,126⟩ :: ⟨b20,(Jeb a s a.doors.l.length).flatMap XSpan.cells,54⟩ :: ⟨b4,[.slice none 0 0,.slice none 0 0],124⟩ :: ⟨b3,s.cells,35⟩ :: ⟨b2,a.cells,32⟩ :: (g.1.2.flatMap (OwL.L 153 XBlow.cells) ++ L),fun _=>R,fun g=>a.fans.l.length - g.1.1⟩:Head {g:Nat×List (OwL XBlow) // g.1≤a.fans.l.length∧MF a s g.1 g.2})) (⟨(0,List.replicate a.mine.roads.l.length OwL.nil),by omega,MF.zero a s⟩) (by repeat' (first | exact trivial | refine And.intro rfl ?_)) (by dsimp only;rw [Jqg,← Jq6];exact List.Sublist.refl _) (Jac _) ?_
  rintro ⟨⟨k,F⟩,hk,hF⟩ junk
  try dsimp only
  dsimp only at hk hF
  refine Xar ?_
  refine q_c (fun hc1=>?_) (fun hc1=>?_)
  ·
   have hd:=Jai (l:=a.fans.l) (k:=k) default (by omega)
   have hsk:=Jai (l:=s.fans.l) (k:=k) 0 (by omega)
   have hdk:=ha.fan _ _ hd
   have hdr:=hdk.1.road
   have hFl:=hF.len
   have hfl:(a.fans.l.getD k default).road.toNat < F.length:=by omega
   obtain ⟨p,hp⟩:=Jar hfl
   have hpk:=hF.ok _ _ hp
   have hpl:=Jgj (a:=a) (s:=s) (r:=(((a.fans.l.getD k default).road.toNat:Nat):Int)) k
   rw [← hpk.2] at hpl
   refine Xa8 ?_
   refine qa3 ?_
   refine qdr ?_
   refine qaq ?_
   intro b11
   refine qad ?_
   refine Xbe ?_
   refine Xah ?_
   refine Xc1 ?_
   refine Xa3 ?_
   refine q_c (fun hc2=>?_) (fun hc2=>?_)
   ·
    refine Jaz tb [78,79,80] [0,1,2,3,4,5,6,7,8,9,10,11,12,13,14,15] [16,17,18] ([Blk.mk b11 _ _,Blk.mk b25 _ _,Blk.mk b3 _ _]) _ Jbh (by kernel_rfl) (by repeat (first | exact zs0 _ | exact zs1 _ | apply zs2 | apply zs3 | apply zs4 | apply zs5)) (by (repeat (first | apply List.Sublist.cons (a:=Blk.mk b25 _ _) | apply List.Sublist.cons_cons));exact List.Sublist.refl _) ?_
    refine Jgf (Jap (show _=Value.slice _ _ _ from rfl)) rfl rfl rfl rfl ?_
    refine Xb8 ?_
    refine Xcx ?_
    refine Jb1 (Jah tb rfl rfl rfl rfl (i:=(a.fans.l.getD k default).road.toNat) (by first | rfl | omega | (simp;omega)) (by omega)) rfl rfl rfl rfl ?_
    refine qcr ?_
    refine qde ?_
    refine Xba ?_
    refine qc5 ?_
    refine qci ?_
    refine Jb1 (Jbo (qs:=[(0,(Value.agg _).cells.toList),(1,(Value.int _ _).cells.toList)]) (out:=[_,_,_,_,_]) tb rfl rfl rfl rfl) rfl rfl rfl rfl ?_
    refine Jti (Jas (qs:=[(0,(Value.agg _).cells.toList)]) (out:=[_,_,_,_,_]) tb rfl rfl rfl rfl rfl rfl rfl) rfl rfl rfl ?_
    rintro v L' R' ⟨b93,rfl,rfl,hR93⟩
    replace hR93:=hR93.symm;subst hR93
    refine Xbz ?_
    refine Jmx (Jam (f:=XBlow.cells) (a:=⟨a.fans.l.getD k default,s.fans.l.getD k 0⟩) tb rfl rfl rfl rfl (hpk.1) (by repeat (first | apply OSeg.cons | exact OSeg.here | exact OSeg.last | exact OSeg.at (by assumption) | apply OSeg.app)) (Ja1 (by repeat (first | exact zi0 | apply zi1 | apply zi2)) rfl rfl) rfl (by first | omega | (simp only [List.length_cons,List.length_nil,List.length_append];omega))) rfl rfl rfl ?_
    rintro v L' R' ⟨o94,rfl,hok94,rfl,rfl⟩
    refine qa1 ?_
    refine Jbx (Jah tb rfl rfl rfl rfl (i:=(a.fans.l.getD k default).road.toNat) (by first | rfl | omega | (simp;omega)) (by omega)) rfl rfl rfl ?_
    refine Jex (v:=Value.slice _ _ _) rfl rfl rfl rfl (by repeat (first | apply zu0 | apply zu1 | apply zu2)) (by exact Jfx (fun _=>rfl) (by assumption) (by decide)) (by exact Jfu (x':=⟨o94,p.l ++ [⟨a.fans.l.getD k default,s.fans.l.getD k 0⟩]⟩) (fun _=>rfl) (by decide) (by assumption) (by rfl)) (by rfl) (by repeat (first | exact zs0 _ | exact zs1 _ | apply zs2 | apply zs3 | apply zs4 | apply zs5)) ?_
    refine qby ?_
    refine Xag ?_
    first | exact q_k ⟨(k + 1,_),by dsimp only;omega,hF.next hc2 (by omega) hp hok94⟩ | exact q_k ⟨(k + 1,F),by dsimp only;omega,hF.stay (by simpa using hc2)⟩
   refine Xay ?_
   first | exact q_k ⟨(k + 1,_),by dsimp only;omega,hF.next hc2 (by omega) hp hok94⟩ | exact q_k ⟨(k + 1,F),by dsimp only;omega,hF.stay (by simpa using hc2)⟩
  obtain rfl:k=a.fans.l.length:=by omega
  refine qbk ?_
  refine Xa7 ?_
  refine qc7 ?_
  rintro v L' R' ⟨b101,rfl,rfl,hR101⟩
  replace hR101:=hR101.symm;subst hR101
  refine Jax (Jbo (qs:=[(1,(Value.slice _ _ _).cells.toList)]) (out:=[_,_]) tb rfl rfl rfl rfl) rfl ?_
  refine qaq ?_
  intro b12
  refine Xbk ?_
  refine Xa7 ?_
  refine Xas ?_
  refine Jag [(4,Value.pointer _),(5,Value.slice _ _ _),(6,Value.slice _ _ _),(12,Value.pointer _),(105,Value.slice _ _ _),(106,Value.int _ _),(107,Value.int _ _)] (by repeat' (first | exact trivial | refine And.intro rfl ?_)) fun tq2=>?_
  have mem:∀p∈F,∃r:Nat,F[r]?=some p:=fun p hp=>List.mem_iff_getElem?.1 hp
  refine Jx6 (A:=[_,_,_,_,_,_,_]) (wd:=5) (fun b=>b.fan.sl) (fun _=>rfl) (by decide) (fun p hp=>?okF) (fun p hp x hx=>?subF) fun S hS=>?_
  case okF=>obtain ⟨r,hr⟩:=mem p hp;exact (hF.ok r p hr).1
  case subF=>
    obtain ⟨r,hr⟩:=mem p hp
    rw [(hF.ok r p hr).2] at hx
    obtain ⟨i,hi⟩:=Jhb _ (Nat.le_refl _) x hx
    exact hfa.fan hi
  refine qb1 ?_
  have hmr2:InR (rsl a.mine.roads) (S ++ R):=hmr.mono fun r h=>Jab (by simp [h])
  refine Jcc [13,14,15,107,108,109,110,111,112,113,114,115,116,117,118,119,120,121,122,123,124,125,126,127,128,129,130,131,132,133,134,135,136,137,138,139,140,141,142,143,144,145,146,147,148,149,150,151,152,153,154,155,156,157,158,159,160,161,162,163,164,165,166,167,168,169,170,171,172,173,174,175,176,177,178,179] ((⟨fun g=>[(107,.int .i64 ((g.1.1:Nat):Int))],fun g=>⟨b12,[g.1.2.1.val,.slice (some ⟨b101,0,none⟩) a.mine.places.l.length a.mine.places.l.length],124⟩ :: ⟨b101,g.1.2.2.flatMap Jl3,33⟩ :: ⟨b25,F.flatMap Jl3,126⟩ :: ⟨b20,(Jeb a s a.doors.l.length).flatMap XSpan.cells,54⟩ :: ⟨b4,[.slice none 0 0,.slice none 0 0],124⟩ :: ⟨b3,s.cells,35⟩ :: ⟨b2,a.cells,32⟩ :: (g.1.2.1.L 128 XPipe.cells ++ (g.1.2.2.flatMap (OwL.L 3 Jad) ++ L)),fun _=>S ++ R,fun g=>a.mine.roads.l.length - g.1.1⟩:Head {g:Nat×OwL XPipe×List (OwL Int) // g.1≤a.mine.roads.l.length∧MP a s S g.1 g.2.1∧MA a g.1 g.2.2})) (⟨(0,OwL.nil,List.replicate a.mine.places.l.length OwL.nil),by dsimp only;omega,MP.zero a s S,MA.zero a⟩) (by repeat' (first | exact trivial | refine And.intro rfl ?_)) (by dsimp only;rw [Jc7,Jqg,← Jq6];exact List.Sublist.refl _) (Jac _) ?_
  rintro ⟨⟨k,P,G⟩,hk,hP,hG⟩ junk
  try dsimp only
  dsimp only at hk hP hG
  refine Xar ?_
  refine q_c (fun hc3=>?_) (fun hc3=>?_)
  ·
   have hr:=Jai (l:=a.mine.roads.l) (k:=k) default (by omega)
   have hro:=ha.mine.road _ _ hr
   have hr1:=hro.fr
   have hr2:=hro.to
   have hr3:=hro.ne
   have hrr:=hro.rest
   have hGl:=hG.len
   have hFl:=hF.len
   have hPl:=hP.length
   have hol:=Jha a k
   have hkF:k < F.length:=by omega
   obtain ⟨fk,hfk⟩:=Jar hkF
   have hfk2:=hF.ok _ _ hfk
   have hg1:(a.mine.roads.l.getD k default).fr.toNat < G.length:=by omega
   have hg2:(a.mine.roads.l.getD k default).to.toNat < G.length:=by omega
   obtain ⟨p,hp⟩:=Jar hg1
   obtain ⟨q,hq⟩:=Jar hg2
   have hpk:=hG.ok _ _ hp
   have hqk:=hG.ok _ _ hq
   have hpl:=Jf1 a (a.mine.roads.l.getD k default).fr.toNat k
   have hql:=Jf1 a (a.mine.roads.l.getD k default).to.toNat k
   rw [← hpk.2] at hpl
   rw [← hqk.2] at hql
   have hne:(a.mine.roads.l.getD k default).fr.toNat≠(a.mine.roads.l.getD k default).to.toNat:=by omega
   obtain ⟨y,hy,hy1,hy2⟩:=Jjj (s:=s) ha (r:=k) (by omega) a.doors.l.length (by omega)
   have hyb:=Jcz (s:=s) ha (r:=((k:Nat):Int)) (by omega) a.doors.l.length (by omega)
   have hrl:=Jfd a s a.doors.l.length
   refine Xa8 ?_
   refine qa3 ?_
   refine qc8 ?_
   refine qaq ?_
   intro b14
   refine qad ?_
   refine Xcv ?_
   refine qaf ?_
   refine q_c (fun hc4=>?_) (fun hc4=>?_)
   ·
    refine Jcs (Jbv (Jbf (Jaa (Jaj ?_))))
    refine Xag ?_
    first
      | exact q_k ⟨(k + 1,P,G),by dsimp only;omega,hP.stay hc4,hG.stay hc4⟩
      | have hre:Jbq a s (k:Int) a.doors.l.length=⟨(a.mine.roads.l.getD k default).rest.low + y.low,(a.mine.roads.l.getD k default).rest.high + y.high⟩:=by
          cases hc:Jbq a s (k:Int) a.doors.l.length with
          | mk lo hi=>rw [hc] at hy1 hy2;dsimp only at hy1 hy2;rw [hy1,hy2]
        have hcc:¬ (a.mine.roads.l.getD k default).closed=true:=by simpa using hc4
        exact q_k ⟨(k + 1,_,_),by dsimp only;omega,hP.next hcc ⟨by rw [Int.toNat_natCast,hre],rfl,hfk2.2⟩ (hS fk (List.mem_of_getElem? hfk)) hok177,hG.next hcc (by omega) (by omega) hne hp hq (by omega) hok129 hok143⟩
   refine qbv ?_
   refine Xab ?_
   refine Xb3 ?_
   refine Jaz tb [117,118,119,120] [0,1,2,3,4,5,6,7,8,9,10,11] [12,13,14] ([Blk.mk b14 _ _,Blk.mk b12 _ _,Blk.mk b101 _ _]) _ Jbh (by kernel_rfl) (by repeat (first | exact zs0 _ | exact zs1 _ | apply zs2 | apply zs3 | apply zs4 | apply zs5)) (by (repeat (first | apply List.Sublist.cons (a:=Blk.mk b101 _ _) | apply List.Sublist.cons_cons));exact List.Sublist.refl _) ?_
   refine Xb8 ?_
   refine Xb8 ?_
   refine Xac ?_
   refine Xac ?_
   refine Jb1 (Jah tb rfl rfl rfl rfl (i:=(a.mine.roads.l.getD k default).fr.toNat) (by first | rfl | omega | (simp;omega)) (by omega)) rfl rfl rfl rfl ?_
   refine qcr ?_
   refine qbf ?_
   refine qc9 ?_
   rintro v L' R' ⟨b128,rfl,rfl,hR128⟩
   replace hR128:=hR128.symm;subst hR128
   refine Xbz ?_
   refine Jmx (Jam (f:=Jad) (a:=(P.l.length:Int)) tb rfl rfl rfl rfl (hpk.1) (by repeat (first | apply OSeg.cons | exact OSeg.here | exact OSeg.last | exact OSeg.at (by assumption) | apply OSeg.app)) (Ja1 (by repeat (first | exact zi0 | apply zi1 | apply zi2)) rfl rfl) rfl (by first | omega | (simp only [List.length_cons,List.length_nil,List.length_append];omega))) rfl rfl rfl ?_
   rintro v L' R' ⟨o129,rfl,hok129,rfl,rfl⟩
   refine qa1 ?_
   refine Jbx (Jah tb rfl rfl rfl rfl (i:=(a.mine.roads.l.getD k default).fr.toNat) (by first | rfl | omega | (simp;omega)) (by omega)) rfl rfl rfl ?_
   refine Jex (v:=Value.slice _ _ _) rfl rfl rfl rfl (by repeat (first | apply zu0 | apply zu1 | apply zu2)) (by exact Jfx (fun _=>rfl) (by assumption) (by decide)) (by exact Jfu (x':=⟨o129,p.l ++ [(P.l.length:Int)]⟩) (fun _=>rfl) (by decide) (by assumption) (by rfl)) (by rfl) (by repeat (first | exact zs0 _ | exact zs1 _ | apply zs2 | apply zs3 | apply zs4 | apply zs5)) ?_
   refine qb9 ?_
   have hq':(G.set (a.mine.roads.l.getD k default).fr.toNat ⟨o129,p.l ++ [(P.l.length:Int)]⟩)[(a.mine.roads.l.getD k default).to.toNat]?=some q:=by rw [List.getElem?_set_ne hne];exact hq
   refine Jaz tb [131,132,133,134] [0,1,2,3,4,5,6,7,8,9,10,11] [12,13,14] ([Blk.mk b14 _ _,Blk.mk b12 _ _,Blk.mk b101 _ _]) _ Jbh (by kernel_rfl) (by repeat (first | exact zs0 _ | exact zs1 _ | apply zs2 | apply zs3 | apply zs4 | apply zs5)) (by (repeat (first | apply List.Sublist.cons (a:=Blk.mk b101 _ _) | apply List.Sublist.cons_cons));exact List.Sublist.refl _) ?_
   refine Xb8 ?_
   refine Xb8 ?_
   refine Xac ?_
   refine Xac ?_
   refine Jb1 (Jah tb rfl rfl rfl rfl (i:=(a.mine.roads.l.getD k default).to.toNat) (by first | rfl | omega | (simp;omega)) (by omega)) rfl rfl rfl rfl ?_
   refine qcr ?_
   refine qbf ?_
   refine qc9 ?_
   rintro v L' R' ⟨b142,rfl,rfl,hR142⟩
   replace hR142:=hR142.symm;subst hR142
   refine Xbz ?_
   refine Jmx (Jam (f:=Jad) (a:=(P.l.length:Int)) tb rfl rfl rfl rfl (hqk.1) (by repeat (first | apply OSeg.cons | exact OSeg.here | exact OSeg.last | exact OSeg.at (by assumption) | apply OSeg.app)) (Ja1 (by repeat (first | exact zi0 | apply zi1 | apply zi2)) rfl rfl) rfl (by first | omega | (simp only [List.length_cons,List.length_nil,List.length_append];omega))) rfl rfl rfl ?_
   rintro v L' R' ⟨o143,rfl,hok143,rfl,rfl⟩
   refine qa1 ?_
   refine Jbx (Jah tb rfl rfl rfl rfl (i:=(a.mine.roads.l.getD k default).to.toNat) (by first | rfl | omega | (simp;omega)) (by omega)) rfl rfl rfl ?_
   refine Jex (v:=Value.slice _ _ _) rfl rfl rfl rfl (by repeat (first | apply zu0 | apply zu1 | apply zu2)) (by exact Jfx (fun _=>rfl) (by assumption) (by decide)) (by exact Jfu (x':=⟨o143,q.l ++ [(P.l.length:Int)]⟩) (fun _=>rfl) (by decide) (by assumption) (by rfl)) (by rfl) (by repeat (first | exact zs0 _ | exact zs1 _ | apply zs2 | apply zs3 | apply zs4 | apply zs5)) ?_
   refine qb9 ?_
   refine J5d ?_
   refine Xcn ?_
   refine qct ?_
   refine qbf ?_
   refine J26 ?_
   refine qcv ?_
   refine qcr ?_
   refine qcj ?_
   refine qan ?_
   refine Xc0 ?_
   refine qb9 ?_
   refine J5d ?_
   refine Xcn ?_
   refine qct ?_
   refine qbf ?_
   refine J26 ?_
   refine qcv ?_
   refine qcr ?_
   refine qcj ?_
   refine qan ?_
   refine Xc0 ?_
   refine qbu ?_
   refine Jaz tb [] [0,1,2,3,4,5,6,7,8,9] [10,11,12] ([Blk.mk b14 _ _,Blk.mk b12 _ _,Blk.mk b25 _ _]) _ Jbh (by kernel_rfl) (by repeat (first | exact zs0 _ | exact zs1 _ | apply zs2 | apply zs3 | apply zs4 | apply zs5)) (List.nil_sublist _) ?_
   refine Xac ?_
   refine Jb1 (Jba (row:=[_,_,_,_,_,_,_,_,_,_]) tb rfl rfl rfl (by repeat (first | exact zi0 | apply zi1 | apply zi2)) (by rfl) (by rfl)) rfl rfl rfl rfl ?_
   refine qbf ?_
   refine qct ?_
   refine qbf ?_
   refine J26 ?_
   refine qcr ?_
   refine Jb1 (Jbo (qs:=[(0,(Value.agg _).cells.toList),(1,(Value.int _ _).cells.toList),(2,(Value.slice _ _ _).cells.toList)]) (out:=[_,_,_,_,_,_,_,_,_,_,_,_]) tb rfl rfl rfl rfl) rfl rfl rfl rfl ?_
   refine Jti (Jas (qs:=[(0,(Value.agg _).cells.toList)]) (out:=[_,_,_,_,_,_,_,_,_,_,_,_]) tb rfl rfl rfl rfl rfl rfl rfl) rfl rfl rfl ?_
   rintro v L' R' ⟨b176,rfl,rfl,hR176⟩
   replace hR176:=hR176.symm;subst hR176
   refine Xbz ?_
   refine Jmx (Jam (f:=XPipe.cells) (a:=⟨{ a.mine.roads.l.getD k default with rest:=⟨(a.mine.roads.l.getD k default).rest.low + y.low,(a.mine.roads.l.getD k default).rest.high + y.high⟩ },(k:Int),fk.arr⟩) tb rfl rfl rfl rfl (hP.ok) (by repeat (first | apply OSeg.cons | exact OSeg.here | exact OSeg.last | exact OSeg.at (by assumption) | apply OSeg.app)) (Ja1 (by repeat (first | exact zi0 | apply zi1 | apply zi2)) rfl rfl) rfl (by first | omega | (simp only [List.length_cons,List.length_nil,List.length_append];omega))) rfl rfl rfl ?_
   rintro v L' R' ⟨o177,rfl,hok177,rfl,rfl⟩
   refine qa1 ?_
   refine Xb0 ?_
   refine qby ?_
   refine Xag ?_
   first
     | exact q_k ⟨(k + 1,P,G),by dsimp only;omega,hP.stay hc4,hG.stay hc4⟩
     | have hre:Jbq a s (k:Int) a.doors.l.length=⟨(a.mine.roads.l.getD k default).rest.low + y.low,(a.mine.roads.l.getD k default).rest.high + y.high⟩:=by
         cases hc:Jbq a s (k:Int) a.doors.l.length with
         | mk lo hi=>rw [hc] at hy1 hy2;dsimp only at hy1 hy2;rw [hy1,hy2]
       have hcc:¬ (a.mine.roads.l.getD k default).closed=true:=by simpa using hc4
       exact q_k ⟨(k + 1,_,_),by dsimp only;omega,hP.next hcc ⟨by rw [Int.toNat_natCast,hre],rfl,hfk2.2⟩ (hS fk (List.mem_of_getElem? hfk)) hok177,hG.next hcc (by omega) (by omega) hne hp hq (by omega) hok129 hok143⟩
  obtain rfl:k=a.mine.roads.l.length:=by omega
  refine qc3 ?_
  have hGl:=hG.len
  refine Jbn (A:=[_,_,_,_,_,_,_]) (wd:=12) (P.l.map XPipe.sl) (fun _=>rfl) (by decide) hP.ok (fun x hx=>?subP) ?_
  case subP=>obtain ⟨p,hp,rfl⟩:=List.mem_map.1 hx;exact (hP.pipe p hp).2.mono fun r h=>Jab (by simp [h])
  refine qb1 ?_
  refine Jo4 (A:=[_,_,_,_,_,_,_]) (wd:=1) (fun _=>rfl) (by decide) (fun p hp=>?okG) fun S2 hS2=>?_
  case okG=>obtain ⟨r,hr⟩:=List.mem_iff_getElem?.1 hp;exact (hG.ok r p hr).1
  refine qb1 ?_
  refine Jjy (A:=[_]) (wd:=1) (len:=(G.map OwL.arr).length) (cap:=a.mine.places.l.length) (rows:=(G.map OwL.arr).map J20) (subs:=(G.map OwL.arr).map isl) (by simp) (by simp;omega) (by omega) (fun r hr=>?w1) (by decide) ?cs1 (fun x hx=>?subG) ?_
  case w1=>obtain ⟨y,_,rfl⟩:=List.mem_map.1 hr;rfl
  case cs1=>
    rw [Jmq,List.flatMap_map,List.take_of_length_le (by rw [Jb6 (wd:=1) (fun _=>rfl)];simp)]
    rfl
  case subG=>
    obtain ⟨y,hy,rfl⟩:=List.mem_map.1 hx
    obtain ⟨p,hp,rfl⟩:=List.mem_map.1 hy
    exact (hS2 p hp).mono fun r h=>Jab (by simp [h])
  refine qb1 ?_
  refine qay ?_
  refine Xcs ?_
  refine Jbj (L':=L) (R':=Jiy P.arr :: Jh1 ⟨some ⟨b101,0,none⟩,a.mine.places.l.length,G.map OwL.arr⟩ :: R) (Jd4 rfl (Ja0 (row:=[_,_]) tb rfl rfl rfl (by repeat (first | exact zi0 | apply zi1 | apply zi2)) (by rfl) (by rfl))) ?hp ?hL ?hR
  case hp=>
   refine ⟨⟨P.arr,⟨some ⟨b101,0,none⟩,a.mine.places.l.length,G.map OwL.arr⟩⟩,?_,⟨hP.nums,fun p hp=>(hP.pipe p hp).1,by simp [hGl],fun v x hx=>?_⟩,rfl,rfl⟩
   · simp only [XNet.val, Arr.val, List.length_map, hGl]
     rfl
   · dsimp only at hx
     rw [List.getElem?_map] at hx
     obtain ⟨p,hp,rfl⟩:=Option.map_eq_some_iff.1 hx
     exact (hG.ok v p hp).2
  case hL=>exact (by repeat (first | exact zs0 _ | exact zs1 _ | apply zs2 | apply zs3 | apply zs4 | apply zs5))
  case hR=>exact fun r hr=>Jab (by simp only [List.mem_cons,List.mem_append] at hr ⊢;rcases hr with h | h | h <;> simp [h])
end Go.Proofs.Ytihompplndcdeaa
end
section
namespace Go.Proofs.Ytihompplndcdeaa
open Go.Aw Go
set_option maxRecDepth 20000
attribute [local irreducible] CJ LJ DJ Tri YV Gives Jdn Jaw Jbk Jdo RV Jay OwL.L
theorem Jiz {a : XAir} {i : Nat} : ∀ {k : Nat}, i ∈ Jcf a k ↔ i < k ∧ (a.mine.roads.l.getD i default).closed = false
  | 0=>by simp [Jcf]
  | k + 1=>by
    have ih:=Jiz (a:=a) (i:=i) (k:=k)
    simp only [Jcf]
    by_cases hc:(a.mine.roads.l.getD k default).closed=true
    · rw [if_pos hc, ih]
      constructor
      · rintro ⟨h1,h2⟩;exact ⟨by omega,h2⟩
      · rintro ⟨h1, h2⟩
        refine ⟨?_,h2⟩
        rcases Nat.lt_or_eq_of_le (Nat.le_of_lt_succ h1) with h | h
        · exact h
        · subst h;rw [hc] at h2;cases h2
    · rw [if_neg hc, List.mem_append, ih, List.mem_singleton]
      constructor
      · rintro (⟨h1, h2⟩ | rfl)
        · exact ⟨by omega,h2⟩
        · exact ⟨by omega,by simpa using hc⟩
      · rintro ⟨h1, h2⟩
        rcases Nat.lt_or_eq_of_le (Nat.le_of_lt_succ h1) with h | h
        · exact .inl ⟨h,h2⟩
        · exact .inr h
theorem NetIs.find {a:XAir} {s:XSetting} {n:XNet} (h:NetIs a s n) {r:Int} (hr:0≤r∧r < a.mine.roads.l.length) (hc:(a.mine.roads.l.getD r.toNat default).closed=false):∃(j:Nat) (p:XPipe),n.pipes.l[j]?=some p∧p.num=r:=by
  have h1:r.toNat∈Jcf a a.mine.roads.l.length:=Jiz.2 ⟨by omega,hc⟩
  have h2:r∈n.pipes.l.map XPipe.num:=by
    rw [h.nums]
    exact List.mem_map.2 ⟨_,h1,by omega⟩
  obtain ⟨p,hp,he⟩:=List.mem_map.1 h2
  obtain ⟨j,hj⟩:=List.mem_iff_getElem?.1 hp
  exact ⟨j,p,hj,he⟩
theorem NetIs.open {a:XAir} {s:XSetting} {n:XNet} (h:NetIs a s n) {p:XPipe} (hp:p∈n.pipes.l):(0≤p.num∧p.num < a.mine.roads.l.length)∧(a.mine.roads.l.getD p.num.toNat default).closed=false:=by
  have h2:p.num∈n.pipes.l.map XPipe.num:=List.mem_map.2 ⟨p,hp,rfl⟩
  rw [h.nums] at h2
  obtain ⟨i,hi,he⟩:=List.mem_map.1 h2
  obtain ⟨h3,h4⟩:=Jiz.1 hi
  rw [← he]
  exact ⟨by omega,by simpa using h4⟩
theorem NetIs.length {a:XAir} {s:XSetting} {n:XNet} (h:NetIs a s n):n.pipes.l.length≤a.mine.roads.l.length:=by
  have:=congrArg List.length h.nums
  simp only [List.length_map] at this
  have:=Jha a a.mine.roads.l.length
  omega
theorem InR.pipe {x:Arr XPipe} {R:List Sl} (h:InR (Jiy x) R) {i:Nat} {p:XPipe} (hi:x.l[i]?=some p):InR p.sl R:=
  h.sub (.deep (List.mem_map.2 ⟨p,List.mem_of_getElem? hi,rfl⟩) .here)
theorem Jwz {a : XAir} {s : XSetting} {x : XState} (h0 : Jat a = 0) (h1 : Jdl a s = true) (h2 : ¬ (x.pres.l.length ≠ a.mine.places.l.length ∨ x.flows.l.length ≠ a.mine.roads.l.length)) (h3 : x.pres.l.findSome? Jb5 = none) (h4 : x.flows.l.findSome? Jhr = none)
    (h5:∀i,i < x.flows.l.length→Jdc a s x i=none) (h6:∀v,v < x.pres.l.length→Jcu a x (Jdw a x x.flows.l.length) v=none):Joz a s x=0:=by
  have e1:(List.range x.flows.l.length).findSome? (Jdc a s x)=none:=List.findSome?_eq_none_iff.2 fun i hi=>h5 i (List.mem_range.1 hi)
  have e2:(List.range x.pres.l.length).findSome? (Jcu a x (Jdw a x x.flows.l.length))=none:=List.findSome?_eq_none_iff.2 fun i hi=>h6 i (List.mem_range.1 hi)
  rw [Jqu h0 h1 h2,h3,h4,e1,e2]
  rfl
theorem Jss {l:List Int} (h:l.findSome? Jb5=none):∀(i:Nat) (p:Int),l[i]?=some p→-70368744177664≤p∧p≤70368744177664:=fun i p hp=>by
  have:=List.findSome?_eq_none_iff.1 h p (List.mem_of_getElem? hp)
  unfold Jb5 at this
  split at this
  · cases this
  · omega
end Go.Proofs.Ytihompplndcdeaa
end
section
namespace Go.Proofs.Ytihompplndcdeaa
open Go.Aw Go
set_option maxRecDepth 20000
attribute [local irreducible] CJ LJ DJ Tri YV Gives Jdn Jaw Jbk Jdo RV Jay OwL.L
structure MadeRoad (fr to:Int) (r:XRoad):Prop where
  fr:r.fr=fr
  to:r.to=to
  len:1≤r.len∧r.len≤400
  area:4≤r.area∧r.area≤30
  closed:r.closed=false
  rest:1≤r.rest.low∧r.rest.low≤r.rest.high∧r.rest.high≤22
  lift:-300≤r.lift.low∧r.lift.low≤r.lift.high∧r.lift.high≤320
theorem CodesR.mono {x:Arr Int} {R R':List Sl} (h:CodesR x R) (k:∀r∈R,InR r R'):CodesR x R':=⟨h.sl.mono k,h.byte⟩
theorem Jsb (c:Nat) (x:Arr Int) (k:Nat) (fr to:Int) (R:List Sl) (hx:CodesR x R) (hk:k≤x.l.length):
    Tri Try.prog 25 [.pointer (some ⟨c, 0, none⟩), .int .i64 fr, .int .i64 to].toArray [cblk c x k] R
      (fun v L' R'=>∃(r:XRoad) (k':Nat),v=r.val∧MadeRoad fr to r∧k'≤x.l.length∧[cblk c x k']=L'∧R=R'):=by
  refine Jae 42 Try.call25 Try.func25 rfl rfl rfl ?_
  refine qae ?_
  refine qaq ?_
  intro b6
  refine qam ?_
  refine qaa ?_
  refine qaa ?_
  refine qa6 ?_
  refine J3f ?_
  rintro v L' R' ⟨r1,k1,rfl,g1,g1',hk1,rfl,rfl⟩
  refine qa6 ?_
  refine J22 ?_
  rintro v L' R' ⟨r2,k2,rfl,g2,g2',hk2,rfl,rfl⟩
  refine qa6 ?_
  refine J3l ?_
  rintro v L' R' ⟨r3,k3,rfl,g3,g3',g3'',hk3,rfl,rfl⟩
  refine qa5 ?_
  refine qa6 ?_
  refine Jaq rfl (Jlt (by repeat (first | apply USeg.here | apply USeg.cons | apply USeg.app)) hx hk3 (by omega)) rfl ?_
  rintro v L' R' ⟨r4,k4,rfl,g4,g4',hk4,rfl,rfl⟩
  refine Jax (Jbo (qs:=[(0,(Value.int _ _).cells.toList)]) (out:=[_,_]) tb rfl rfl rfl rfl) rfl ?_
  refine Jax (Jbo (qs:=[(0,(Value.int _ _).cells.toList),(1,(Value.int _ _).cells.toList),(2,(Value.int _ _).cells.toList),(3,(Value.int _ _).cells.toList),(4,(Value.bool _).cells.toList),(6,(Value.agg _).cells.toList)]) (out:=[_,_,_,_,_,_,_,_,_,_]) tb rfl rfl rfl rfl) rfl ?_
  refine qaq ?_
  intro b7
  refine qak ?_
  refine qa4 ?_
  refine J5x ?_
  refine Xcn ?_
  refine qb3 ?_
  refine J4r ?_
  rintro v L' R' ⟨r5,k5,rfl,g5,g5',g5'',hk5,rfl,rfl⟩
  refine qas ?_
  refine qcj ?_
  refine qan ?_
  refine Xc0 ?_
  refine qb9 ?_
  have g5q:=g5' (by omega)
  refine qay ?_
  refine qa6 ?_
  refine Jaq rfl (Jlt (by repeat (first | apply USeg.here | apply USeg.cons | apply USeg.app)) hx hk5 (by omega)) rfl ?_
  rintro v L' R' ⟨r6,k6,rfl,g6,g6',hk6,rfl,rfl⟩
  refine qab ?_
  refine Xb1 ?_
  refine qa4 ?_
  refine J5x ?_
  refine Xcn ?_
  refine qb3 ?_
  refine Jbt rfl (Jgz (by repeat (first | apply USeg.here | apply USeg.cons | apply USeg.app)) hx hk6 (by omega)) rfl rfl ?_
  rintro v L' R' ⟨r7,k7,rfl,g7,g7',g7'',hk7,rfl,rfl⟩
  refine qas ?_
  refine qcj ?_
  refine qan ?_
  refine Xc0 ?_
  refine qb9 ?_
  have g7q:=g7' (by omega)
  refine qay ?_
  refine Jax (Jba (row:=[_,_,_,_,_,_,_,_,_,_]) tb rfl rfl rfl (by repeat (first | exact zi0 | apply zi1 | apply zi2)) (by rfl) (by rfl)) rfl ?_
  refine Xbp ?_
  refine q_r (L':=[cblk c x k7]) (R':=R) (Jd4 rfl (Ja0 (row:=[_,_,_,_,_,_,_,_,_,_]) tb rfl rfl rfl (by repeat (first | exact zi0 | apply zi1 | apply zi2)) (by rfl) (by rfl))) ?_
  exact ⟨⟨fr,to,r1,r2,decide (0 < r3),false,⟨r4,r4 + r5⟩,⟨r6,r6 + r7⟩⟩,k7,rfl,⟨rfl,rfl,⟨g1,g1'⟩,⟨g2,g2'⟩,rfl,by dsimp only;omega,by dsimp only;omega⟩,hk7,rfl,rfl⟩
structure MadeCurve (l:List XPoint):Prop where
  len:1≤l.length∧l.length≤4
  ok:CurveOk l
  top:(l.getD 0 default).pres≤3000
theorem CurveOk.snoc {l:List XPoint} {p:XPoint} (h:CurveOk l) (hl:1≤l.length) (hp:-1048576≤p.flow∧p.flow≤1048576∧0≤p.pres∧p.pres≤2199023255552) (hs:(l.getD (l.length - 1) default).flow < p.flow∧p.pres≤(l.getD (l.length - 1) default).pres):CurveOk (l ++ [p]):=by
  refine ⟨fun i q hq=>?_,fun i q r hq hr=>?_⟩
  · rw [List.getElem?_append] at hq
    split at hq
    · exact h.pt i q hq
    · rw [List.getElem?_singleton] at hq
      split at hq
      · cases hq;exact hp
      · cases hq
  · rw [List.getElem?_append] at hq hr
    split at hr
    · rename_i h2
      rw [if_pos (by omega)] at hq
      exact h.st i q r hq hr
    · rename_i h2
      rw [List.getElem?_singleton] at hr
      split at hr
      · cases hr
        rw [if_pos (by omega)] at hq
        have e:i=l.length - 1:=by omega
        subst e
        rw [getD_some hq] at hs
        exact hs
      · cases hr
theorem Jct {α:Type} {l m:List α} {i:Nat} {d:α} (h:i < l.length):(l ++ m).getD i d=l.getD i d:=by
  rw [List.getD_eq_getElem?_getD,List.getD_eq_getElem?_getD,List.getElem?_append_left h]
theorem Jdk {α:Type} {l:List α} {x d:α} {n:Nat} (h:n=l.length):(l ++ [x]).getD n d=x:=by
  subst h
  rw [List.getD_eq_getElem?_getD];simp
structure CurveI (n:Int) (y:OwL XPoint):Prop where
  n:0≤n∧(y.l.length:Int) + n≤4
  len:1≤y.l.length
  cok:CurveOk y.l
  top:(y.l.getD 0 default).pres≤3000
  last:-20≤(y.l.getD (y.l.length - 1) default).flow∧(y.l.getD (y.l.length - 1) default).flow≤40 * (y.l.length:Int)∧0≤(y.l.getD (y.l.length - 1) default).pres∧(y.l.getD (y.l.length - 1) default).pres≤3000
theorem CurveI.next {n:Int} {y:OwL XPoint} (h:CurveI n y) (hn:0 < n) {a b:Int} (ha:1≤a∧a≤40) (hb:0≤b∧b≤899) {o:Ow} {p:XPoint} (h1:p.flow=(y.l.getD (y.l.length - 1) default).flow + a) (h2:p.pres=max 0 ((y.l.getD (y.l.length - 1) default).pres - b)):CurveI (n - 1) ⟨o,y.l ++ [p]⟩:=by
  have hl:=h.len
  have hla:=h.last
  have hnn:=h.n
  have e1:(y.l ++ [p]).length=y.l.length + 1:=by simp
  have e2:(y.l ++ [p]).getD ((y.l ++ [p]).length - 1) default=p:=Jdk (by omega)
  refine ⟨by dsimp only;omega,by dsimp only;omega,h.cok.snoc hl (by omega) (by omega),?_,?_⟩
  · dsimp only;rw [Jct (by omega)];exact h.top
  · dsimp only;rw [e2,e1];omega
theorem Jqm (c:Nat) (x:Arr Int) (k:Nat) (R:List Sl) (hx:CodesR x R) (hk:k≤x.l.length):
    Tri Try.prog 42 [.pointer (some ⟨c, 0, none⟩)].toArray [cblk c x k] R
      (fun v L' R'=>∃(y:Arr XPoint) (k':Nat),v=y.val∧MadeCurve y.l∧k'≤x.l.length∧[cblk c x k']=L'∧ptsl y :: R=R'):=by
  refine Jae 40 Try.call42 Try.func42 rfl rfl rfl ?_
  refine Xbf ?_
  refine qam ?_
  refine qa6 ?_
  refine J3f ?_
  rintro v L' R' ⟨r1,k1,rfl,g1,g1',hk1,rfl,rfl⟩
  refine qa6 ?_
  refine J22 ?_
  rintro v L' R' ⟨r2,k2,rfl,g2,g2',hk2,rfl,rfl⟩
  refine qcd ?_
  refine J2z ?_
  rintro v L' R' ⟨b11,rfl,rfl,hR11⟩
  replace hR11:=hR11.symm;subst hR11
  refine Xbo ?_
  refine qa6 ?_
  refine J3l ?_
  rintro v L' R' ⟨r3,k3,rfl,g3,g3',g3'',hk3,rfl,rfl⟩
  refine Xav ?_
  refine Jag [(0,Value.pointer _),(3,Value.slice _ _ _),(4,Value.int _ _)] (by repeat' (first | exact trivial | refine And.intro rfl ?_)) fun tq0=>?_
  have g3q:=g3' (by omega)
  refine Jlf (Jmi (f:=XPoint.cells) (n:=1) [⟨r1,r2⟩] rfl _) ?_
  refine q_p [3,4,5,14,15,16,17,18,19,20,21,22,23,24,25,26,27,28,29,30,31,32,33,34,35,36,37,38] ((⟨fun g=>[(3,g.1.2.2.val),(4,.int .i64 g.1.2.1)],fun g=>g.1.2.2.L 134 XPoint.cells ++ (cblk c x g.1.1 :: []),fun _=>R,fun g=>g.1.2.1.toNat⟩:Head {g:Nat×Int×OwL XPoint // g.1≤x.l.length∧g.2.2.ok 2 XPoint.cells∧CurveI g.2.1 g.2.2})) (⟨(k3,r3,⟨.own b11 1 [],[⟨r1,r2⟩]⟩),hk3,Jkg (fun _=>rfl) rfl (by decide),⟨by dsimp only;simp only [List.length_singleton];omega,by simp,⟨fun i q hq=>by (cases i with | zero=>cases hq;dsimp only;omega | succ i=>cases hq),fun i q r hq hr=>by cases hr⟩,by simp;omega,by simp;omega⟩⟩) ?_
  rintro ⟨⟨kk,n,y⟩,hkk,hok,hI⟩ junk
  try dsimp only
  dsimp only at hkk hok hI
  refine Xap ?_
  refine Xbx ?_
  refine q_c (fun hc0=>?_) (fun hc0=>?_)
  ·
   have hl:=hI.len
   have hnn:=hI.n
   have hla:=hI.last
   have hgl:=Jai (l:=y.l) (k:=y.l.length - 1) default (by omega)
   refine qbb ?_
   refine qbm ?_
   refine Xat ?_
   refine qa9 ?_
   refine Jax (Jao tb (y) _ rfl rfl rfl rfl (by assumption) (i:=y.l.length - 1) (by first | rfl | omega | (simp;omega)) (by first | omega | (dsimp only;omega) | (dsimp only;rw [List.length_set];omega) | (dsimp only;simp only [List.length_set];omega))) rfl ?_
   refine Jax (Jnv (row:=[_,_]) tb (y) rfl rfl rfl (by repeat (first | apply OSeg.cons | exact OSeg.here | exact OSeg.last | exact OSeg.at (by assumption) | apply OSeg.app)) (by assumption) (fun _=>rfl) (by assumption) (by rfl) (by rfl)) rfl ?_
   refine qaq ?_
   intro b5
   refine qak ?_
   refine qaf ?_
   refine Jaz tb [] [0,1,2,3,6,7,8,4,5,9,10,11,12,13] [14,15] ([Blk.mk b5 _ _]) _ Jbh (by kernel_rfl) (by repeat (first | exact zs0 _ | exact zs1 _ | apply zs2 | apply zs3 | apply zs4 | apply zs5)) (List.nil_sublist _) ?_
   refine Xcx ?_
   refine qb3 ?_
   refine Xac ?_
   refine qb3 ?_
   refine J40 ?_
   rintro v L' R' ⟨r4,k4,rfl,g4,g4',hk4,rfl,rfl⟩
   refine qas ?_
   refine qcj ?_
   refine J4r ?_
   rintro v L' R' ⟨r5,k5,rfl,g5,g5',g5'',hk5,rfl,rfl⟩
   refine qas ?_
   refine qcc ?_
   refine Jb1 (Jk3 rfl rfl) rfl rfl rfl rfl ?_
   refine qcw ?_
   refine J4z ?_
   rintro v L' R' ⟨b37,rfl,rfl,hR37⟩
   replace hR37:=hR37.symm;subst hR37
   refine Xbz ?_
   refine Jmx (Jam (f:=XPoint.cells) (p:=y) (a:=⟨(y.l.getD (y.l.length - 1) default).flow + r4,max 0 ((y.l.getD (y.l.length - 1) default).pres - r5)⟩) tb rfl rfl rfl rfl (hok) (by repeat (first | apply OSeg.cons | exact OSeg.here | exact OSeg.last | exact OSeg.at (by assumption) | apply OSeg.app)) (Ja1 (by repeat (first | exact zi0 | apply zi1 | apply zi2)) rfl rfl) rfl (by first | omega | (simp only [List.length_cons,List.length_nil,List.length_append];omega))) rfl rfl rfl ?_
   rintro v L' R' ⟨o38,rfl,hok38,rfl,rfl⟩
   refine qa1 ?_
   refine Jbx (Jcy (show _=Value.slice _ _ _ from rfl)) rfl rfl rfl ?_
   refine qby ?_
   refine Xcb ?_
   refine Xak ?_
   exact q_k ⟨(k5,n - 1,_),hk5,hok38,hI.next hc0 ⟨g4,g4'⟩ ⟨g5,by have:=g5' (by omega);omega⟩ rfl rfl⟩
  refine qc3 ?_
  refine J3n [] hok (fun _=>rfl) (by decide) (fun s hs=>by cases hs) ?_
  refine qay ?_
  refine Xby ?_
  refine q_r (L':=[cblk c x kk]) (R':=ptsl y.arr :: R) (Jd4 rfl (Jal (show _=Value.slice _ _ _ from rfl))) ?_
  exact ⟨y.arr,kk,rfl,⟨⟨hI.len,by have:=hI.n;dsimp only;omega⟩,hI.cok,hI.top⟩,hkk,rfl,rfl⟩
structure MadeDoor (road:Int) (d:XDoor):Prop where
  road:d.road=road
  other:d.other= -1
  len:2≤d.rests.l.length∧d.rests.l.length≤4
  rest:∀(i:Nat) (v:Int),d.rests.l[i]?=some v→0≤v∧v≤900
  falls:Jde d.rests.l d.rests.l.length=true
theorem Jj7 {l m : List Int} : ∀ {k : Nat}, k ≤ l.length → Jde (l ++ m) k = Jde l k
  | 0,_=>rfl
  | k + 1,hk=>by
    rw [Jde,Jde,Jj7 (by omega),Jct (by omega)]
    rcases k with _ | k
    · rfl
    · rw [Jct (by omega)]
structure DoorI (n:Int) (l:List Int):Prop where
  n:0≤n∧(l.length:Int) + n≤4∧2≤(l.length:Int) + n
  len:1≤l.length
  rest:∀(i:Nat) (v:Int),l[i]?=some v→0≤v∧v≤900
  falls:Jde l l.length=true
  last:260 - 60 * (l.length:Int)≤l.getD (l.length - 1) 0
theorem DoorI.next {n:Int} {l:List Int} (h:DoorI n l) (hn:0 < n) {b v:Int} (hb:1≤b∧b≤60) (hv:v=max 0 (l.getD (l.length - 1) 0 - b)):DoorI (n - 1) (l ++ [v]):=by
  have hl:=h.len
  have hnn:=h.n
  have hla:=h.last
  have hlr:=h.rest _ _ (Jai (l:=l) (k:=l.length - 1) 0 (by omega))
  have e1:(l ++ [v]).length=l.length + 1:=by simp
  refine ⟨by rw [e1];omega,by omega,fun i w hw=>?_,?_,?_⟩
  · rw [List.getElem?_append] at hw
    split at hw
    · exact h.rest i w hw
    · rw [List.getElem?_singleton] at hw
      split at hw
      · cases hw;omega
      · cases hw
  · rw [e1, Jde, Jj7 (Nat.le_refl _), h.falls, Jdk rfl, Jct (by omega)]
    simp only [Bool.true_and,Bool.or_eq_true,decide_eq_true_eq]
    omega
  · rw [e1, Jdk (by omega)]
    omega
theorem Jsm (c:Nat) (x:Arr Int) (k:Nat) (road:Int) (R:List Sl) (hx:CodesR x R) (hk:k≤x.l.length):
    Tri Try.prog 43 [.pointer (some ⟨c, 0, none⟩), .int .i64 road].toArray [cblk c x k] R
      (fun v L' R'=>∃(d:XDoor) (k':Nat),v=d.val∧MadeDoor road d∧k'≤x.l.length∧[cblk c x k']=L'∧d.sl :: R=R'):=by
  refine Jae 36 Try.call43 Try.func43 rfl rfl rfl ?_
  refine qae ?_
  refine qaq ?_
  intro b4
  refine qam ?_
  refine qaa ?_
  refine qa6 ?_
  refine J3f ?_
  rintro v L' R' ⟨r1,k1,rfl,g1,g1',hk1,rfl,rfl⟩
  refine qcx ?_
  rintro v L' R' ⟨b10,rfl,rfl,hR10⟩
  replace hR10:=hR10.symm;subst hR10
  refine Jax (Jbo (qs:=[(0,(Value.int _ _).cells.toList),(1,(Value.int _ _).cells.toList),(2,(Value.slice _ _ _).cells.toList)]) (out:=[_,_,_]) tb rfl rfl rfl rfl) rfl ?_
  refine qaq ?_
  intro b5
  refine Xbk ?_
  refine qa6 ?_
  refine J22 ?_
  rintro v L' R' ⟨r2,k2,rfl,g2,g2',hk2,rfl,rfl⟩
  refine Xav ?_
  refine Jag [(0,Value.pointer _),(4,Value.pointer _),(5,Value.pointer _),(6,Value.int _ _)] (by repeat' (first | exact trivial | refine And.intro rfl ?_)) fun tq0=>?_
  refine Jlf (congrArg (List.cons _) (Jmi (f:=Jad) (n:=1) [r1] rfl _)) ?_
  refine q_p [6,14,15,16,17,18,19,20,21,22,23,24,25,26,27,28,29,30,31,32,33,34] ((⟨fun g=>[(6,.int .i64 g.1.2.1)],fun g=>⟨b5,[.int .i64 road,.int .i64 (-1),g.1.2.2.val],82⟩ :: (g.1.2.2.L 3 Jad ++ (⟨b4,[.int .i64 0,.int .i64 0,.slice none 0 0],82⟩ :: cblk c x g.1.1 :: [])),fun _=>R,fun g=>g.1.2.1.toNat⟩:Head {g:Nat×Int×OwL Int // g.1≤x.l.length∧g.2.2.ok 1 Jad∧DoorI g.2.1 g.2.2.l})) (⟨(k2,r2,⟨.own b10 1 [],[r1]⟩),hk2,Jkg (fun _=>rfl) rfl (by decide),⟨by dsimp only;simp only [List.length_singleton];omega,by simp,fun i q hq=>by (cases i with | zero=>cases hq;omega | succ i=>cases hq),rfl,by simp;omega⟩⟩) ?_
  rintro ⟨⟨kk,n,y⟩,hkk,hok,hI⟩ junk
  try dsimp only
  dsimp only at hkk hok hI
  refine Xap ?_
  refine Xbx ?_
  refine q_c (fun hc0=>?_) (fun hc0=>?_)
  ·
   have hl:=hI.len
   have hnn:=hI.n
   have hgl:=Jai (l:=y.l) (k:=y.l.length - 1) 0 (by omega)
   have hlr:=hI.rest _ _ hgl
   refine Ja4 (Jaa (Jan (Ja9 ?_)))
   refine Jaz tb [] [0,1,2,3,4,5,6,7,8,9,10,11,12,13,14] [15,16,17] ([Blk.mk b5 _ _] ++ (y.L 3 Jad ++ [])) _ Jbh (by kernel_rfl) (by repeat (first | exact zs0 _ | exact zs1 _ | apply zs2 | apply zs3 | apply zs4 | apply zs5)) (List.nil_sublist _) ?_
   refine Xac ?_
   refine Xac ?_
   refine Xac ?_
   refine Jb1 (Jew tb rfl rfl rfl) rfl rfl rfl rfl ?_
   refine qcc ?_
   refine Jb1 (Jao tb (y) _ rfl rfl rfl rfl (by assumption) (i:=y.l.length - 1) (by first | rfl | omega | (simp;omega)) (by first | omega | (dsimp only;omega) | (dsimp only;rw [List.length_set];omega) | (dsimp only;simp only [List.length_set];omega))) rfl rfl rfl rfl ?_
   refine Jb1 (Jbe tb (y) rfl rfl rfl (by repeat (first | apply OSeg.cons | exact OSeg.here | exact OSeg.last | exact OSeg.at (by assumption) | apply OSeg.app)) (by assumption) (fun _=>rfl) (by assumption) (by rfl)) rfl rfl rfl rfl ?_
   refine qb3 ?_
   refine J40 ?_
   rintro v L' R' ⟨r4,k4,rfl,g4,g4',hk4,rfl,rfl⟩
   refine qas ?_
   refine qcc ?_
   refine Jb1 (Jk3 rfl rfl) rfl rfl rfl rfl ?_
   refine qc9 ?_
   rintro v L' R' ⟨b32,rfl,rfl,hR32⟩
   replace hR32:=hR32.symm;subst hR32
   refine Xbz ?_
   refine Jmx (Jam (f:=Jad) (p:=y) (a:=max 0 (y.l.getD (y.l.length - 1) 0 - r4)) tb rfl rfl rfl rfl (hok) (by repeat (first | apply OSeg.cons | exact OSeg.here | exact OSeg.last | exact OSeg.at (by assumption) | apply OSeg.app)) (Ja1 (by repeat (first | exact zi0 | apply zi1 | apply zi2)) rfl rfl) rfl (by first | omega | (simp only [List.length_cons,List.length_nil,List.length_append];omega))) rfl rfl rfl ?_
   rintro v L' R' ⟨o33,rfl,hok33,rfl,rfl⟩
   refine qa1 ?_
   refine Xb0 ?_
   refine qby ?_
   refine Xcb ?_
   refine Xak ?_
   exact q_k ⟨(k4,n - 1,_),hk4,hok33,hI.next hc0 ⟨g4,g4'⟩ rfl⟩
  refine qc3 ?_
  refine Jbn (A:=[_]) (wd:=1) [] (fun _=>rfl) (by decide) hok (fun s hs=>by cases hs) ?_
  refine qb1 ?_
  refine qay ?_
  refine Jax (Jba (row:=[_,_,_]) tb rfl rfl rfl (by repeat (first | exact zi0 | apply zi1 | apply zi2)) (by rfl) (by rfl)) rfl ?_
  refine Xbp ?_
  refine q_r (L':=[cblk c x kk]) (R':=(y.arr.sl 1 Jad []) :: R) (Jd4 rfl (Ja0 (row:=[_,_,_]) tb rfl rfl rfl (by repeat (first | exact zi0 | apply zi1 | apply zi2)) (by rfl) (by rfl))) ?_
  exact ⟨⟨road,-1,y.arr⟩,kk,rfl,⟨rfl,rfl,by have:=hI.n;dsimp only;omega,hI.rest,hI.falls⟩,hkk,rfl,rfl⟩
end Go.Proofs.Ytihompplndcdeaa
end
section
namespace Go.Proofs.Ytihompplndcdeaa
open Go.Aw Go
set_option maxRecDepth 20000
attribute [local irreducible] CJ LJ DJ Tri YV Gives Jdn Jaw Jbk Jdo RV Jay OwL.L
theorem J55 {c:Nat} {x:Arr Int} {k:Nat} {L:List Blk} {F:List Value→List Blk} {R:List Sl} (hu:USeg c (Je5 x k) 68 L F) (hx:CodesR x R) (hk:k≤x.l.length):
    Tri Try.prog 42 [.pointer (some ⟨c, 0, none⟩)].toArray L R
      (fun v L' R'=>∃(y:Arr XPoint) (k':Nat),v=y.val∧MadeCurve y.l∧k'≤x.l.length∧F (Je5 x k')=L'∧ptsl y :: R=R'):=
  (Tri.at1 (Post' := fun v cs' R' => ∃ (y : Arr XPoint) (k' : Nat), v = y.val ∧ MadeCurve y.l ∧ k' ≤ x.l.length ∧ cs' = Je5 x k' ∧ ptsl y :: R = R') hu (Jqm c x k R hx hk)
    (fun v L' R' ⟨y,k',h1,h2,h5,h6,h7⟩=>⟨_,h6,y,k',h1,h2,h5,rfl,h7⟩)).mono
    (fun v L' R' ⟨cs',h0,y,k',h1,h2,h5,h6,h7⟩=>⟨y,k',h1,h2,h5,by rw [← h6];exact h0,h7⟩)
theorem J6p {c:Nat} {x:Arr Int} {k:Nat} {road:Int} {L:List Blk} {F:List Value→List Blk} {R:List Sl} (hu:USeg c (Je5 x k) 68 L F) (hx:CodesR x R) (hk:k≤x.l.length):
    Tri Try.prog 43 [.pointer (some ⟨c, 0, none⟩), .int .i64 road].toArray L R
      (fun v L' R'=>∃(d:XDoor) (k':Nat),v=d.val∧MadeDoor road d∧k'≤x.l.length∧F (Je5 x k')=L'∧d.sl :: R=R'):=
  (Tri.at1 (Post' := fun v cs' R' => ∃ (d : XDoor) (k' : Nat), v = d.val ∧ MadeDoor road d ∧ k' ≤ x.l.length ∧ cs' = Je5 x k' ∧ d.sl :: R = R') hu (Jsm c x k road R hx hk)
    (fun v L' R' ⟨y,k',h1,h2,h5,h6,h7⟩=>⟨_,h6,y,k',h1,h2,h5,rfl,h7⟩)).mono
    (fun v L' R' ⟨cs',h0,y,k',h1,h2,h5,h6,h7⟩=>⟨y,k',h1,h2,h5,by rw [← h6];exact h0,h7⟩)
theorem J6g {c:Nat} {x:Arr Int} {k:Nat} {fr to:Int} {L:List Blk} {F:List Value→List Blk} {R:List Sl} (hu:USeg c (Je5 x k) 68 L F) (hx:CodesR x R) (hk:k≤x.l.length):
    Tri Try.prog 25 [.pointer (some ⟨c, 0, none⟩), .int .i64 fr, .int .i64 to].toArray L R
      (fun v L' R'=>∃(r:XRoad) (k':Nat),v=r.val∧MadeRoad fr to r∧k'≤x.l.length∧F (Je5 x k')=L'∧R=R'):=
  (Tri.at1 (Post' := fun v cs' R' => ∃ (r : XRoad) (k' : Nat), v = r.val ∧ MadeRoad fr to r ∧ k' ≤ x.l.length ∧ cs' = Je5 x k' ∧ R = R') hu (Jsb c x k fr to R hx hk)
    (fun v L' R' ⟨y,k',h1,h2,h5,h6,h7⟩=>⟨_,h6,y,k',h1,h2,h5,rfl,h7⟩)).mono
    (fun v L' R' ⟨cs',h0,y,k',h1,h2,h5,h6,h7⟩=>⟨y,k',h1,h2,h5,by rw [← h6];exact h0,h7⟩)
structure FanD (n:Nat) (f:XFan):Prop where
  road:0≤f.road∧f.road < n
  curve:MadeCurve f.curve.l
structure DoorD (n:Nat) (d:XDoor):Prop where
  road:0≤d.road∧d.road < n
  made:MadeDoor d.road d
structure FansD (n:Nat) (m:Int) (fans:List XFan) (sf:List Int):Prop where
  m:0≤m∧(fans.length:Int) + m≤2
  len:sf.length=fans.length
  fan:∀f∈fans,FanD n f
  st:∀s∈sf,0≤s∧s≤2
structure DoorsD (n:Nat) (m:Int) (doors:List XDoor) (sd:List Int):Prop where
  m:0≤m∧(doors.length:Int) + m≤2
  len:sd.length=doors.length
  door:∀d∈doors,DoorD n d
  st:∀(i:Nat) (d:XDoor) (s:Int),doors[i]?=some d→sd[i]?=some s→0≤s∧s < d.rests.l.length
theorem FansD.next {n:Nat} {m:Int} {fans:List XFan} {sf:List Int} (h:FansD n m fans sf) (hm:0 < m) {f:XFan} (hf:FanD n f) {s:Int} (hs:0≤s∧s≤2):FansD n (m - 1) (fans ++ [f]) (sf ++ [s]):=by
  have:=h.m
  refine ⟨by simp only [List.length_append,List.length_singleton];omega,by simp [h.len],fun g hg=>?_,fun t ht=>?_⟩
  · rcases List.mem_append.1 hg with hg | hg
    · exact h.fan g hg
    · rw [List.mem_singleton.1 hg];exact hf
  · rcases List.mem_append.1 ht with ht | ht
    · exact h.st t ht
    · rw [List.mem_singleton.1 ht];exact hs
theorem FansD.zero {n:Nat} {m:Int} {fans:List XFan} {sf:List Int} (h:FansD n m fans sf):FansD n 0 fans sf:=⟨by have:=h.m;omega,h.len,h.fan,h.st⟩
theorem DoorsD.zero {n:Nat} {m:Int} {doors:List XDoor} {sd:List Int} (h:DoorsD n m doors sd):DoorsD n 0 doors sd:=⟨by have:=h.m;omega,h.len,h.door,h.st⟩
theorem DoorsD.next {n:Nat} {m:Int} {doors:List XDoor} {sd:List Int} (h:DoorsD n m doors sd) (hm:0 < m) {d:XDoor} (hd:DoorD n d) {s:Int} (hs:0≤s∧s < d.rests.l.length):DoorsD n (m - 1) (doors ++ [d]) (sd ++ [s]):=by
  have:=h.m
  refine ⟨by simp only [List.length_append,List.length_singleton];omega,by simp [h.len],fun g hg=>?_,fun i d' s' h1 h2=>?_⟩
  · rcases List.mem_append.1 hg with hg | hg
    · exact h.door g hg
    · rw [List.mem_singleton.1 hg];exact hd
  · have hl := h.len
    rw [List.getElem?_append] at h1 h2
    split at h1
    · rw [if_pos (by omega)] at h2
      exact h.st i d' s' h1 h2
    · rw [if_neg (by omega)] at h2
      rw [List.getElem?_singleton] at h1 h2
      split at h1
      · rw [if_pos (by omega)] at h2
        cases h1;cases h2;exact hs
      · cases h1
theorem Jsj (c ab:Nat) (x:Arr Int) (k n rc:Nat) (pv:Value) (ra:Option Addr) (R:List Sl) (hx:CodesR x R) (hk:k≤x.l.length) (hn:n≤100):
    Tri Try.prog 26 [.pointer (some ⟨c, 0, none⟩), .pointer (some ⟨ab, 0, none⟩)].toArray [cblk c x k, ⟨ab, [pv, .slice ra n rc, .slice none 0 0, .slice none 0 0], 32⟩] R
      (fun v L' R'=>∃(fans:OwL XFan) (doors:OwL XDoor) (sf sd:OwL Int) (k':Nat) (S:List Sl),v=.agg #[sf.val,sd.val]∧(fans.ok 4 XFan.cells∧doors.ok 3 XDoor.cells∧sf.ok 1 Jad∧sd.ok 1 Jad)∧FansD n 0 fans.l sf.l∧DoorsD n 0 doors.l sd.l∧
        (∀f∈fans.l,InR f.sl S)∧(∀d∈doors.l,InR d.sl S)∧k'≤x.l.length∧
        cblk c x k' :: ⟨ab,[pv,.slice ra n rc,fans.val,doors.val],32⟩ :: (fans.L 105 XFan.cells ++ (doors.L 82 XDoor.cells ++ (sf.L 3 Jad ++ (sd.L 3 Jad ++ []))))=L'∧S ++ R=R'):=by
  refine Jae 88 Try.call26 Try.func26 rfl rfl rfl ?_
  refine qae ?_
  refine qaq ?_
  intro b4
  refine qam ?_
  refine qaq ?_
  intro b5
  refine qam ?_
  refine qa6 ?_
  refine Jax (Ja3 rfl) rfl ?_
  refine Xa7 ?_
  refine Xaw ?_
  refine qa6 ?_
  refine Jaq rfl (Jgz (by repeat (first | apply USeg.here | apply USeg.cons | apply USeg.app)) hx hk (by omega)) rfl ?_
  rintro v L' R' ⟨r1,k1,rfl,g1,g1',g1'',hk1,rfl,rfl⟩
  refine Xav ?_
  refine Jag [(0,Value.pointer _),(1,Value.pointer _),(4,Value.pointer _),(5,Value.pointer _),(6,Value.int _ _),(7,Value.int _ _)] (by repeat' (first | exact trivial | refine And.intro rfl ?_)) fun tq0=>?_
  refine Jcc [7,18,19,20,21,22,23,24,25,26,27,28,29,30,31,32,33,34,35,36,37,38,39,40,41,42,43,44,45,46,47,48,49,50,51] ((⟨fun g=>[(7,.int .i64 g.1.2.1)],fun g=>⟨b5,[g.1.2.2.2.1.val,.slice none 0 0],35⟩ :: ⟨b4,[.slice none 0 0,.slice none 0 0],35⟩ :: cblk c x g.1.1 :: ⟨ab,[pv,.slice ra n rc,g.1.2.2.1.val,.slice none 0 0],32⟩ :: (g.1.2.2.1.L 105 XFan.cells ++ (g.1.2.2.2.1.L 3 Jad ++ [])),fun g=>g.1.2.2.2.2 ++ R,fun g=>g.1.2.1.toNat⟩:Head {g:Nat×Int×OwL XFan×OwL Int×List Sl // g.1≤x.l.length∧(∃m,g.2.1≤m∧FansD n m g.2.2.1.l g.2.2.2.1.l)∧(g.2.2.1.ok 4 XFan.cells∧g.2.2.2.1.ok 1 Jad)∧(∀f∈g.2.2.1.l,InR f.sl g.2.2.2.2)})) (⟨(k1,r1,OwL.nil,OwL.nil,[]),hk1,⟨r1,Int.le_refl _,⟨⟨g1,by have:=g1' (by omega);simp only [List.length_nil];omega⟩,rfl,(fun _ h=>by cases h),(fun _ h=>by cases h)⟩⟩,⟨OwL.nil_ok,OwL.nil_ok⟩,(fun _ h=>by cases h)⟩) (by repeat' (first | exact trivial | refine And.intro rfl ?_)) (by dsimp only;rw [Jc7,Jc7];exact List.Sublist.refl _) (Jac _) ?_
  rintro ⟨⟨kk,m,fans,sf,S⟩,hkk,⟨m',hm',hD⟩,⟨hokf,hoks⟩,hin⟩ junk
  try dsimp only
  dsimp only at hkk hm' hD hokf hoks hin
  refine Xap ?_
  refine qa5 ?_
  refine qah ?_
  apply Jb3 (G:=[_,_]) (j:=2) (cj:=20) rfl rfl (by rfl) rfl (show _=Value.bool _ from rfl) rfl
  ·
   intro hg3
   replace hg3:=qb hg3
   refine qaa ?_
   refine qa5 ?_
   exact qai
  intro junk3
  refine qaf ?_
  refine q_c (fun hc0=>?_) (fun hc0=>?_)
  ·
   have hxs:CodesR x (S ++ R):=hx.mono fun r h=>Jab (by simp [h])
   have hml:=hD.m
   have hll:=hD.len
   refine Ja4 (Jaa (Jan (Ja9 (Jan ?_))))
   refine Jaz tb [26] [0,1,2,3,4,5,6,8,10,12,7,9,11,13,14,15] [16,17,18,19] ([Blk.mk ab _ _]) _ Jbh (by kernel_rfl) (by repeat (first | exact zs0 _ | exact zs1 _ | apply zs2 | apply zs3 | apply zs4 | apply zs5)) (List.nil_sublist _) ?_
   refine Jgf (Jap (show _=Value.pointer _ from rfl)) rfl rfl rfl rfl ?_
   refine qb3 ?_
   refine Jb1 (Ja3 rfl) rfl rfl rfl rfl ?_
   refine Xac ?_
   refine qb3 ?_
   refine qbf ?_
   iterate 3 refine qb3 ?_
   refine Jbt rfl (Jgz (by repeat (first | apply USeg.here | apply USeg.cons | apply USeg.app)) hxs hkk (by omega)) rfl rfl ?_
   rintro v L' R' ⟨r2,k2,rfl,g2,g2',g2'',hk2,rfl,rfl⟩
   refine qas ?_
   refine Jbt rfl (J25 (by repeat (first | apply USeg.here | apply USeg.cons | apply USeg.app)) hxs hk2 (by omega)) rfl rfl ?_
   rintro v L' R' ⟨r3,k3,rfl,hk3,rfl,rfl⟩
   refine qas ?_
   refine Jbt rfl (J25 (by repeat (first | apply USeg.here | apply USeg.cons | apply USeg.app)) hxs hk3 (by omega)) rfl rfl ?_
   rintro v L' R' ⟨r4,k4,rfl,hk4,rfl,rfl⟩
   refine qas ?_
   refine Jbt rfl (J55 (by repeat (first | apply USeg.here | apply USeg.cons | apply USeg.app)) hxs hk4) rfl rfl ?_
   rintro v L' R' ⟨y,k5,rfl,hy,hk5,rfl,rfl⟩
   refine qas ?_
   have hxs2:CodesR x (ptsl y :: (S ++ R)):=hxs.mono fun r h=>Jab (by simp [h])
   refine Jb1 (Jbo (qs:=[(0,(Value.int _ _).cells.toList),(1,(Value.bool _).cells.toList),(2,(Value.bool _).cells.toList),(3,(Value.slice _ _ _).cells.toList)]) (out:=[_,_,_,_]) tb rfl rfl rfl rfl) rfl rfl rfl rfl ?_
   refine Jti (Jas (qs:=[(0,(Value.agg _).cells.toList)]) (out:=[_,_,_,_]) tb rfl rfl rfl rfl rfl rfl rfl) rfl rfl rfl ?_
   rintro v L' R' ⟨b41,rfl,rfl,hR41⟩
   replace hR41:=hR41.symm;subst hR41
   refine Xbz ?_
   refine Jmx (Jam (f:=XFan.cells) (p:=fans) (a:=⟨r2,r3,r4,y⟩) tb rfl rfl rfl rfl (hokf) (by repeat (first | apply OSeg.cons | exact OSeg.here | exact OSeg.last | exact OSeg.at (by assumption) | apply OSeg.app)) (Ja1 (by repeat (first | exact zi0 | apply zi1 | apply zi2)) rfl rfl) rfl (by first | omega | (simp only [List.length_cons,List.length_nil,List.length_append];omega))) rfl rfl rfl ?_
   rintro v L' R' ⟨o42,rfl,hok42,rfl,rfl⟩
   refine qa1 ?_
   refine qcb ?_
   refine Xb0 ?_
   refine qbu ?_
   refine Jaz tb [] [0,1,2,3,4] [5,6,7] ([Blk.mk b5 _ _]) _ Jbh (by kernel_rfl) (by repeat (first | exact zs0 _ | exact zs1 _ | apply zs2 | apply zs3 | apply zs4 | apply zs5)) (List.nil_sublist _) ?_
   refine Xac ?_
   refine qb3 ?_
   refine Jbt rfl (Jgz (by repeat (first | apply USeg.here | apply USeg.cons | apply USeg.app)) hxs2 hk5 (by omega)) rfl rfl ?_
   rintro v L' R' ⟨r6,k6,rfl,g6,g6',g6'',hk6,rfl,rfl⟩
   refine qas ?_
   refine qc9 ?_
   rintro v L' R' ⟨b49,rfl,rfl,hR49⟩
   replace hR49:=hR49.symm;subst hR49
   refine Xbz ?_
   refine Jmx (Jam (f:=Jad) (p:=sf) (a:=r6) tb rfl rfl rfl rfl (hoks) (by repeat (first | apply OSeg.cons | exact OSeg.here | exact OSeg.last | exact OSeg.at (by assumption) | apply OSeg.app)) (Ja1 (by repeat (first | exact zi0 | apply zi1 | apply zi2)) rfl rfl) rfl (by first | omega | (simp only [List.length_cons,List.length_nil,List.length_append];omega))) rfl rfl rfl ?_
   rintro v L' R' ⟨o50,rfl,hok50,rfl,rfl⟩
   refine qa1 ?_
   refine Xb0 ?_
   refine qby ?_
   refine Xcb ?_
   refine Xak ?_
   have hq2:=g2' (by omega)
   have hq6:=g6' (by omega)
   exact q_k ⟨(k6,m - 1,_,_,ptsl y :: S),hk6,⟨m' - 1,by dsimp only;omega,hD.next (by omega) ⟨⟨g2,by dsimp only;omega⟩,hy⟩ ⟨g6,by omega⟩⟩,⟨hok42,hok50⟩,(fun f hf=>by rcases List.mem_append.1 hf with h | h;exact (hin f h).mono (fun r hr=>Jab (by simp [hr]));rw [List.mem_singleton.1 h];exact Jab (by simp))⟩
  refine Jcs (Jbv (Jcp (Jbf (Jaa (Jan (Jan ?_))))))
  have hx8:CodesR x (S ++ R):=hx.mono fun r h=>Jab (by simp [h])
  refine qay ?_
  refine qa6 ?_
  refine Jaq rfl (Jgz (by repeat (first | apply USeg.here | apply USeg.cons | apply USeg.app)) hx8 hkk (by omega)) rfl ?_
  rintro v L' R' ⟨r7,k7,rfl,g7,g7',g7'',hk7,rfl,rfl⟩
  refine Xav ?_
  refine Jag [(0,Value.pointer _),(1,Value.pointer _),(4,Value.pointer _),(5,Value.pointer _),(6,Value.int _ _),(8,Value.int _ _)] (by repeat' (first | exact trivial | refine And.intro rfl ?_)) fun tq1=>?_
  refine Jcc [8,9,54,55,56,57,58,59,60,61,62,63,64,65,66,67,68,69,70,71,72,73,74,75,76,77,78,79,80,81,82,83,84,85,86] ((⟨fun g=>[(8,.int .i64 g.1.2.1)],fun g=>⟨b5,[sf.val,g.1.2.2.2.1.val],35⟩ :: ⟨b4,[.slice none 0 0,.slice none 0 0],35⟩ :: cblk c x g.1.1 :: ⟨ab,[pv,.slice ra n rc,fans.val,g.1.2.2.1.val],32⟩ :: (fans.L 105 XFan.cells ++ (g.1.2.2.1.L 82 XDoor.cells ++ (sf.L 3 Jad ++ (g.1.2.2.2.1.L 3 Jad ++ [])))),fun g=>g.1.2.2.2.2 ++ (S ++ R),fun g=>g.1.2.1.toNat⟩:Head {g:Nat×Int×OwL XDoor×OwL Int×List Sl // g.1≤x.l.length∧(∃m,g.2.1≤m∧DoorsD n m g.2.2.1.l g.2.2.2.1.l)∧(g.2.2.1.ok 3 XDoor.cells∧g.2.2.2.1.ok 1 Jad)∧(∀d∈g.2.2.1.l,InR d.sl g.2.2.2.2)})) (⟨(k7,r7,OwL.nil,OwL.nil,[]),hk7,⟨r7,Int.le_refl _,⟨⟨g7,by have:=g7' (by omega);simp only [List.length_nil];omega⟩,rfl,(fun _ h=>by cases h),(fun _ _ _ h=>by cases h)⟩⟩,⟨OwL.nil_ok,OwL.nil_ok⟩,(fun _ h=>by cases h)⟩) (by repeat' (first | exact trivial | refine And.intro rfl ?_)) (by dsimp only;rw [Jc7,Jc7];exact List.Sublist.refl _) (Jac _) ?_
  rintro ⟨⟨kk2,m2,doors,sd,S2⟩,hkk2,⟨m2',hm2',hD2⟩,⟨hokd,hokt⟩,hin2⟩ junk
  try dsimp only
  dsimp only at hkk2 hm2' hD2 hokd hokt hin2
  refine Xap ?_
  refine qa5 ?_
  refine qah ?_
  apply Jb3 (G:=[_,_]) (j:=2) (cj:=56) rfl rfl (by rfl) rfl (show _=Value.bool _ from rfl) rfl
  ·
   intro hg3
   replace hg3:=qb hg3
   refine qaa ?_
   refine qa5 ?_
   exact qai
  intro junk3
  refine qaf ?_
  refine q_c (fun hc1=>?_) (fun hc1=>?_)
  ·
   have hx2:CodesR x (S2 ++ (S ++ R)):=hx8.mono fun r h=>Jab (by simp only [List.mem_append] at h ⊢;exact .inr h)
   have hml:=hD2.m
   have hll:=hD2.len
   refine qbb ?_
   refine qa6 ?_
   refine qa6 ?_
   refine qaa ?_
   refine Jaq rfl (Jgz (by repeat (first | apply USeg.here | apply USeg.cons | apply USeg.app)) hx2 hkk2 (by omega)) rfl ?_
   rintro v L' R' ⟨r8,k8,rfl,g8,g8',g8'',hk8,rfl,rfl⟩
   refine Jaq rfl (J6p (by repeat (first | apply USeg.here | apply USeg.cons | apply USeg.app)) hx2 hk8) rfl ?_
   rintro v L' R' ⟨d,k9,rfl,hd,hk9,rfl,rfl⟩
   have hx3:CodesR x (d.sl :: (S2 ++ (S ++ R))):=hx2.mono fun r h=>Jab (List.mem_cons_of_mem _ h)
   refine qaq ?_
   intro b9
   refine qak ?_
   refine qa4 ?_
   refine Jaz tb [67] [0,1,2,3,4,5,6] [7,8,9,10] (_) _ Jbh (by kernel_rfl) (by repeat (first | exact zs0 _ | exact zs1 _ | apply zs2 | apply zs3 | apply zs4 | apply zs5)) (List.nil_sublist _) ?_
   refine Jgf (Jap (show _=Value.pointer _ from rfl)) rfl rfl rfl rfl ?_
   refine qb3 ?_
   refine Jb1 (Ja3 rfl) rfl rfl rfl rfl ?_
   refine Xac ?_
   refine Jb1 (Jba (row:=[_,_,_]) tb rfl rfl rfl (by repeat (first | exact zi0 | apply zi1 | apply zi2)) (by rfl) (by rfl)) rfl rfl rfl rfl ?_
   refine Jti (Jas (qs:=[(0,(Value.agg _).cells.toList)]) (out:=[_,_,_]) tb rfl rfl rfl rfl rfl rfl rfl) rfl rfl rfl ?_
   rintro v L' R' ⟨b73,rfl,rfl,hR73⟩
   replace hR73:=hR73.symm;subst hR73
   refine Xbz ?_
   refine Jmx (Jam (f:=XDoor.cells) (p:=doors) (a:=d) tb rfl rfl rfl rfl (hokd) (by repeat (first | apply OSeg.cons | exact OSeg.here | exact OSeg.last | exact OSeg.at (by assumption) | apply OSeg.app)) (Ja1 (by repeat (first | exact zi0 | apply zi1 | apply zi2)) rfl rfl) rfl (by first | omega | (simp only [List.length_cons,List.length_nil,List.length_append];omega))) rfl rfl rfl ?_
   rintro v L' R' ⟨o74,rfl,hok74,rfl,rfl⟩
   refine qa1 ?_
   refine qcb ?_
   refine Xb0 ?_
   refine qbu ?_
   refine Jaz tb [] [0,1,2,3,4,5,6,7] [8,9,10] ([Blk.mk b9 _ _,Blk.mk b5 _ _]) _ Jbh (by kernel_rfl) (by repeat (first | exact zs0 _ | exact zs1 _ | apply zs2 | apply zs3 | apply zs4 | apply zs5)) (List.nil_sublist _) ?_
   refine Xac ?_
   refine qb3 ?_
   refine Xac ?_
   refine Jb1 (Jew tb rfl rfl rfl) rfl rfl rfl rfl ?_
   refine Jbt rfl (Jgz (by repeat (first | apply USeg.here | apply USeg.cons | apply USeg.app)) hx3 hk9 (by have:=hd.len;omega)) rfl rfl ?_
   rintro v L' R' ⟨r10,k10,rfl,g10,g10',g10'',hk10,rfl,rfl⟩
   refine qas ?_
   refine qc9 ?_
   rintro v L' R' ⟨b84,rfl,rfl,hR84⟩
   replace hR84:=hR84.symm;subst hR84
   refine Xbz ?_
   refine Jmx (Jam (f:=Jad) (p:=sd) (a:=r10) tb rfl rfl rfl rfl (hokt) (by repeat (first | apply OSeg.cons | exact OSeg.here | exact OSeg.last | exact OSeg.at (by assumption) | apply OSeg.app)) (Ja1 (by repeat (first | exact zi0 | apply zi1 | apply zi2)) rfl rfl) rfl (by first | omega | (simp only [List.length_cons,List.length_nil,List.length_append];omega))) rfl rfl rfl ?_
   rintro v L' R' ⟨o85,rfl,hok85,rfl,rfl⟩
   refine qa1 ?_
   refine Xb0 ?_
   refine qby ?_
   refine Xcb ?_
   refine Xak ?_
   have hq8:=g8' (by omega)
   have hq10:=g10' (by have:=hd.len;omega)
   have hdr:=hd.road
   exact q_k ⟨(k10,m2 - 1,_,_,d.sl :: S2),hk10,⟨m2' - 1,by dsimp only;omega,hD2.next (by omega) ⟨⟨by omega,by omega⟩,by rw [hdr];exact hd⟩ ⟨g10,by omega⟩⟩,⟨hok74,hok85⟩,(fun f hf=>by rcases List.mem_append.1 hf with h | h;exact (hin2 f h).mono (fun r hr=>Jab (by simp [hr]));rw [List.mem_singleton.1 h];exact Jab (by simp))⟩
  refine qbk ?_
  refine Xcs ?_
  refine Jbj (L':=cblk c x kk2 :: ⟨ab,[pv,.slice ra n rc,fans.val,doors.val],32⟩ :: (fans.L 105 XFan.cells ++ (doors.L 82 XDoor.cells ++ (sf.L 3 Jad ++ (sd.L 3 Jad ++ []))))) (R':=(S2 ++ S) ++ R) (Jd4 rfl (Ja0 (row:=[_,_]) tb rfl rfl rfl (by repeat (first | exact zi0 | apply zi1 | apply zi2)) (by rfl) (by rfl))) ?hp ?hL ?hR
  case hp=>exact ⟨fans,doors,sf,sd,kk2,S2 ++ S,rfl,⟨hokf,hokd,hoks,hokt⟩,hD.zero,hD2.zero,fun f hf=>(hin f hf).mono (fun r hr=>Jab (by simp [hr])),fun d hd=>(hin2 d hd).mono (fun r hr=>Jab (by simp [hr])),hkk2,rfl,rfl⟩
  case hL=>exact (by repeat (first | exact zs0 _ | exact zs1 _ | apply zs2 | apply zs3 | apply zs4 | apply zs5))
  case hR=>exact fun r hr=>Jab (by rw [List.append_assoc] at hr;exact hr)
structure DoubtTo (l:List Int) (n:Nat) (m:List Int):Prop where
  len:m.length=n
  val:∀(i:Nat) (v:Int),m[i]?=some v→v= -1∨l[i]?=some v
abbrev Jqa (l m:List Int):Prop:=DoubtTo l l.length m
theorem DoubtTo.next {l m:List Int} {n:Nat} (h:DoubtTo l n m) {v:Int} (hv:v= -1∨l[n]?=some v):DoubtTo l (n + 1) (m ++ [v]):=by
  have hl:=h.len
  refine ⟨by simp [hl],fun i w hw=>?_⟩
  rw [List.getElem?_append] at hw
  split at hw
  · exact h.val i w hw
  · rw [List.getElem?_singleton] at hw
    split at hw
    · cases hw
      have:i=n:=by omega
      rw [this];exact hv
    · cases hw
theorem Jxb (c:Nat) (x:Arr Int) (k:Nat) (a:XAir) (s:XSetting) (R:List Sl) (hx:CodesR x R) (hk:k≤x.l.length) (hs:SetR s R) (h1:s.fans.l.length≤100) (h2:s.doors.l.length≤100):
    Tri Try.prog 28 [.pointer (some ⟨c, 0, none⟩), a.val, s.val].toArray [cblk c x k] R
      (fun v L' R'=>∃(tf td:OwL Int) (k':Nat),v=.agg #[tf.val,td.val]∧(tf.ok 1 Jad∧td.ok 1 Jad)∧Jqa s.fans.l tf.l∧Jqa s.doors.l td.l∧k'≤x.l.length∧cblk c x k' :: (tf.L 3 Jad ++ (td.L 3 Jad ++ []))=L'∧R=R'):=by
  have hsf:=hs.fans
  have hsd:=hs.doors
  refine Jae 53 Try.call28 Try.func28 rfl rfl rfl ?_
  refine Xaj ?_
  intro b4
  refine qax ?_
  intro b5
  refine qaq ?_
  intro b6
  refine qam ?_
  refine qaq ?_
  intro b7
  refine qaw ?_
  refine Xav ?_
  refine Jag [(0,Value.pointer _),(5,Value.pointer _),(6,Value.pointer _),(7,Value.pointer _),(8,Value.int _ _)] (by repeat' (first | exact trivial | refine And.intro rfl ?_)) fun tq0=>?_
  refine Jcc [8,9,12,13,14,15,16,17,18,19,20,21,22,23,24,25,26,27,28,29,30,31] ((⟨fun g=>[(8,.int .i64 ((g.1.2.1:Nat):Int))],fun g=>⟨b7,[g.1.2.2.val,.slice none 0 0],35⟩ :: ⟨b6,[.slice none 0 0,.slice none 0 0],35⟩ :: ⟨b5,s.cells,35⟩ :: ⟨b4,a.cells,32⟩ :: cblk c x g.1.1 :: (g.1.2.2.L 3 Jad ++ []),fun _=>R,fun g=>s.fans.l.length - g.1.2.1⟩:Head {g:Nat×Nat×OwL Int // g.1≤x.l.length∧g.2.1≤s.fans.l.length∧g.2.2.ok 1 Jad∧DoubtTo s.fans.l g.2.1 g.2.2.l})) (⟨(k,0,OwL.nil),hk,Nat.zero_le _,OwL.nil_ok,⟨rfl,(fun _ _ h=>by cases h)⟩⟩) (by repeat' (first | exact trivial | refine And.intro rfl ?_)) (by dsimp only;rw [Jc7];exact List.Sublist.refl _) (Jac _) ?_
  rintro ⟨⟨kk,i,tf⟩,hkk,hi,hok,hD⟩ junk
  try dsimp only
  dsimp only at hkk hi hok hD
  refine Xbq ?_
  refine q_c (fun hc0=>?_) (fun hc0=>?_)
  ·
   have hsi:=Jai (l:=s.fans.l) (k:=i) 0 (by omega)
   have hll:=hD.len
   refine Xci ?_
   refine Xc1 ?_
   refine Xaw ?_
   refine qa6 ?_
   refine Jaq rfl (J25 (by repeat (first | apply USeg.here | apply USeg.cons | apply USeg.app)) hx hkk (by omega)) rfl ?_
   rintro v L' R' ⟨r1,k1,rfl,hk1,rfl,rfl⟩
   refine qaf ?_
   refine q_c (fun hc1=>?_) (fun hc1=>?_)
   ·
    refine qay ?_
    refine qad ?_
    refine Jbr (Jaa (Jaj ?_))
    refine Xah ?_
    refine qcx ?_
    rintro v L' R' ⟨b29,rfl,rfl,hR29⟩
    replace hR29:=hR29.symm;subst hR29
    refine J6h ?_
    rintro v L' R' ⟨o30,rfl,hok30,rfl,rfl⟩
    refine qab ?_
    refine qcy ?_
    refine Xca ?_
    first | exact q_k ⟨(k1,i + 1,_),hk1,by dsimp only;omega,hok30,hD.next (.inl rfl)⟩ | exact q_k ⟨(k1,i + 1,_),hk1,by dsimp only;omega,hok30,hD.next (.inr hsi)⟩
   refine Ja4 (Jaa (Jaj ?_))
   refine Xah ?_
   refine qcx ?_
   rintro v L' R' ⟨b29,rfl,rfl,hR29⟩
   replace hR29:=hR29.symm;subst hR29
   refine J6h ?_
   rintro v L' R' ⟨o30,rfl,hok30,rfl,rfl⟩
   refine qab ?_
   refine qcy ?_
   refine Xca ?_
   first | exact q_k ⟨(k1,i + 1,_),hk1,by dsimp only;omega,hok30,hD.next (.inl rfl)⟩ | exact q_k ⟨(k1,i + 1,_),hk1,by dsimp only;omega,hok30,hD.next (.inr hsi)⟩
  obtain rfl:i=s.fans.l.length:=by omega
  refine qcf ?_
  refine Xav ?_
  refine Jag [(0,Value.pointer _),(5,Value.pointer _),(6,Value.pointer _),(7,Value.pointer _),(10,Value.int _ _)] (by repeat' (first | exact trivial | refine And.intro rfl ?_)) fun tq1=>?_
  refine Jcc [10,11,32,33,34,35,36,37,38,39,40,41,42,43,44,45,46,47,48,49,50,51] ((⟨fun g=>[(10,.int .i64 ((g.1.2.1:Nat):Int))],fun g=>⟨b7,[tf.val,g.1.2.2.val],35⟩ :: ⟨b6,[.slice none 0 0,.slice none 0 0],35⟩ :: ⟨b5,s.cells,35⟩ :: ⟨b4,a.cells,32⟩ :: cblk c x g.1.1 :: (tf.L 3 Jad ++ (g.1.2.2.L 3 Jad ++ [])),fun _=>R,fun g=>s.doors.l.length - g.1.2.1⟩:Head {g:Nat×Nat×OwL Int // g.1≤x.l.length∧g.2.1≤s.doors.l.length∧g.2.2.ok 1 Jad∧DoubtTo s.doors.l g.2.1 g.2.2.l})) (⟨(kk,0,OwL.nil),hkk,Nat.zero_le _,OwL.nil_ok,⟨rfl,(fun _ _ h=>by cases h)⟩⟩) (by repeat' (first | exact trivial | refine And.intro rfl ?_)) (by dsimp only;rw [Jc7];exact List.Sublist.refl _) (Jac _) ?_
  rintro ⟨⟨kk2,j,td⟩,hkk2,hj,hok2,hD2⟩ junk
  try dsimp only
  dsimp only at hkk2 hj hok2 hD2
  refine Xbq ?_
  refine q_c (fun hc2=>?_) (fun hc2=>?_)
  ·
   have hsj:=Jai (l:=s.doors.l) (k:=j) 0 (by omega)
   have hll:=hD2.len
   refine Xci ?_
   refine Xc1 ?_
   refine Xaw ?_
   refine qa6 ?_
   refine Jaq rfl (J25 (by repeat (first | apply USeg.here | apply USeg.cons | apply USeg.app)) hx hkk2 (by omega)) rfl ?_
   rintro v L' R' ⟨r2,k2,rfl,hk2,rfl,rfl⟩
   refine qaf ?_
   refine q_c (fun hc3=>?_) (fun hc3=>?_)
   ·
    refine qay ?_
    refine qad ?_
    refine Jbr (Jaa (Jaj ?_))
    refine Xah ?_
    refine qcx ?_
    rintro v L' R' ⟨b49,rfl,rfl,hR49⟩
    replace hR49:=hR49.symm;subst hR49
    refine J4i ?_
    rintro v L' R' ⟨o50,rfl,hok50,rfl,rfl⟩
    refine qab ?_
    refine qcy ?_
    refine Xca ?_
    first | exact q_k ⟨(k2,j + 1,_),hk2,by dsimp only;omega,hok50,hD2.next (.inl rfl)⟩ | exact q_k ⟨(k2,j + 1,_),hk2,by dsimp only;omega,hok50,hD2.next (.inr hsj)⟩
   refine Ja4 (Jaa (Jaj ?_))
   refine Xah ?_
   refine qcx ?_
   rintro v L' R' ⟨b49,rfl,rfl,hR49⟩
   replace hR49:=hR49.symm;subst hR49
   refine J4i ?_
   rintro v L' R' ⟨o50,rfl,hok50,rfl,rfl⟩
   refine qab ?_
   refine qcy ?_
   refine Xca ?_
   first | exact q_k ⟨(k2,j + 1,_),hk2,by dsimp only;omega,hok50,hD2.next (.inl rfl)⟩ | exact q_k ⟨(k2,j + 1,_),hk2,by dsimp only;omega,hok50,hD2.next (.inr hsj)⟩
  obtain rfl:j=s.doors.l.length:=by omega
  refine qbk ?_
  refine Xcs ?_
  refine q_r (L':=cblk c x kk2 :: (tf.L 3 Jad ++ (td.L 3 Jad ++ []))) (R':=R) (Jd4 rfl (Ja0 (row:=[_,_]) tb rfl rfl rfl (by repeat (first | exact zi0 | apply zi1 | apply zi2)) (by rfl) (by rfl))) ?_
  exact ⟨tf,td,kk2,rfl,⟨hok,hok2⟩,hD,hD2,hkk2,rfl,rfl⟩
structure AnySet (a:XAir) (n m:Nat) (tf td:List Int):Prop where
  lf:tf.length=n
  ld:td.length=m
  fan:∀(i:Nat) (v:Int),tf[i]?=some v→-1≤v∧v≤2
  door:∀(i:Nat) (v:Int) (d:XDoor),td[i]?=some v→a.doors.l[i]?=some d→-1≤v∧v < d.rests.l.length
theorem AnySet.nextF {a:XAir} {n m:Nat} {tf td:List Int} (h:AnySet a n m tf td) {v:Int} (hv:-1≤v∧v≤2):AnySet a (n + 1) m (tf ++ [v]) td:=by
  have hl:=h.lf
  refine ⟨by simp [hl],h.ld,fun i w hw=>?_,h.door⟩
  rw [List.getElem?_append] at hw
  split at hw
  · exact h.fan i w hw
  · rw [List.getElem?_singleton] at hw
    split at hw
    · cases hw;exact hv
    · cases hw
theorem AnySet.nextD {a:XAir} {n m:Nat} {tf td:List Int} (h:AnySet a n m tf td) {d:XDoor} (hd:a.doors.l[m]?=some d) {v:Int} (hv:-1≤v∧v < d.rests.l.length):AnySet a n (m + 1) tf (td ++ [v]):=by
  have hl:=h.ld
  refine ⟨h.lf,by simp [hl],h.fan,fun i w e hw he=>?_⟩
  rw [List.getElem?_append] at hw
  split at hw
  · exact h.door i w e hw he
  · rw [List.getElem?_singleton] at hw
    split at hw
    · cases hw
      have:i=m:=by omega
      rw [this,hd] at he
      cases he;exact hv
    · cases hw
theorem Jub (c:Nat) (x:Arr Int) (k:Nat) (a:XAir) (R:List Sl) (hx:CodesR x R) (hk:k≤x.l.length) (hd:InR (dsl a.doors) R) (h1:a.fans.l.length≤100) (h2:a.doors.l.length≤100) (h3:∀(i:Nat) (d:XDoor),a.doors.l[i]?=some d→d.rests.l.length≤100):
    Tri Try.prog 8 [.pointer (some ⟨c, 0, none⟩), a.val].toArray [cblk c x k] R
      (fun v L' R'=>∃(tf td:OwL Int) (k':Nat),v=.agg #[tf.val,td.val]∧(tf.ok 1 Jad∧td.ok 1 Jad)∧AnySet a a.fans.l.length a.doors.l.length tf.l td.l∧k'≤x.l.length∧cblk c x k' :: (tf.L 3 Jad ++ (td.L 3 Jad ++ []))=L'∧R=R'):=by
  refine Jae 47 Try.call8 Try.func8 rfl rfl rfl ?_
  refine Xaj ?_
  intro b3
  refine qaq ?_
  intro b4
  refine qam ?_
  refine qaq ?_
  intro b5
  refine qaw ?_
  refine Xav ?_
  refine Jag [(0,Value.pointer _),(3,Value.pointer _),(4,Value.pointer _),(5,Value.pointer _),(6,Value.int _ _)] (by repeat' (first | exact trivial | refine And.intro rfl ?_)) fun tq0=>?_
  refine Jcc [6,8,9,10,11,12,13,14,15,16,17,18,19,20,21,22] ((⟨fun g=>[(6,.int .i64 ((g.1.2.1:Nat):Int))],fun g=>⟨b5,[g.1.2.2.val,.slice none 0 0],35⟩ :: ⟨b4,[.slice none 0 0,.slice none 0 0],35⟩ :: ⟨b3,a.cells,32⟩ :: cblk c x g.1.1 :: (g.1.2.2.L 3 Jad ++ []),fun _=>R,fun g=>a.fans.l.length - g.1.2.1⟩:Head {g:Nat×Nat×OwL Int // g.1≤x.l.length∧g.2.1≤a.fans.l.length∧g.2.2.ok 1 Jad∧AnySet a g.2.1 0 g.2.2.l []})) (⟨(k,0,OwL.nil),hk,Nat.zero_le _,OwL.nil_ok,⟨rfl,rfl,(fun _ _ h=>by cases h),(fun _ _ _ h=>by cases h)⟩⟩) (by repeat' (first | exact trivial | refine And.intro rfl ?_)) (by dsimp only;rw [Jc7];exact List.Sublist.refl _) (Jac _) ?_
  rintro ⟨⟨kk,i,tf⟩,hkk,hi,hok,hD⟩ junk
  try dsimp only
  dsimp only at hkk hi hok hD
  refine Xbq ?_
  refine q_c (fun hc0=>?_) (fun hc0=>?_)
  ·
   have hll:=hD.lf
   refine Ja4 (Jaa (Jan (Ja9 ?_)))
   refine Jaz tb [] [0,1,2,3,4,5] [6,7,8] ([Blk.mk b5 _ _]) _ Jbh (by kernel_rfl) (by repeat (first | exact zs0 _ | exact zs1 _ | apply zs2 | apply zs3 | apply zs4 | apply zs5)) (List.nil_sublist _) ?_
   refine Xac ?_
   refine qb3 ?_
   refine J46 ?_
   rintro v L' R' ⟨r1,k1,rfl,g1,g1',g1'',hk1,rfl,rfl⟩
   refine qas ?_
   refine qcc ?_
   refine qc9 ?_
   rintro v L' R' ⟨b20,rfl,rfl,hR20⟩
   replace hR20:=hR20.symm;subst hR20
   refine Xbz ?_
   refine Jmx (Jam (f:=Jad) (p:=tf) (a:=r1 - 1) tb rfl rfl rfl rfl (hok) (by repeat (first | apply OSeg.cons | exact OSeg.here | exact OSeg.last | exact OSeg.at (by assumption) | apply OSeg.app)) (Ja1 (by repeat (first | exact zi0 | apply zi1 | apply zi2)) rfl rfl) rfl (by first | omega | (simp only [List.length_cons,List.length_nil,List.length_append];omega))) rfl rfl rfl ?_
   rintro v L' R' ⟨o21,rfl,hok21,rfl,rfl⟩
   refine qa1 ?_
   refine Xb0 ?_
   refine Xb7 ?_
   have g1q:=g1' (by omega)
   exact q_k ⟨(k1,i + 1,_),hk1,by dsimp only;omega,hok21,hD.nextF (by omega)⟩
  obtain rfl:i=a.fans.l.length:=by omega
  refine qcf ?_
  refine Xav ?_
  refine Jag [(0,Value.pointer _),(3,Value.pointer _),(4,Value.pointer _),(5,Value.pointer _),(7,Value.int _ _)] (by repeat' (first | exact trivial | refine And.intro rfl ?_)) fun tq1=>?_
  refine Jcc [7,23,24,25,26,27,28,29,30,31,32,33,34,35,36,37,38,39,40,41,42,43,44,45] ((⟨fun g=>[(7,.int .i64 ((g.1.2.1:Nat):Int))],fun g=>⟨b5,[tf.val,g.1.2.2.val],35⟩ :: ⟨b4,[.slice none 0 0,.slice none 0 0],35⟩ :: ⟨b3,a.cells,32⟩ :: cblk c x g.1.1 :: (tf.L 3 Jad ++ (g.1.2.2.L 3 Jad ++ [])),fun _=>R,fun g=>a.doors.l.length - g.1.2.1⟩:Head {g:Nat×Nat×OwL Int // g.1≤x.l.length∧g.2.1≤a.doors.l.length∧g.2.2.ok 1 Jad∧AnySet a a.fans.l.length g.2.1 tf.l g.2.2.l})) (⟨(kk,0,OwL.nil),hkk,Nat.zero_le _,OwL.nil_ok,hD⟩) (by repeat' (first | exact trivial | refine And.intro rfl ?_)) (by dsimp only;rw [Jc7];exact List.Sublist.refl _) (Jac _) ?_
  rintro ⟨⟨kk2,j,td⟩,hkk2,hj,hok2,hD2⟩ junk
  try dsimp only
  dsimp only at hkk2 hj hok2 hD2
  refine Xbq ?_
  refine q_c (fun hc1=>?_) (fun hc1=>?_)
  ·
   obtain ⟨d,hdj⟩:=Jar (l:=a.doors.l) (k:=j) (by omega)
   have hll:=hD2.ld
   have h3j:=h3 _ _ hdj
   refine Ja4 (Jaa (Jan (Ja9 ?_)))
   refine Jaz tb [] [0,1,2,3,4,5,6,7,8,9,10,11,12,13] [14,15,16] ([Blk.mk b5 _ _,Blk.mk b3 _ _]) _ Jbh (by kernel_rfl) (by repeat (first | exact zs0 _ | exact zs1 _ | apply zs2 | apply zs3 | apply zs4 | apply zs5)) (List.nil_sublist _) ?_
   refine Xac ?_
   refine qb3 ?_
   refine Xba ?_
   refine qc5 ?_
   refine qcv ?_
   refine qci ?_
   refine Jb1 (Jew tb rfl rfl rfl) rfl rfl rfl rfl ?_
   refine qcj ?_
   refine Jbt rfl (Jgz (by repeat (first | apply USeg.here | apply USeg.cons | apply USeg.app)) hx hkk2 (by omega)) rfl rfl ?_
   rintro v L' R' ⟨r2,k2,rfl,g2,g2',g2'',hk2,rfl,rfl⟩
   refine qas ?_
   refine qcc ?_
   refine qc9 ?_
   rintro v L' R' ⟨b43,rfl,rfl,hR43⟩
   replace hR43:=hR43.symm;subst hR43
   refine Xbz ?_
   refine Jmx (Jam (f:=Jad) (p:=td) (a:=r2 - 1) tb rfl rfl rfl rfl (hok2) (by repeat (first | apply OSeg.cons | exact OSeg.here | exact OSeg.last | exact OSeg.at (by assumption) | apply OSeg.app)) (Ja1 (by repeat (first | exact zi0 | apply zi1 | apply zi2)) rfl rfl) rfl (by first | omega | (simp only [List.length_cons,List.length_nil,List.length_append];omega))) rfl rfl rfl ?_
   rintro v L' R' ⟨o44,rfl,hok44,rfl,rfl⟩
   refine qa1 ?_
   refine Xb0 ?_
   refine Xb7 ?_
   have g2q:=g2' (by omega)
   exact q_k ⟨(k2,j + 1,_),hk2,by dsimp only;omega,hok44,hD2.nextD hdj (by omega)⟩
  obtain rfl:j=a.doors.l.length:=by omega
  refine qbk ?_
  refine Xcs ?_
  refine q_r (L':=cblk c x kk2 :: (tf.L 3 Jad ++ (td.L 3 Jad ++ []))) (R':=R) (Jd4 rfl (Ja0 (row:=[_,_]) tb rfl rfl rfl (by repeat (first | exact zi0 | apply zi1 | apply zi2)) (by rfl) (by rfl))) ?_
  exact ⟨tf,td,kk2,rfl,⟨hok,hok2⟩,hD2,hkk2,rfl,rfl⟩
end Go.Proofs.Ytihompplndcdeaa
end
section
namespace Go.Proofs.Ytihompplndcdeaa
open Go.Aw Go
def SubS (x y:XSpan):Prop:=y.low≤x.low∧x.high≤y.high
theorem SubS.refl (x:XSpan):SubS x x:=⟨Int.le_refl _,Int.le_refl _⟩
theorem Jym (q:Int):0≤q * q:=by
  rcases Int.le_total 0 q with h | h
  · exact Int.mul_nonneg h h
  · have := Int.mul_nonneg (show 0 ≤ -q by omega) (show 0 ≤ -q by omega)
    rwa [Int.neg_mul_neg] at this
theorem Jhg {a b q:Int} (h:a≤b):a * q * q≤b * q * q:=by
  rw [Int.mul_assoc,Int.mul_assoc]
  exact Int.mul_le_mul_of_nonneg_right h (Jym q)
theorem Jxi {r r' l l':XSpan} (h:SubS r r') (k:SubS l l') (q:Int):SubS (Jlb r l q) (Jlb r' l' q):=by
  have h1:=Jhg (q:=q) h.1
  have h2:=Jhg (q:=q) h.2
  have h3:=k.1
  have h4:=k.2
  unfold Jlb SubS
  split <;> dsimp only <;> omega
theorem Jvq {l : List Int} : ∀ {k i : Nat}, i < k → Jol l k ≤ l.getD i 0 ∧ l.getD i 0 ≤ Jmu l k
  | 0,i,h=>absurd h (by omega)
  | k + 1,i,h=>by
    simp only [Jol,Jmu]
    rcases Nat.lt_or_eq_of_le (Nat.le_of_lt_succ h) with h' | h'
    · have:=Jvq (l:=l) h';omega
    · subst h';omega
def Jvr (d:XDoor) (s t:Int):Prop:=t=s∨(t= -1∧-1≤s∧s < d.rests.l.length)
def Jx1 (s t:Int):Prop:=t=s∨(t= -1∧-1≤s∧s≤2)
theorem Jwc {d:XDoor} {s t:Int} (h:Jvr d s t):SubS (Jeh d s) (Jeh d t):=by
  rcases h with h | ⟨h1,h2,h3⟩
  · rw [h];exact .refl _
  · rw [h1]
    by_cases hs:s= -1
    · rw [hs];exact .refl _
    · have := Jvq (l := d.rests.l) (k := d.rests.l.length) (i := s.toNat) (by omega)
      unfold Jeh
      rw [if_neg (by omega),if_neg hs,if_neg (by omega),if_pos rfl]
      exact this
theorem Jtu {f:XFan} {s t:Int} (h:Jx1 s t) (q:Int):SubS (Jb9 f s q) (Jb9 f t q):=by
  rcases h with h | ⟨h1,h2,h3⟩
  · rw [h];exact .refl _
  · rw [h1]
    have key:∀b:Bool,SubS (Jdg f.curve.l b q) (Jb9 f (-1) q):=fun b=>by
      unfold Jb9 SubS
      rw [if_neg (by decide),if_neg (by decide),if_pos rfl]
      cases b <;> dsimp only <;> omega
    rw [Jb9]
    split
    · exact key _
    · split
      · exact key _
      · split
        · rename_i h
          unfold Jb9
          rw [if_neg (by decide),if_neg (by decide),if_pos rfl]
          exact .refl _
        · unfold Jb9 SubS
          rw [if_neg (by decide),if_neg (by decide),if_pos rfl]
          dsimp only;omega
structure SetLess (a:XAir) (s t:XSetting):Prop where
  fan:∀k,k < a.fans.l.length→Jx1 (s.fans.l.getD k 0) (t.fans.l.getD k 0)
  door:∀k,k < a.doors.l.length→Jvr (a.doors.l.getD k default) (s.doors.l.getD k 0) (t.doors.l.getD k 0)
theorem Jn0 {a : XAir} {s t : XSetting} (h : SetLess a s t) (r : Int) : ∀ k, k ≤ a.doors.l.length → SubS (Jbq a s r k) (Jbq a t r k)
  | 0,_=>.refl _
  | k + 1,hk=>by
    have ih:=Jn0 h r k (by omega)
    have hd:=Jwc (h.door k (by omega))
    unfold SubS at *
    simp only [Jbq]
    split
    · dsimp only;omega
    · exact ih
theorem Jlu {a : XAir} {s t : XSetting} (h : SetLess a s t) (r q : Int) : ∀ k, k ≤ a.fans.l.length → SubS (innerTo a s r q k) (innerTo a t r q k)
  | 0,_=>Jxi (Jn0 h r _ (Nat.le_refl _)) (.refl _) q
  | k + 1,hk=>by
    have ih:=Jlu h r q k (by omega)
    have hd:=Jtu (f:=a.fans.l.getD k default) (h.fan k (by omega)) q
    unfold SubS at *
    simp only [innerTo]
    split
    · dsimp only;omega
    · exact ih
theorem Juj {a:XAir} {s t:XSetting} (h:SetLess a s t) (r q:Int):SubS (Ja8 a s r q) (Ja8 a t r q):=Jlu h r q _ (Nat.le_refl _)
def Jnt (doors : List XDoor) (sd : List Int) (r : Int) : Nat → Int
  | 0=>0
  | k + 1=>if (doors.getD k default).road=r then Jnt doors sd r k + (Jeh (doors.getD k default) (sd.getD k 0)).low else Jnt doors sd r k
def fSum (fans : List XFan) (sf : List Int) (r q : Int) : Nat → Int
  | 0=>0
  | k + 1=>if (fans.getD k default).road=r then fSum fans sf r q k + (Jb9 (fans.getD k default) (sf.getD k 0) q).low else fSum fans sf r q k
theorem Jk5 {d:XDoor} {road:Int} (hd:MadeDoor road d) {s:Int} (hs:0≤s∧s < d.rests.l.length):(Jeh d s).low=(Jeh d s).high∧0≤(Jeh d s).low∧(Jeh d s).low≤900:=by
  have hl:=hd.len
  have:=hd.rest s.toNat _ (Jai 0 (by omega))
  unfold Jeh
  rw [if_neg (by omega),if_neg (by omega)]
  dsimp only;omega
theorem Jn5 {l:List XPoint} (h:MadeCurve l) (q:Int):0≤(Jc6 l q).low∧(Jc6 l q).low≤(Jc6 l q).high∧(Jc6 l q).high≤3000:=by
  cases l with
  | nil=>simp [Jc6]
  | cons p rest=>
    have h0:=h.ok.pt 0 p rfl
    have ht:=h.top
    simp only [List.getD_cons_zero] at ht
    unfold Jc6
    dsimp only
    split
    · dsimp only;omega
    · have := Jef rest p q h.ok (by omega)
      omega
theorem Jg3 {l:List XPoint} (h:MadeCurve l) (back:Bool) (q:Int):-3000≤(Jdg l back q).low∧(Jdg l back q).low≤(Jdg l back q).high∧(Jdg l back q).high≤3000:=by
  have h1:=Jn5 h q
  have h2:=Jn5 h (-q)
  unfold Jdg J2m
  split <;> first | omega | (dsimp only;omega)
theorem Jjo {f:XFan} (h:MadeCurve f.curve.l) (s q:Int):-3000≤(Jb9 f s q).low∧(Jb9 f s q).low≤(Jb9 f s q).high∧(Jb9 f s q).high≤3000:=by
  have h1:=Jg3 h f.back q
  have h2:=Jg3 h (!f.back) q
  have h3:=Jg3 h false q
  have h4:=Jg3 h true q
  unfold Jb9
  split
  · omega
  · split
    · omega
    · split <;> dsimp only <;> omega
theorem Jg8 {n : Nat} {m : Int} {doors : List XDoor} {sd : List Int} (h : DoorsD n m doors sd) (r : Int) : ∀ k, k ≤ doors.length → 0 ≤ Jnt doors sd r k ∧ Jnt doors sd r k ≤ 900 * (k : Int)
  | 0,_=>by simp [Jnt]
  | k + 1,hk=>by
    have ih:=Jg8 h r k (by omega)
    have hl:=h.len
    have hg:=Jai (l:=doors) (k:=k) default (by omega)
    have hb:=Jk5 (h.door _ (List.mem_of_getElem? hg)).made (h.st k _ _ hg (Jai 0 (by omega)))
    simp only [Jnt]
    split <;> omega
theorem Jg9 {n : Nat} {m : Int} {fans : List XFan} {sf : List Int} (h : FansD n m fans sf) (r q : Int) : ∀ k, k ≤ fans.length → -3000 * (k : Int) ≤ fSum fans sf r q k ∧ fSum fans sf r q k ≤ 3000 * (k : Int)
  | 0,_=>by simp [fSum]
  | k + 1,hk=>by
    have ih:=Jg9 h r q k (by omega)
    have hg:=Jai (l:=fans) (k:=k) default (by omega)
    have hb:=Jjo (h.fan _ (List.mem_of_getElem? hg)).curve (sf.getD k 0) q
    simp only [fSum]
    split <;> omega
theorem FanD.ok {n:Nat} {f:XFan} (h:FanD n f):FanOk f:=⟨h.road.1,h.curve.len.1,by have:=h.curve.len;omega,h.curve.ok⟩
theorem DoorD.ok {n:Nat} {d:XDoor} (h:DoorD n d):DoorOk d:=⟨h.road.1,by have:=h.made.len;omega,fun i x hx=>by have:=h.made.rest i x hx;omega,h.made.falls⟩
def Jlx (r:XRoad) (e dS fS d q:Int):Int:=(r.rest.low + e + dS) * max q (-q) * q - d - fS
def J1z (dS fS d q:Int) (r r':XRoad):Prop:=
  ∃e u v:Int,(0≤e∧e≤r.rest.high - r.rest.low)∧(0≤u∧u≤29)∧(0≤v∧v≤29)∧r'={ r with lift:=⟨Jlx r e dS fS d q - u,Jlx r e dS fS d q + v⟩ }
theorem Jnm {R q:Int} (hR:0≤R∧R≤2000) (hq:-360≤q∧q≤360):(0≤R * max q (-q)∧R * max q (-q)≤720000)∧-259200000≤R * max q (-q) * q∧R * max q (-q) * q≤259200000:=by
  have hm:0≤max q (-q)∧max q (-q)≤360:=by omega
  generalize max q (-q)=m at *
  have h1:=Int.mul_nonneg hR.1 hm.1
  have h2:=Int.mul_le_mul hR.2 hm.2 hm.1 (by omega)
  generalize R * m=z at *
  refine ⟨by omega,?_⟩
  rcases Int.le_total 0 q with h | h
  · have h3 := Int.mul_nonneg h1 h
    have h4:=Int.mul_le_mul (show z≤720000 by omega) hq.2 h (by omega)
    omega
  · have h3 := Int.mul_nonneg h1 (show 0 ≤ -q by omega)
    have h4:=Int.mul_le_mul (show z≤720000 by omega) (show -q≤360 by omega) (by omega) (by omega)
    rw [Int.mul_neg] at h3 h4
    omega
theorem Jtw {R q:Int}:R * max q (-q) * q=if q < 0 then -(R * q * q) else R * q * q:=by
  split
  · rw [show max q (-q)= -q by omega,Int.mul_neg,Int.neg_mul]
  · rw [show max q (-q)=q by omega]
theorem Jsa {a : XAir} {s : XSetting} {n : Nat} {m m' : Int} (hF : FansD n m a.fans.l s.fans.l) (hD : DoorsD n m' a.doors.l s.doors.l) {i : Nat} {r0 : XRoad} {d q : Int} (hr0 : r0.rest.low ≤ r0.rest.high)
    (hfit:J1z (Jnt a.doors.l s.doors.l i a.doors.l.length) (fSum a.fans.l s.fans.l i q a.fans.l.length) d q r0 (a.mine.roads.l.getD i default)):
    (Ja8 a s i q).low≤d∧d≤(Ja8 a s i q).high:=by
  obtain ⟨e,u,v,he,hu,hv,hr⟩:=hfit
  have hrest:(a.mine.roads.l.getD i default).rest=r0.rest:=by rw [hr]
  have hlift:(a.mine.roads.l.getD i default).lift=⟨Jlx r0 e (Jnt a.doors.l s.doors.l i a.doors.l.length) (fSum a.fans.l s.fans.l i q a.fans.l.length) d q - u,Jlx r0 e (Jnt a.doors.l s.doors.l i a.doors.l.length) (fSum a.fans.l s.fans.l i q a.fans.l.length) d q + v⟩:=by rw [hr]
  have hdo:∀k,k≤a.doors.l.length→Jbq a s i k=⟨r0.rest.low + Jnt a.doors.l s.doors.l i k,r0.rest.high + Jnt a.doors.l s.doors.l i k⟩:=by
    intro k
    induction k with
    | zero=>intro _;simp only [Jbq,Jnt,Int.toNat_natCast,hrest,Int.add_zero]
    | succ k ih=>
      intro hk
      have hg:=Jai (l:=a.doors.l) (k:=k) default (by omega)
      have hl:=hD.len
      have hb:=Jk5 (hD.door _ (List.mem_of_getElem? hg)).made (hD.st k _ _ hg (Jai 0 (by omega)))
      simp only [Jbq,Jnt,ih (by omega)]
      split
      · rw [← hb.1];simp only [Int.add_assoc]
      · rfl
  have hfa:∀k,k≤a.fans.l.length→(innerTo a s i q k).low + fSum a.fans.l s.fans.l i q k≤(innerTo a s i q 0).low∧(innerTo a s i q k).high + fSum a.fans.l s.fans.l i q k=(innerTo a s i q 0).high:=by
    intro k
    induction k with
    | zero=>intro _;simp only [fSum];omega
    | succ k ih=>
      intro hk
      have ih:=ih (by omega)
      have hg:=Jai (l:=a.fans.l) (k:=k) default (by omega)
      have hb:=Jjo (hF.fan _ (List.mem_of_getElem? hg)).curve (s.fans.l.getD k 0) q
      rw [innerTo.eq_2,fSum.eq_2]
      split
      · dsimp only;omega
      · exact ih
  have h1:=hfa _ (Nat.le_refl _)
  have h0:innerTo a s i q 0=Jlb ⟨r0.rest.low + Jnt a.doors.l s.doors.l i a.doors.l.length,r0.rest.high + Jnt a.doors.l s.doors.l i a.doors.l.length⟩ (a.mine.roads.l.getD i default).lift q:=by
    rw [innerTo,hdo _ (Nat.le_refl _),Int.toNat_natCast]
  rw [h0,hlift] at h1
  unfold Ja8
  generalize innerTo a s i q a.fans.l.length=I at *
  generalize fSum a.fans.l s.fans.l i q a.fans.l.length=fS at *
  generalize Jnt a.doors.l s.doors.l i a.doors.l.length=dS at *
  unfold Jlx at h1
  rw [Jtw] at h1
  have k1:=Jhg (q:=q) (show r0.rest.low + dS≤r0.rest.low + e + dS by omega)
  have k2:=Jhg (q:=q) (show r0.rest.low + e + dS≤r0.rest.high + dS by omega)
  unfold Jlb at h1
  dsimp only at h1
  by_cases hq:q < 0
  · rw [if_pos hq, if_pos hq] at h1
    dsimp only at h1
    omega
  · rw [if_neg hq, if_neg hq] at h1
    dsimp only at h1
    omega
end Go.Proofs.Ytihompplndcdeaa
end
section
namespace Go.Proofs.Ytihompplndcdeaa
open Go.Aw Go
set_option maxRecDepth 20000
attribute [local irreducible] CJ LJ DJ Tri YV Gives Jdn Jaw Jbk Jdo RV Jay OwL.L
structure RoadD (np:Nat) (r:XRoad):Prop where
  fr:0≤r.fr∧r.fr < np
  to:0≤r.to∧r.to < np
  rest:1≤r.rest.low∧r.rest.low≤r.rest.high∧r.rest.high≤22
abbrev Jkj (st:XState) (r:XRoad):Int:=st.pres.l.getD r.fr.toNat 0 - st.pres.l.getD r.to.toNat 0
def J2y (a:XAir) (s:XSetting) (st:XState) (i:Nat) (r r':XRoad):Prop:=
  J1z (Jnt a.doors.l s.doors.l i a.doors.l.length) (fSum a.fans.l s.fans.l i (st.flows.l.getD i 0) a.fans.l.length) (Jkj st r) (st.flows.l.getD i 0) r r'
structure FitI (a:XAir) (s:XSetting) (st:XState) (l0:List XRoad) (i:Nat) (l:List XRoad):Prop where
  len:l.length=l0.length
  done:∀(j:Nat) (r:XRoad),j < i→l0[j]?=some r→∃r',l[j]?=some r'∧J2y a s st j r r'
  todo:∀j,i≤j→l[j]?=l0[j]?
theorem FitI.next {a:XAir} {s:XSetting} {st:XState} {l0 l:List XRoad} {i:Nat} (h:FitI a s st l0 i l) {r r':XRoad} (hr:l0[i]?=some r) (hf:J2y a s st i r r'):FitI a s st l0 (i + 1) (l.set i r'):=by
  have hi:=(List.getElem?_eq_some_iff.1 hr).1
  refine ⟨by simp [h.len],fun j q hj hq=>?_,fun j hj=>?_⟩
  · rcases Nat.lt_or_eq_of_le (Nat.le_of_lt_succ hj) with h' | h'
    · rw [List.getElem?_set_ne (by omega)]
      exact h.done j q h' hq
    · subst h'
      rw [hr] at hq;cases hq
      exact ⟨r',List.getElem?_set_self (by rw [h.len];exact hi),hf⟩
  · rw [List.getElem?_set_ne (by omega)]
    exact h.todo j (by omega)
theorem J3m (c ab : Nat) (x : Arr Int) (k n : Nat) (pv : Value) (a : XAir) (s : XSetting) (st : XState) (roads : OwL XRoad) (R : List Sl) (hx : CodesR x R) (hk : k ≤ x.l.length) (hok : roads.ok 10 XRoad.cells)
    (hfa:InR (fsl a.fans) R) (hdo:InR (dsl a.doors) R) (hs:SetR s R) (hst:StateR st R) (hF:FansD n 0 a.fans.l s.fans.l) (hD:DoorsD n 0 a.doors.l s.doors.l) (hq:roads.l.length=st.flows.l.length) (hlen:roads.l.length≤100)
    (hqb:∀(i:Nat) (q:Int),st.flows.l[i]?=some q→-360≤q∧q≤360) (hpb:∀(i:Nat) (p:Int),st.pres.l[i]?=some p→-4000≤p∧p≤4000) (hr:∀(i:Nat) (r:XRoad),roads.l[i]?=some r→RoadD st.pres.l.length r):
    Tri Try.prog 27 [.pointer (some ⟨c, 0, none⟩), .pointer (some ⟨ab, 0, none⟩), s.val, st.val].toArray (cblk c x k :: ⟨ab, [pv, roads.val, a.fans.val, a.doors.val], 32⟩ :: (roads.L 75 XRoad.cells ++ [])) R
      (fun v L' R'=>∃(rl:List XRoad) (k':Nat),v=.tuple #[]∧FitI a s st roads.l roads.l.length rl∧k'≤x.l.length∧cblk c x k' :: ⟨ab,[pv,roads.val,a.fans.val,a.doors.val],32⟩ :: ((⟨roads.o,rl⟩:OwL XRoad).L 75 XRoad.cells ++ [])=L'∧R=R'):=by
  have hsf:=hs.fans
  have hsd:=hs.doors
  have hsp:=hst.pres
  have hsq:=hst.flows
  have hFm:=hF.m
  have hFl:=hF.len
  have hDm:=hD.m
  have hDl:=hD.len
  refine Jae 166 Try.call27 Try.func27 rfl rfl rfl ?_
  refine Xaj ?_
  intro b6
  refine qax ?_
  intro b7
  refine qam ?_
  refine Xav ?_
  refine Jag [(0,Value.pointer _),(1,Value.pointer _),(6,Value.pointer _),(7,Value.pointer _),(8,Value.int _ _)] (by repeat' (first | exact trivial | refine And.intro rfl ?_)) fun tq0=>?_
  refine q_p [8,9,10,11,12,13,14,15,16,17,18,19,20,21,22,23,24,25,26,27,28,29,30,31,32,33,34,35,36,37,38,39,40,41,42,43,44,45,46,47,48,49,50,51,52,53,54,55,56,57,58,59,60,61,62,63,64,65,66,67,68,69,70,71,72,73,74,75,76,77,78,79,80,81,82,83,84,85,86,87,88,89,90,91,92,93,94,95,96,97,98,99,100,101,102,103,104,105,106,107,108,109,110,111,112,113,114,115,116,117,118,119,120,121,122,123,124,125,126,127,128,129,130,131,132,133,134,135,136,137,138,139,140,141,142,143,144,145,146,147,148,149,150,151,152,153,154,155,156,157,158,159,160,161,162,163,164,165] ((⟨fun g=>[(8,.int .i64 ((g.1.2.1:Nat):Int))],fun g=>⟨b7,st.cells,37⟩ :: ⟨b6,s.cells,35⟩ :: cblk c x g.1.1 :: ⟨ab,[pv,(⟨roads.o,g.1.2.2⟩:OwL XRoad).val,a.fans.val,a.doors.val],32⟩ :: ((⟨roads.o,g.1.2.2⟩:OwL XRoad).L 75 XRoad.cells ++ []),fun _=>R,fun g=>roads.l.length - g.1.2.1⟩:Head {g:Nat×Nat×List XRoad // g.1≤x.l.length∧g.2.1≤roads.l.length∧(⟨roads.o,g.2.2⟩:OwL XRoad).ok 10 XRoad.cells∧FitI a s st roads.l g.2.1 g.2.2})) (⟨(k,0,roads.l),hk,Nat.zero_le _,hok,⟨rfl,(fun _ _ h=>absurd h (Nat.not_lt_zero _)),(fun _ _=>rfl)⟩⟩) ?_
  rintro ⟨⟨kk,i,rl⟩,hkk,hi,hokr,hI⟩ junk
  try dsimp only
  dsimp only at hkk hi hokr hI
  have hrl:=hI.len
  refine Xap ?_
  refine qa6 ?_
  refine Jax (Ja3 rfl) rfl ?_
  refine Xa7 ?_
  refine Xan ?_
  refine q_c (fun hc0=>?_) (fun hc0=>?_)
  ·
   have hr0:=Jai (l:=roads.l) (k:=i) default (by omega)
   obtain ⟨r,hre⟩:∃r,r=roads.l.getD i default:=⟨_,rfl⟩
   rw [← hre] at hr0
   have hri:rl[i]?=some r:=by rw [hI.todo i (Nat.le_refl _)];exact hr0
   have hrd:=hr i r hr0
   have hrr:=hrd.rest
   have hrf:=hrd.fr
   have hrt:=hrd.to
   obtain ⟨q,hqe⟩:∃q,q=st.flows.l.getD i 0:=⟨_,rfl⟩
   have hqi:=Jai (l:=st.flows.l) (k:=i) 0 (by omega)
   rw [← hqe] at hqi
   have hqq:=hqb _ _ hqi
   have hpf:=Jai (l:=st.pres.l) (k:=r.fr.toNat) 0 (by omega)
   have hpt:=Jai (l:=st.pres.l) (k:=r.to.toNat) 0 (by omega)
   have hpfb:=hpb _ _ hpf
   have hptb:=hpb _ _ hpt
   have hpa:-8000≤Jkj st r∧Jkj st r≤8000:=by dsimp only [Jkj];omega
   refine qbb ?_
   refine qa6 ?_
   refine Jax (Ja3 rfl) rfl ?_
   refine Xc2 ?_
   refine Jax (Jao tb ((⟨roads.o,rl⟩:OwL XRoad)) _ rfl rfl rfl rfl (by assumption) (i:=i) (by first | rfl | omega | (simp;omega)) (by first | omega | (dsimp only;omega) | (dsimp only;rw [List.length_set];omega) | (dsimp only;simp only [List.length_set];omega))) rfl ?_
   refine qc1 ?_
   refine qam ?_
   refine Xah ?_
   refine Xc1 ?_
   refine Xb3 ?_
   refine Ja5 tb [0,1,2,3,4,5,6,7,8,9,10,11,12,13,14,15,16,17,18,19,20] ([Blk.mk ab _ _] ++ ((⟨roads.o,rl⟩:OwL XRoad).L 75 XRoad.cells ++ [])) Jbh (by kernel_rfl) (by repeat (first | exact zs0 _ | exact zs1 _ | apply zs2 | apply zs3 | apply zs4 | apply zs5)) ?_
   refine Xbr ?_
   refine qce ?_
   refine qce ?_
   refine qdf ?_
   refine qb8 ?_
   refine Xbr ?_
   refine qce ?_
   refine qce ?_
   refine qdf ?_
   refine Xbr ?_
   refine qce ?_
   refine qce ?_
   refine qdf ?_
   refine qb7 ?_
   refine qc2 ?_
   refine Jdx rfl (Jgz (by repeat (first | apply USeg.here | apply USeg.cons | apply USeg.app)) hx hkk (by omega)) rfl rfl ?_
   rintro v L' R' ⟨e,k1,rfl,g1,g1',g1'',hk1,rfl,rfl⟩
   refine qas ?_
   refine qc2 ?_
   refine qcg ?_
   refine Jb8 (Jaa (Jan (Jan ?_)))
   have g1q:=g1' (by omega)
   refine qay ?_
   refine Xav ?_
   refine Jcv [8,9,10,11,12,13,14,15,16,17,18,19,20,21,22,23,24,25,26,27,28,29,30,31,32,33,34,35,36,37,38,39,40,41,42,43,44,45,46,47,48,49,50,51,52,53,54,55,56,57,58,59,60,61,62,63,64,65,66,67,68,69,70,71,72,73,74,75,76,77,78,79,80,81,82,83,84,85,86,87,88,89,90,91,92,93,94,95,96,97,98,99,100,101,102,103,104,105,106,107,108,109,110,111,112,113,114,115,116,117,118,119,120,121,122,123,124,125,126,127,128,129,130,131,132,133,134,135,136,137,138,139,140,141,142,143,144,145,146,147,148,149,150,151,152,153,154,155,156,157,158,159,160,161,162,163,164,165] (by repeat (first | apply Off.upd rfl | apply Off.havoc rfl | refine Off.updL (t':=havoc _ _ _) rfl ?_ | exact Off.refl)) [(8,Value.int _ _),(9,Value.pointer _),(10,Value.int _ _),(11,Value.int _ _),(12,Value.int _ _)] (by repeat' (first | exact trivial | refine And.intro rfl ?_)) fun tq1=>?_
   refine q_s [11,12,57,58,59,60,61,62,63,64,65,66,67,68,69,70,71,72,73,74,75,76,77,78,79,80,81,82,83,84,85,86,87,88,89,90,91] (fun g:{g:Nat×Int // g.1≤a.doors.l.length∧g.2=r.rest.low + e + Jnt a.doors.l s.doors.l i g.1}=>[(12,.int .i64 ((g.1.1:Nat):Int)),(11,.int .i64 g.1.2)]) (fun g=>a.doors.l.length - g.1.1) (⟨(0,r.rest.low + e),Nat.zero_le _,(Int.add_zero _).symm⟩) ?_
   rintro ⟨⟨kd,rs⟩,hkd,hrs⟩ junk
   try dsimp only
   dsimp only at hkd hrs
   refine Xap ?_
   refine qa6 ?_
   refine Jax (Ja3 rfl) rfl ?_
   refine Xbd ?_
   refine q_c (fun hc1=>?_) (fun hc1=>?_)
   ·
    have hdk:=Jai (l:=a.doors.l) (k:=kd) default (by omega)
    have hsk:=Jai (l:=s.doors.l) (k:=kd) 0 (by omega)
    have hdb:=Jg8 hD i kd (by omega)
    have hrb:=Jk5 (hD.door _ (List.mem_of_getElem? hdk)).made (hD.st kd _ _ hdk hsk)
    refine qbb ?_
    refine qa6 ?_
    refine Jax (Ja3 rfl) rfl ?_
    refine Xah ?_
    refine qa3 ?_
    refine Xbc ?_
    refine qaa ?_
    refine Xb2 ?_
    refine q_c (fun hc2=>?_) (fun hc2=>?_)
    ·
     refine Ja5 tb [0,1,2,3,4,5,6,7,8,9,10,11,12,13,14,15,16] _ Jbh (by kernel_rfl) (List.Sublist.refl _) ?_
     refine qao ?_
     refine Xbr ?_
     refine Xb6 ?_
     refine qdv ?_
     refine Xb6 ?_
     refine qbl ?_
     refine q_d rfl (Jkr (a.doors.l.getD kd default) (s.doors.l.getD kd 0) _ _ (hdo.door hdk)) ?_
     refine Jbx (Jkz (e:=3) tb rfl (by kernel_rfl) rfl rfl rfl rfl rfl) rfl rfl rfl ?_
     refine qc2 ?_
     refine qcg ?_
     refine Xb7 ?_
     first | exact q_k ⟨(kd + 1,rs + (Jeh (a.doors.l.getD kd default) (s.doors.l.getD kd 0)).low),by dsimp only;omega,by dsimp only;rw [Jnt,if_pos hc2,hrs,Int.add_assoc]⟩ | exact q_k ⟨(kd + 1,rs),by dsimp only;omega,by dsimp only;rw [Jnt,if_neg hc2,hrs]⟩
    refine Xbg ?_
    first | exact q_k ⟨(kd + 1,rs + (Jeh (a.doors.l.getD kd default) (s.doors.l.getD kd 0)).low),by dsimp only;omega,by dsimp only;rw [Jnt,if_pos hc2,hrs,Int.add_assoc]⟩ | exact q_k ⟨(kd + 1,rs),by dsimp only;omega,by dsimp only;rw [Jnt,if_neg hc2,hrs]⟩
   obtain rfl:kd=a.doors.l.length:=by omega
   have hdb:=Jg8 hD i a.doors.l.length (Nat.le_refl _)
   have hlb:=Jnm (R:=rs) (q:=q) (by omega) hqq
   refine qc3 ?_
   refine Ja5 tb [0,1,2,3,4,5,6,7,8,9,10,11,12,13,14,15,16,17,18,19,20,21,22,23,24,25,26] _ Jbh (by kernel_rfl) (List.Sublist.refl _) ?_
   iterate 3 refine qao ?_
   refine Jbx (Jkq rfl (by omega) (by omega)) rfl rfl rfl ?_
   refine Jbx (Jk3 rfl rfl) rfl rfl rfl ?_
   refine qdh ?_
   refine qao ?_
   refine qdh ?_
   refine Xad ?_
   refine Xbr ?_
   refine qce ?_
   refine qdf ?_
   refine Jbx (by first | exact Jaf tb rfl rfl rfl rfl (by first | assumption | exact zr (by simp)) (i:=r.fr.toNat) (by first | rfl | omega | (simp;omega)) (by omega) | exact Jah tb rfl rfl rfl rfl (i:=r.fr.toNat) (by first | rfl | omega | (simp;omega)) (by omega)) rfl rfl rfl ?_
   refine qbl ?_
   refine Xad ?_
   refine Xbr ?_
   refine qce ?_
   refine qdf ?_
   refine Jbx (by first | exact Jaf tb rfl rfl rfl rfl (by first | assumption | exact zr (by simp)) (i:=r.to.toNat) (by first | rfl | omega | (simp;omega)) (by omega) | exact Jah tb rfl rfl rfl rfl (i:=r.to.toNat) (by first | rfl | omega | (simp;omega)) (by omega)) rfl rfl rfl ?_
   refine qbl ?_
   refine qb7 ?_
   refine qb7 ?_
   refine qcg ?_
   refine qc6 ?_
   refine Xav ?_
   refine Jcv [8,9,10,11,12,13,14,15,16,17,18,19,20,21,22,23,24,25,26,27,28,29,30,31,32,33,34,35,36,37,38,39,40,41,42,43,44,45,46,47,48,49,50,51,52,53,54,55,56,57,58,59,60,61,62,63,64,65,66,67,68,69,70,71,72,73,74,75,76,77,78,79,80,81,82,83,84,85,86,87,88,89,90,91,92,93,94,95,96,97,98,99,100,101,102,103,104,105,106,107,108,109,110,111,112,113,114,115,116,117,118,119,120,121,122,123,124,125,126,127,128,129,130,131,132,133,134,135,136,137,138,139,140,141,142,143,144,145,146,147,148,149,150,151,152,153,154,155,156,157,158,159,160,161,162,163,164,165] (by repeat (first | apply Off.upd rfl | apply Off.havoc rfl | refine Off.updL (t':=havoc _ _ _) rfl ?_ | exact Off.refl)) [(8,Value.int _ _),(9,Value.pointer _),(10,Value.int _ _),(13,Value.int _ _),(14,Value.int _ _)] (by repeat' (first | exact trivial | refine And.intro rfl ?_)) fun tq2=>?_
   refine q_s [13,14,118,119,120,121,122,123,124,125,126,127,128,129,130,131,132,133,134,135,136,137,138,139,140,141,142,143,144,145,146,147,148,149,150,151,152,153] (fun g:{g:Nat×Int // g.1≤a.fans.l.length∧g.2=rs * max q (-q) * q - Jkj st r - fSum a.fans.l s.fans.l i q g.1}=>[(14,.int .i64 ((g.1.1:Nat):Int)),(13,.int .i64 g.1.2)]) (fun g=>a.fans.l.length - g.1.1) (⟨(0,rs * max q (-q) * q - Jkj st r),Nat.zero_le _,(Int.sub_zero _).symm⟩) ?_
   rintro ⟨⟨kf,lf⟩,hkf,hlf⟩ junk
   try dsimp only
   dsimp only at hkf hlf
   refine Xap ?_
   refine qa6 ?_
   refine Jax (Ja3 rfl) rfl ?_
   refine Xbd ?_
   refine q_c (fun hc3=>?_) (fun hc3=>?_)
   ·
    have hfk:=Jai (l:=a.fans.l) (k:=kf) default (by omega)
    have hsk:=Jai (l:=s.fans.l) (k:=kf) 0 (by omega)
    have hfb:=Jg9 hF i q kf (by omega)
    have hfd:=hF.fan _ (List.mem_of_getElem? hfk)
    have hsb:=Jjo hfd.curve (s.fans.l.getD kf 0) q
    have hst2:=hF.st _ (List.mem_of_getElem? hsk)
    refine qbb ?_
    refine qa6 ?_
    refine Jax (Ja3 rfl) rfl ?_
    refine Xah ?_
    refine qa3 ?_
    refine Xbc ?_
    refine qaa ?_
    refine Xb2 ?_
    refine q_c (fun hc4=>?_) (fun hc4=>?_)
    ·
     refine Ja5 tb [0,1,2,3,4,5,6,7,8,9,10,11,12,13,14,15,16,17] _ Jbh (by kernel_rfl) (List.Sublist.refl _) ?_
     refine qao ?_
     refine Xbr ?_
     refine Xb6 ?_
     refine qdp ?_
     refine Xb6 ?_
     refine qbl ?_
     refine qao ?_
     refine q_d rfl (Jjz (a.fans.l.getD kf default) (s.fans.l.getD kf 0) q _ _ (hfa.fan hfk) hfd.ok (by omega) (by omega)) ?_
     refine Jbx (Jkz (e:=3) tb rfl (by kernel_rfl) rfl rfl rfl rfl rfl) rfl rfl rfl ?_
     refine qb7 ?_
     refine qcg ?_
     refine Xb7 ?_
     first | exact q_k ⟨(kf + 1,lf - (Jb9 (a.fans.l.getD kf default) (s.fans.l.getD kf 0) q).low),by dsimp only;omega,by dsimp only;rw [fSum,if_pos hc4,hlf,Int.sub_sub]⟩ | exact q_k ⟨(kf + 1,lf),by dsimp only;omega,by dsimp only;rw [fSum,if_neg hc4,hlf]⟩
    refine Xbg ?_
    first | exact q_k ⟨(kf + 1,lf - (Jb9 (a.fans.l.getD kf default) (s.fans.l.getD kf 0) q).low),by dsimp only;omega,by dsimp only;rw [fSum,if_pos hc4,hlf,Int.sub_sub]⟩ | exact q_k ⟨(kf + 1,lf),by dsimp only;omega,by dsimp only;rw [fSum,if_neg hc4,hlf]⟩
   obtain rfl:kf=a.fans.l.length:=by omega
   have hfb:=Jg9 hF i q a.fans.l.length (Nat.le_refl _)
   refine Jcs (Jbv (Jcp (Jbf (Jaa (Jaj ?_)))))
   refine qa6 ?_
   refine qaa ?_
   refine qa6 ?_
   refine J6l ?_
   rintro v L' R' ⟨u,k2,rfl,g2,g2',g2'',hk2,rfl,rfl⟩
   refine qa9 ?_
   refine qaa ?_
   refine qa6 ?_
   refine J3l ?_
   rintro v L' R' ⟨w,k3,rfl,g3,g3',g3'',hk3,rfl,rfl⟩
   have g2q:=g2' (by omega)
   refine qar ?_
   refine qcd ?_
   refine Jax (Ja3 rfl) rfl ?_
   refine qb0 ?_
   refine Jhw (Jer tb ((⟨roads.o,rl⟩:OwL XRoad)) ({ r with lift:=⟨lf - u,lf + w⟩ }) rfl rfl rfl rfl (by repeat (first | apply OSeg.cons | exact OSeg.here | exact OSeg.last | exact OSeg.at (by assumption) | apply OSeg.app)) (by assumption) (fun _=>rfl) (by assumption) (Nat.le_of_ble_eq_true rfl) (by rfl) (by rfl)) ?_
   rintro v L' R' ⟨rfl,rfl⟩
   refine Xca ?_
   have g3q:=g3' (by omega)
   exact Jau ⟨(k3,i + 1,rl.set i { r with lift:=⟨lf - u,lf + w⟩ }),hk3,by dsimp only;omega,OwL.set_ok (p:=⟨roads.o,rl⟩) (fun _=>rfl) hokr,hI.next hr0 ⟨e,u,w,by omega,by omega,by omega,by rw [Jlx,← hrs,← hqe,← hlf]⟩⟩ (by repeat (first | exact Off.refl | apply Off.upd rfl | apply Off.havoc rfl | apply Off.updL rfl | apply Off.left rfl)) (by repeat' (first | exact trivial | refine And.intro rfl ?_)) (by dsimp only;rw [OwL.set_val];exact (by repeat (first | exact zs0 _ | exact zs1 _ | apply zs2 | apply zs3 | apply zs4 | apply zs5))) (Jac _) (by dsimp only;omega)
  obtain rfl:i=roads.l.length:=by omega
  refine Jcs (Jbv (Jcp (Jbf ?_)))
  refine Jur (L':=cblk c x kk :: ⟨ab,[pv,roads.val,a.fans.val,a.doors.val],32⟩ :: ((⟨roads.o,rl⟩:OwL XRoad).L 75 XRoad.cells ++ [])) (R':=R) (J64 rfl) ?hp ?hL ?hR
  case hp=>exact ⟨rl,kk,rfl,hI,hkk,rfl,rfl⟩
  case hL=>
   have e:roads.val=(⟨roads.o,rl⟩:OwL XRoad).val:=by simp only [OwL.val,hrl]
   rw [e];exact (by repeat (first | exact zs0 _ | exact zs1 _ | apply zs2 | apply zs3 | apply zs4 | apply zs5))
  case hR=>exact Jac _
theorem J1l {A B : List Blk} {c ab : Nat} {x : Arr Int} {k n : Nat} {pv : Value} {roads : OwL XRoad} {fans : OwL XFan} {doors : OwL XDoor} {sf sd pres flows : OwL Int} {R : List Sl} (mine : XMine)
    (hsp:Spl A B (roads.L 75 XRoad.cells ++ (cblk c x k :: ⟨ab,[pv,roads.val,fans.val,doors.val],32⟩ :: [])))
    (b1:InB (fans.L 105 XFan.cells) B) (b2:InB (doors.L 82 XDoor.cells) B) (b3:InB (sf.L 3 Jad) B) (b4:InB (sd.L 3 Jad) B) (b5:InB (pres.L 3 Jad) B) (b6:InB (flows.L 3 Jad) B)
    (o1:fans.ok 4 XFan.cells) (o2:doors.ok 3 XDoor.cells) (o3:sf.ok 1 Jad) (o4:sd.ok 1 Jad) (o5:pres.ok 1 Jad) (o6:flows.ok 1 Jad) (r1:∀f∈fans.l,InR f.sl R) (r2:∀d∈doors.l,InR d.sl R)
    (hx:CodesR x R) (hk:k≤x.l.length) (hok:roads.ok 10 XRoad.cells) (hF:FansD n 0 fans.l sf.l) (hD:DoorsD n 0 doors.l sd.l) (hq:roads.l.length=flows.l.length) (hlen:roads.l.length≤100)
    (hqb:∀(i:Nat) (q:Int),flows.l[i]?=some q→-360≤q∧q≤360) (hpb:∀(i:Nat) (p:Int),pres.l[i]?=some p→-4000≤p∧p≤4000) (hr:∀(i:Nat) (r:XRoad),roads.l[i]?=some r→RoadD pres.l.length r):
    Tri Try.prog 27 [.pointer (some ⟨c, 0, none⟩), .pointer (some ⟨ab, 0, none⟩), .agg #[sf.val, sd.val], .agg #[pres.val, flows.val]].toArray A R
      (fun v L'' R'=>∃(rl:List XRoad) (k':Nat),v=.tuple #[]∧FitI ⟨mine,fans.arr,doors.arr⟩ ⟨sf.arr,sd.arr⟩ ⟨pres.arr,flows.arr⟩ roads.l roads.l.length rl∧k'≤x.l.length∧
        B ++ (cblk c x k' :: ⟨ab,[pv,roads.val,fans.val,doors.val],32⟩ :: ((⟨roads.o,rl⟩:OwL XRoad).L 75 XRoad.cells ++ []))=L''∧R=R'):=by
  have h := J3m c ab x k n pv ⟨mine, fans.arr, doors.arr⟩ ⟨sf.arr, sd.arr⟩ ⟨pres.arr, flows.arr⟩ roads ([fsl fans.arr, dsl doors.arr, isl sf.arr, isl sd.arr, isl pres.arr, isl flows.arr] ++ R) (hx.mono fun r h => Jab (by simp [h])) hk hok
    (Jab (by simp)) (Jab (by simp)) ⟨Jab (by simp),Jab (by simp)⟩ ⟨Jab (by simp),Jab (by simp)⟩ hF hD hq hlen hqb hpb hr
  have h2:=Tri.lend (S:=[fsl fans.arr,dsl doors.arr,isl sf.arr,isl sd.arr,isl pres.arr,isl flows.arr]) (Post:=fun v L'=>∃(rl:List XRoad) (k':Nat),v=.tuple #[]∧FitI ⟨mine,fans.arr,doors.arr⟩ ⟨sf.arr,sd.arr⟩ ⟨pres.arr,flows.arr⟩ roads.l roads.l.length rl∧k'≤x.l.length∧
        (cblk c x k' :: ⟨ab,[pv,roads.val,fans.val,doors.val],32⟩ :: ((⟨roads.o,rl⟩:OwL XRoad).L 75 XRoad.cells ++ []))=L') hsp (fun w G hh s hs=>?_)
    ((Tri.permL J6q h).mono fun v L' R' ⟨rl,k',a1,a2,a3,a4,a5⟩=>⟨⟨rl,k',a1,a2,a3,a4⟩,a5⟩)
  · exact h2.mono fun v L'' R' ⟨L',e,⟨rl,k',a1,a2,a3,a4⟩,a5⟩=>⟨rl,k',a1,a2,a3,by rw [← a4] at e;exact e,a5⟩
  · simp only [List.mem_cons, List.not_mem_nil, or_false] at hs
    rcases hs with rfl | rfl | rfl | rfl | rfl | rfl
    · exact Jdr hh b1 o1 (fun _=>rfl) (by decide) (fun s hs=>by obtain ⟨y,hy,rfl⟩:=List.mem_map.1 hs;exact r1 y hy)
    · exact Jdr hh b2 o2 (fun _=>rfl) (by decide) (fun s hs=>by obtain ⟨y,hy,rfl⟩:=List.mem_map.1 hs;exact r2 y hy)
    · exact Jdr hh b3 o3 (fun _=>rfl) (by decide) (fun s hs=>by cases hs)
    · exact Jdr hh b4 o4 (fun _=>rfl) (by decide) (fun s hs=>by cases hs)
    · exact Jdr hh b5 o5 (fun _=>rfl) (by decide) (fun s hs=>by cases hs)
    · exact Jdr hh b6 o6 (fun _=>rfl) (by decide) (fun s hs=>by cases hs)
theorem Jtm {A B : List Blk} {c : Nat} {x : Arr Int} {k : Nat} {a : XAir} {sf sd : OwL Int} {R : List Sl} (hsp : Spl A B [cblk c x k]) (b3 : InB (sf.L 3 Jad) B) (b4 : InB (sd.L 3 Jad) B) (o3 : sf.ok 1 Jad) (o4 : sd.ok 1 Jad)
    (hx:CodesR x R) (hk:k≤x.l.length) (h1:sf.l.length≤100) (h2:sd.l.length≤100):
    Tri Try.prog 28 [.pointer (some ⟨c, 0, none⟩), a.val, .agg #[sf.val, sd.val]].toArray A R
      (fun v L'' R'=>∃(tf td:OwL Int) (k':Nat),v=.agg #[tf.val,td.val]∧(tf.ok 1 Jad∧td.ok 1 Jad)∧Jqa sf.l tf.l∧Jqa sd.l td.l∧k'≤x.l.length∧B ++ (cblk c x k' :: (tf.L 3 Jad ++ (td.L 3 Jad ++ [])))=L''∧R=R'):=by
  have h:=Jxb c x k a ⟨sf.arr,sd.arr⟩ ([isl sf.arr,isl sd.arr] ++ R) (hx.mono fun r h=>Jab (by simp [h])) hk ⟨Jab (by simp),Jab (by simp)⟩ h1 h2
  have h2 := Tri.lend (S := [isl sf.arr, isl sd.arr]) (Post := fun v L' => ∃ (tf td : OwL Int) (k' : Nat), v = .agg #[tf.val, td.val] ∧ (tf.ok 1 Jad ∧ td.ok 1 Jad) ∧ Jqa sf.l tf.l ∧ Jqa sd.l td.l ∧ k' ≤ x.l.length ∧ cblk c x k' :: (tf.L 3 Jad ++ (td.L 3 Jad ++ [])) = L') hsp (fun w G hh s hs => ?_)
    (h.mono fun v L' R' ⟨tf,td,k',a1,a2,a3,a4,a5,a6,a7⟩=>⟨⟨tf,td,k',a1,a2,a3,a4,a5,a6⟩,a7⟩)
  · exact h2.mono fun v L'' R' ⟨L',e,⟨tf,td,k',a1,a2,a3,a4,a5,a6⟩,a7⟩=>⟨tf,td,k',a1,a2,a3,a4,a5,by rw [← a6] at e;exact e,a7⟩
  · simp only [List.mem_cons, List.not_mem_nil, or_false] at hs
    rcases hs with rfl | rfl
    · exact Jdr hh b3 o3 (fun _=>rfl) (by decide) (fun s hs=>by cases hs)
    · exact Jdr hh b4 o4 (fun _=>rfl) (by decide) (fun s hs=>by cases hs)
end Go.Proofs.Ytihompplndcdeaa
end
section
namespace Go.Proofs.Ytihompplndcdeaa
open Go.Aw Go
theorem Jcb {α β:Type} {f:α→Option β} {l:List α} (h:∀x∈l,f x=none):l.findSome? f=none:=List.findSome?_eq_none_iff.2 h
theorem Jrd {n:Nat} {r:XRoad} (h:RoadOk n r) (h1:1≤r.len∧r.len≤100000) (h2:1≤r.area∧r.area≤1000):Jc5 n r=none:=by
  have a:=h.fr
  have b:=h.to
  have c:=h.ne
  have d:=Jj4.2 h.rest
  have e:=Jj4.2 h.lift
  unfold Jc5
  rw [if_neg (by omega),if_neg (by rw [d,e];simp only [Bool.true_eq_false,or_false];omega)]
theorem Jr3 {m:XMine} (h1:m.places.l.length≤64) (h2:m.roads.l.length≤128) (h3:∀p∈m.places.l,-10000≤p.height∧p.height≤10000) (h4:∀r∈m.roads.l,Jc5 m.places.l.length r=none):Jbs m=0:=by
  rw [Jbs,if_neg (by omega),Jcb (fun p hp=>by have:=h3 p hp;unfold Jez;exact if_neg (by omega)),Jcb h4]
  rfl
theorem Jtz {f:XFan} (h:FanOk f):Jfi f=0:=by
  have a:=h.road
  have b:=h.len1
  have c:=h.len8
  rw [Jfi,if_neg (by omega),if_neg (by omega),Jcb]
  · rfl
  · intro i hi
    have hi:=List.mem_range.1 hi
    obtain ⟨p,hp⟩:=Jar hi
    have hpt:=h.ok.pt i p hp
    unfold Jc8
    rw [hp]
    dsimp only
    rw [if_neg (by omega)]
    by_cases h0:i=0
    · rw [if_pos h0]
    · rw [if_neg h0]
      obtain ⟨q,hq⟩:=Jar (l:=f.curve.l) (k:=i - 1) (by omega)
      have hst:=h.ok.st (i - 1) q p hq (by rw [show i - 1 + 1=i by omega];exact hp)
      rw [hq]
      dsimp only
      rw [if_neg (by omega)]
theorem Jp6 {l:List XDoor} (h1:l.length≤16) (h2:∀d∈l,DoorOk d∧d.other= -1):Jbm l=0:=by
  rw [Jbm,if_neg (by omega),Jcb]
  · rfl
  · intro i hi
    obtain ⟨d,hd⟩:=Jar (List.mem_range.1 hi)
    obtain ⟨a,b⟩:=h2 d (List.mem_of_getElem? hd)
    have c:=a.road
    have e:=a.len
    rw [Ji3 hd,if_neg (by omega),if_neg (by omega),Jcb (fun x hx=>?_)]
    · dsimp only
      rw [if_neg (by rw [a.falls];decide),if_neg (fun h=>h.1 b)]
    · obtain ⟨j, hj⟩ := List.mem_iff_getElem?.1 hx
      have:=a.rest j x hj
      unfold Jib
      exact if_neg (by omega)
theorem Juk {a:XAir} (h1:Jbs a.mine=0) (h2:a.fans.l.length≤8) (h3:∀f∈a.fans.l,FanOk f∧f.road < a.mine.roads.l.length) (h4:a.doors.l.length≤16) (h5:∀d∈a.doors.l,(DoorOk d∧d.other= -1)∧d.road < a.mine.roads.l.length):Jat a=0:=by
  rw [Jji h1 (by omega) (Jcb (fun f hf=>by
    have:=h3 f hf
    unfold Jsu
    rw [if_neg (by rw [Jtz this.1];decide),if_neg (by omega)])),Jp6 h4 (fun d hd=>(h5 d hd).1),if_neg (by decide),Jcb (fun d hd=>by
    have:=h5 d hd
    unfold Jlq
    exact if_neg (by omega))]
  rfl
theorem Jr1 {a:XAir} {s:XSetting} (h:FitOk a s):Jdl a s=true:=by
  have h1:=h.lf
  have h2:=h.ld
  rw [Jg6 h1 h2,Jcb (fun x hx=>?_),Jcb (fun i hi=>?_)]
  · rfl
  · have hi := List.mem_range.1 hi
    obtain ⟨y,hy⟩:=Jar hi
    obtain ⟨d,hd⟩:=Jar (l:=a.doors.l) (k:=i) (by omega)
    have:=h.door i y d hy hd
    rw [Jf5 hy hd]
    exact if_neg (by omega)
  · obtain ⟨j, hj⟩ := List.mem_iff_getElem?.1 hx
    have:=h.fan j x hj
    unfold Jgb
    exact if_neg (by omega)
theorem Jnl {a:XAir} {s:XSetting} (h:Jat a=0) (h':Jdl a s=true):Jea a s=true:=by simp [Jea,h,h']
structure PlacesD (sh:Nat) (pl:List XPlace):Prop where
  shb:1≤sh∧sh≤2
  len:sh≤pl.length∧pl.length≤sh + 4
  val:∀(i:Nat) (p:XPlace),pl[i]?=some p→(-10000≤p.height∧p.height≤10000)∧p.surface=decide (i < sh)
structure PresD (sh np:Nat) (i:Nat) (pr:List Int):Prop where
  len:pr.length=np
  val:∀(j:Nat) (p:Int),pr[j]?=some p→(-4000≤p∧p≤4000)∧(j < sh∨i≤j→p=0)
theorem PresD.next {sh np i:Nat} {pr:List Int} (h:PresD sh np i pr) (hi:sh≤i) {p:Int} (hp:-4000≤p∧p≤4000):PresD sh np (i + 1) (pr.set i p):=by
  refine ⟨by simp [h.len],fun j q hq=>?_⟩
  rw [List.getElem?_set] at hq
  split at hq
  · rename_i hij
    split at hq
    · cases hq;exact ⟨hp,fun hj=>by omega⟩
    · cases hq
  · have := h.val j q hq
    exact ⟨this.1,fun hj=>this.2 (by omega)⟩
structure RoadG (np:Nat) (r:XRoad):Prop where
  d:RoadD np r
  ne:r.fr≠r.to
  len:1≤r.len∧r.len≤400
  area:4≤r.area∧r.area≤30
structure RoadsD (np:Nat) (rl:List XRoad) (fl:List Int):Prop where
  len:fl.length=rl.length
  road:∀(i:Nat) (r:XRoad),rl[i]?=some r→RoadG np r
  flow:∀(i:Nat) (q:Int),fl[i]?=some q→-360≤q∧q≤360
  closed:∀(i:Nat) (r:XRoad) (q:Int),rl[i]?=some r→fl[i]?=some q→r.closed=true→q=0
theorem RoadsD.nil (np:Nat):RoadsD np [] []:=⟨rfl,(fun _ _ h=>by cases h),(fun _ _ h=>by cases h),(fun _ _ _ h=>by cases h)⟩
theorem RoadsD.next {np:Nat} {rl:List XRoad} {fl:List Int} (h:RoadsD np rl fl) {r:XRoad} {q:Int} (hr:RoadG np r) (hq:-360≤q∧q≤360) (hc:r.closed=true→q=0):RoadsD np (rl ++ [r]) (fl ++ [q]):=by
  have hl:=h.len
  have sn:∀{α:Type} {l:List α} {x y:α} {i:Nat},(l ++ [x])[i]?=some y→l[i]?=some y∨(i=l.length∧y=x):=by
    intro α l x y i hi
    rw [List.getElem?_append] at hi
    split at hi
    · exact .inl hi
    · rw [List.getElem?_singleton] at hi
      split at hi
      · cases hi;exact .inr ⟨by omega,rfl⟩
      · cases hi
  refine ⟨by simp [hl],fun i s hs=>?_,fun i p hp=>?_,fun i s p hs hp hcl=>?_⟩
  · rcases sn hs with hs | ⟨_, rfl⟩
    · exact h.road i s hs
    · exact hr
  · rcases sn hp with hp | ⟨_, rfl⟩
    · exact h.flow i p hp
    · exact hq
  · rcases sn hs with hs | ⟨e, rfl⟩
    · rcases sn hp with hp | ⟨e', _⟩
      · exact h.closed i s p hs hp hcl
      · have := (List.getElem?_eq_some_iff.1 hs).1
        omega
    · rcases sn hp with hp | ⟨_, rfl⟩
      · have := (List.getElem?_eq_some_iff.1 hp).1
        omega
      · exact hc hcl
def Jgw (N:List Int) (r:XRoad) (q:Int):List Int:=
  let l1:=N.set r.fr.toNat (N.getD r.fr.toNat 0 + q)
  l1.set r.to.toNat (l1.getD r.to.toNat 0 - q)
def Jpg (rl : List XRoad) (fl : List Int) (np : Nat) : Nat → List Int
  | 0=>List.replicate np 0
  | k + 1=>Jgw (Jpg rl fl np k) (rl.getD k default) (fl.getD k 0)
theorem Ju8 (a : XAir) (x : XState) : ∀ k, Jdw a x k = Jpg a.mine.roads.l x.flows.l x.pres.l.length k
  | 0=>rfl
  | k + 1=>by rw [Jdw,Ju8 a x k];rfl
theorem Jow (N:List Int) (r:XRoad) (q:Int):(Jgw N r q).length=N.length:=by simp [Jgw]
theorem Jgy (rl : List XRoad) (fl : List Int) (np : Nat) : ∀ k, (Jpg rl fl np k).length = np
  | 0=>by simp [Jpg]
  | k + 1=>by rw [Jpg,Jow,Jgy rl fl np k]
theorem Jn3 {rl m : List XRoad} {fl m' : List Int} {np : Nat} (hl : fl.length = rl.length) : ∀ k, k ≤ rl.length → Jpg (rl ++ m) (fl ++ m') np k = Jpg rl fl np k
  | 0,_=>rfl
  | k + 1,hk=>by rw [Jpg,Jpg,Jn3 hl k (by omega),Jct (by omega),Jct (by omega)]
theorem Jm1 {rl:List XRoad} {fl:List Int} {np:Nat} (hl:fl.length=rl.length) (r:XRoad) (q:Int):Jpg (rl ++ [r]) (fl ++ [q]) np (rl ++ [r]).length=Jgw (Jpg rl fl np rl.length) r q:=by
  rw [List.length_append,List.length_singleton,Jpg,Jn3 hl _ (Nat.le_refl _),Jdk rfl,Jdk hl.symm]
theorem Jpv {rl rl' : List XRoad} {fl : List Int} {np : Nat} : ∀ k, (∀ i, i < k → (rl'.getD i default).fr = (rl.getD i default).fr ∧ (rl'.getD i default).to = (rl.getD i default).to) → Jpg rl' fl np k = Jpg rl fl np k
  | 0,_=>rfl
  | k + 1,h=>by
    rw [Jpg,Jpg,Jpv k (fun i hi=>h i (by omega))]
    have:=h k (by omega)
    unfold Jgw
    rw [this.1,this.2]
theorem Jmj {l:List Int} {i j:Nat} {v:Int} (hi:i < l.length):(l.set i v).getD j 0=if i=j then v else l.getD j 0:=by
  rw [List.getD_eq_getElem?_getD,List.getD_eq_getElem?_getD,List.getElem?_set]
  by_cases h:i=j
  · subst h;simp [hi]
  · simp [h]
theorem Jjl {N:List Int} {r:XRoad} {q:Int} {np:Nat} (hN:N.length=np) (hr:RoadG np r) (v:Nat):(Jgw N r q).getD v 0=N.getD v 0 + (if r.fr=(v:Int) then q else 0) - (if r.to=(v:Int) then q else 0):=by
  have h1:=hr.d.fr
  have h2:=hr.d.to
  have h3:=hr.ne
  have hne:¬ r.fr.toNat=r.to.toNat:=by omega
  unfold Jgw
  dsimp only
  rw [Jmj (by rw [List.length_set];omega),Jmj (by omega),if_neg hne,Jmj (by omega)]
  by_cases c1:r.to.toNat=v
  · have e : r.to = (v : Int) := by omega
    rw [if_pos c1,if_pos e,if_neg (by omega),c1];omega
  · rw [if_neg c1, if_neg (show ¬ r.to = (v : Int) by omega)]
    by_cases c2:r.fr.toNat=v
    · rw [if_pos c2,if_pos (show r.fr=(v:Int) by omega),c2];omega
    · rw [if_neg c2,if_neg (show ¬ r.fr=(v:Int) by omega)];omega
structure Drawn (np:Nat) (m:Int) (rl:List XRoad) (fl:List Int) (nl:List Int):Prop where
  m:0≤m∧(rl.length:Int) + m≤5
  roads:RoadsD np rl fl
  net:nl=Jpg rl fl np rl.length
  small:∀v,-60 * (rl.length:Int)≤nl.getD v 0∧nl.getD v 0≤60 * (rl.length:Int)
theorem Drawn.len {np:Nat} {m:Int} {rl:List XRoad} {fl nl:List Int} (h:Drawn np m rl fl nl):nl.length=np:=by rw [h.net];exact Jgy _ _ _ _
theorem Drawn.zero {np:Nat} {m:Int} (hm:0≤m∧m≤5):Drawn np m [] [] (List.replicate np 0):=by
  refine ⟨by simpa using hm,RoadsD.nil np,rfl,fun v=>?_⟩
  have:(List.replicate np (0:Int)).getD v 0=0:=by
    rw [List.getD_eq_getElem?_getD,List.getElem?_replicate]
    split <;> rfl
  rw [this];simp
theorem Drawn.next {np:Nat} {m:Int} {rl:List XRoad} {fl nl:List Int} (h:Drawn np m rl fl nl) (hm:0 < m) {r:XRoad} {q:Int} (hr:RoadG np r) (hq:-60≤q∧q≤60) (hc:r.closed=true→q=0):Drawn np (m - 1) (rl ++ [r]) (fl ++ [q]) (Jgw nl r q):=by
  have hmm:=h.m
  refine ⟨by simp only [List.length_append,List.length_singleton];omega,h.roads.next hr (by omega) hc,by rw [Jm1 h.roads.len,h.net],fun v=>?_⟩
  have hv:=h.small v
  rw [Jjl h.len hr v]
  have:=hr.ne
  simp only [List.length_append,List.length_singleton]
  split <;> split <;> omega
structure Shafted (sh np i:Nat) (net0:List Int) (rl:List XRoad) (fl:List Int):Prop where
  roads:RoadsD np rl fl
  len:rl.length + sh≤5 + i
  done:∀v,sh≤v→v < i→(Jpg rl fl np rl.length).getD v 0=0
  shaft:∀v:Nat,sh≤v→v < i→∃(k:Nat) (r:XRoad),rl[k]?=some r∧r.closed=false∧((r.fr=(v:Int)∧r.to < (sh:Int))∨(r.to=(v:Int)∧r.fr < (sh:Int)))
  todo:∀v,i≤v→(Jpg rl fl np rl.length).getD v 0=net0.getD v 0
theorem Drawn.shafted {np:Nat} {m:Int} {rl:List XRoad} {fl nl:List Int} (h:Drawn np m rl fl nl) (sh:Nat):Shafted sh np sh nl rl fl:=
  ⟨h.roads,by have:=h.m;omega,fun v h1 h2=>absurd h2 (by omega),fun v h1 h2=>absurd h2 (by omega),fun v _=>by rw [← h.net]⟩
theorem Shafted.next {sh np i : Nat} {net0 : List Int} {rl : List XRoad} {fl : List Int} (h : Shafted sh np i net0 rl fl) (hi : sh ≤ i) {r : XRoad} {q : Int} (hr : RoadG np r) (hq : -360 ≤ q ∧ q ≤ 360) (hc : r.closed = false)
    (hend:(r.fr=(i:Int)∧r.to < (sh:Int)∧q= -(net0.getD i 0))∨(r.to=(i:Int)∧r.fr < (sh:Int)∧q=net0.getD i 0)):Shafted sh np (i + 1) net0 (rl ++ [r]) (fl ++ [q]):=by
  have hlen:=h.len
  refine ⟨h.roads.next hr hq (fun hcl=>by rw [hc] at hcl;cases hcl),by simp only [List.length_append,List.length_singleton];omega,fun v h1 h2=>?_,fun v h1 h2=>?_,fun v h1=>?_⟩
  rotate_left
  · rcases Nat.lt_or_eq_of_le (Nat.le_of_lt_succ h2) with h' | h'
    · obtain ⟨k, r', k1, k2⟩ := h.shaft v h1 h'
      exact ⟨k,r',by rw [List.getElem?_append_left (List.getElem?_eq_some_iff.1 k1).1];exact k1,k2⟩
    · subst h'
      exact ⟨rl.length,r,by rw [List.getElem?_append_right (Nat.le_refl _)];simp,hc,by rcases hend with h | h;exact .inl ⟨h.1,h.2.1⟩;exact .inr ⟨h.1,h.2.1⟩⟩
  rotate_left
  · rw [Jm1 h.roads.len, Jjl (Jgy _ _ _ _) hr v]
    rcases Nat.lt_or_eq_of_le (Nat.le_of_lt_succ h2) with h' | h'
    · rw [h.done v h1 h',if_neg (by omega),if_neg (by omega)];rfl
    · subst h'
      rw [h.todo v (Nat.le_refl _)]
      have:=hr.ne
      split <;> split <;> omega
  · rw [Jm1 h.roads.len,Jjl (Jgy _ _ _ _) hr v,h.todo v (by omega),if_neg (by omega),if_neg (by omega)];omega
theorem Jjf {l m:List Int} (h:Jqa l m) {k:Nat} (hk:k < l.length):m.getD k 0= -1∨m.getD k 0=l.getD k 0:=by
  have:=h.len
  have hg:=Jai (l:=m) (k:=k) 0 (by omega)
  rcases h.val k _ hg with h1 | h1
  · exact .inl h1
  · rw [Jai (l := l) 0 hk] at h1
    exact .inr (Option.some.inj h1).symm
structure MadeA (a:XAir) (t:XSetting) (x:XState):Prop where
  err:Jat a=0
  fit:Jdl a t=true
  fits:Joz a t x=0
  nplaces:1≤a.mine.places.l.length∧a.mine.places.l.length≤6
  nroads:a.mine.roads.l.length≤9
  nfans:a.fans.l.length≤2
  ndoors:a.doors.l.length≤2
  small:∀(i:Nat) (r:XRoad),a.mine.roads.l[i]?=some r→(-260000000≤r.lift.low∧r.lift.high≤260000000)∧r.rest.high≤22
  curve:∀f∈a.fans.l,MadeCurve f.curve.l
  rests:∀d∈a.doors.l,MadeDoor d.road d
  press:∀p∈x.pres.l,-4000≤p∧p≤4000
  surf0:(a.mine.places.l.getD 0 default).surface=true
  shaft:∀v:Nat,v < a.mine.places.l.length→(a.mine.places.l.getD v default).surface=false→∃k u:Nat,k < a.mine.roads.l.length∧(a.mine.places.l.getD u default).surface=true∧(a.mine.roads.l.getD k default).closed=false∧(((a.mine.roads.l.getD k default).fr=(v:Int)∧(a.mine.roads.l.getD k default).to=(u:Int))∨((a.mine.roads.l.getD k default).fr=(u:Int)∧(a.mine.roads.l.getD k default).to=(v:Int)))
theorem J08 {sh : Nat} {a : XAir} {s t : XSetting} {x : XState} {rl0 : List XRoad} {net0 : List Int} (hpl : PlacesD sh a.mine.places.l) (hpr : PresD sh a.mine.places.l.length a.mine.places.l.length x.pres.l) (hro : Shafted sh a.mine.places.l.length a.mine.places.l.length net0 rl0 x.flows.l)
    (hF:FansD rl0.length 0 a.fans.l s.fans.l) (hD:DoorsD rl0.length 0 a.doors.l s.doors.l) (hfit:FitI a s x rl0 rl0.length a.mine.roads.l) (htf:Jqa s.fans.l t.fans.l) (htd:Jqa s.doors.l t.doors.l):MadeA a t x:=by
  have hsh:=hpl.shb
  have hpn:=hpl.len
  have hln:=hfit.len
  have hrl:=hro.len
  have hqn:=hro.roads.len
  have hFm:=hF.m
  have hDm:=hD.m
  have hxp:=hpr.len
  -- a road of the air
  have road:∀(i:Nat) (r':XRoad),a.mine.roads.l[i]?=some r'→∃r,rl0[i]?=some r∧RoadG a.mine.places.l.length r∧J2y a s x i r r':=by
    intro i r' hr'
    obtain ⟨hi,_⟩:=List.getElem?_eq_some_iff.1 hr'
    obtain ⟨r,hr⟩:=Jar (l:=rl0) (k:=i) (by omega)
    obtain ⟨r2,h2,h3⟩:=hfit.done i r (by omega) hr
    rw [hr'] at h2;cases h2
    exact ⟨r,hr,hro.roads.road i r hr,h3⟩
  have presb:∀i:Nat,-4000≤x.pres.l.getD i 0∧x.pres.l.getD i 0≤4000:=fun i=>by
    rcases Nat.lt_or_ge i x.pres.l.length with h | h
    · exact (hpr.val i _ (Jai 0 h)).1
    · rw [List.getD_eq_getElem?_getD,List.getElem?_eq_none h];simp
  have flowb:∀i:Nat,-360≤x.flows.l.getD i 0∧x.flows.l.getD i 0≤360:=fun i=>by
    rcases Nat.lt_or_ge i x.flows.l.length with h | h
    · exact hro.roads.flow i _ (Jai 0 h)
    · rw [List.getD_eq_getElem?_getD,List.getElem?_eq_none h];simp
  have ok:∀(i:Nat) (r':XRoad),a.mine.roads.l[i]?=some r'→RoadOk a.mine.places.l.length r'∧(1≤r'.len∧r'.len≤100000)∧(1≤r'.area∧r'.area≤1000)∧(-260000000≤r'.lift.low∧r'.lift.high≤260000000)∧r'.rest.high≤22:=by
    intro i r' hr'
    obtain ⟨r,hr,hg,e,u,v,he,hu,hv,heq⟩:=road i r' hr'
    have h1:=hg.d.rest
    have h2:=hg.len
    have h3:=hg.area
    have b1:=Jg8 hD i a.doors.l.length (Nat.le_refl _)
    have b2:=Jg9 hF i (x.flows.l.getD i 0) a.fans.l.length (Nat.le_refl _)
    have b3:=Jnm (R:=r.rest.low + e + Jnt a.doors.l s.doors.l i a.doors.l.length) (q:=x.flows.l.getD i 0) (by omega) (flowb i)
    have b4:=presb r.fr.toNat
    have b5:=presb r.to.toNat
    rw [heq]
    refine ⟨⟨hg.d.fr,hg.d.to,hg.ne,⟨h1.1,h1.2.1,by dsimp only;omega⟩,?_⟩,⟨h2.1,by dsimp only;omega⟩,⟨by dsimp only;omega,by dsimp only;omega⟩,?_,h1.2.2⟩
    · unfold Jlx Jkj
      dsimp only
      omega
    · unfold Jlx Jkj
      dsimp only
      omega
  have hme:Jbs a.mine=0:=Jr3 (by omega) (by omega) (fun p hp=>by
    obtain ⟨i,hi⟩:=List.mem_iff_getElem?.1 hp
    exact (hpl.val i p hi).1) (fun r hr=>by
    obtain ⟨i,hi⟩:=List.mem_iff_getElem?.1 hr
    obtain ⟨h1,h2,h3,_,_⟩:=ok i r hi
    exact Jrd h1 h2 h3)
  have hae:Jat a=0:=Juk hme (by omega) (fun f hf=>⟨(hF.fan f hf).ok,by have:=(hF.fan f hf).road;omega⟩) (by omega) (fun d hd=>⟨⟨(hD.door d hd).ok,(hD.door d hd).made.other⟩,by have:=(hD.door d hd).road;omega⟩)
  have hFl:=hF.len
  have hDl:=hD.len
  have ht1:=htf.len
  have ht2:=htd.len
  have less:SetLess a s t:=by
    refine ⟨fun k hk=>?_,fun k hk=>?_⟩
    · have h1 := hF.st _ (List.mem_of_getElem? (Jai (l := s.fans.l) (k := k) 0 (by omega)))
      rcases Jjf htf (k:=k) (by omega) with h | h
      · exact .inr ⟨h,by omega,by omega⟩
      · exact .inl h
    · have h1 := hD.st k _ _ (Jai (l := a.doors.l) (k := k) default hk) (Jai (l := s.doors.l) (k := k) 0 (by omega))
      rcases Jjf htd (k:=k) (by omega) with h | h
      · exact .inr ⟨h,by omega,by omega⟩
      · exact .inl h
  have hfb:Jdl a t=true:=Jr1 ⟨by omega,by omega,fun i y hy=>by
    obtain ⟨hi,_⟩:=List.getElem?_eq_some_iff.1 hy
    have h1:=hF.st _ (List.mem_of_getElem? (Jai (l:=s.fans.l) (k:=i) 0 (by omega)))
    rcases htf.val i y hy with h | h
    · omega
    · rw [Jai (l := s.fans.l) 0 (show i < s.fans.l.length by omega)] at h
      rw [← Option.some.inj h];omega,fun i y d hy hd=>by
    obtain ⟨hi,_⟩:=List.getElem?_eq_some_iff.1 hy
    have h1:=hD.st i d _ hd (Jai (l:=s.doors.l) (k:=i) 0 (by omega))
    have h2:=(hD.door d (List.mem_of_getElem? hd)).made.len
    rcases htd.val i y hy with h | h
    · omega
    · rw [Jai (l := s.doors.l) 0 (show i < s.doors.l.length by omega)] at h
      rw [← Option.some.inj h];omega⟩
  have hnet:Jdw a x x.flows.l.length=Jpg rl0 x.flows.l a.mine.places.l.length rl0.length:=by
    rw [Ju8,hxp,hqn]
    refine Jpv _ (fun i hi=>?_)
    obtain ⟨r,hr,_,e,u,v,_,_,_,heq⟩:=road i _ (Jai (l:=a.mine.roads.l) (k:=i) default (by omega))
    rw [getD_some hr,heq]
    exact ⟨rfl,rfl⟩
  refine ⟨hae,hfb,?_,by omega,by omega,by omega,by omega,fun i r hr=>(ok i r hr).2.2.2,fun f hf=>(hF.fan f hf).curve,fun d hd=>(hD.door d hd).made,fun p hp=>by obtain ⟨i,hi⟩:=List.mem_iff_getElem?.1 hp;exact (hpr.val i p hi).1,?_,fun v hv hs=>?_⟩
  rotate_left
  · have hg := Jai (l := a.mine.places.l) (k := 0) default (by omega)
    rw [(hpl.val 0 _ hg).2]
    exact decide_eq_true (by omega)
  · have hg := Jai (l := a.mine.places.l) (k := v) default hv
    have hsv:=(hpl.val v _ hg).2
    rw [hs] at hsv
    obtain ⟨k,r,k1,k2,k3⟩:=hro.shaft v (by have:=of_decide_eq_false hsv.symm;omega) hv
    have hkl:=(List.getElem?_eq_some_iff.1 k1).1
    obtain ⟨r2,h2,_,e,u,w,_,_,_,heq⟩:=road k _ (Jai (l:=a.mine.roads.l) (k:=k) default (by omega))
    rw [k1] at h2
    cases h2
    have hrg:=(hro.roads.road k r k1).d
    have hrf:=hrg.fr
    have hrt:=hrg.to
    have surf:∀u:Nat,u < sh→(a.mine.places.l.getD u default).surface=true:=fun u hu=>by
      rw [(hpl.val u _ (Jai default (by omega))).2];exact decide_eq_true hu
    rcases k3 with ⟨e1,e2⟩ | ⟨e1,e2⟩
    · exact ⟨k,r.to.toNat,by omega,surf _ (by omega),by rw [heq];exact k2,.inl ⟨by rw [heq];exact e1,by rw [heq];show r.to=_;omega⟩⟩
    · exact ⟨k,r.fr.toNat,by omega,surf _ (by omega),by rw [heq];exact k2,.inr ⟨by rw [heq];show r.fr=_;omega,by rw [heq];exact e1⟩⟩
  refine Jwz hae hfb (by omega) (Jcb (fun p hp=>?_)) (Jcb (fun q hq=>?_)) (fun i hi=>?_) (fun v hv=>?_)
  · obtain ⟨j, hj⟩ := List.mem_iff_getElem?.1 hp
    have:=(hpr.val j p hj).1
    exact if_neg (by omega)
  · obtain ⟨j, hj⟩ := List.mem_iff_getElem?.1 hq
    have:=hro.roads.flow j q hj
    exact if_neg (by omega)
  · have hg := Jai (l := a.mine.roads.l) (k := i) default (by omega)
    obtain ⟨r,hr,hgr,hft⟩:=road i _ hg
    have hin:=Jsa hF hD (hgr.d.rest.2.1) hft
    have hls:=Juj less (i:Int) (x.flows.l.getD i 0)
    have hcl:=hro.roads.closed i r _ hr (Jai (l:=x.flows.l) (k:=i) 0 (by omega))
    have e1:(a.mine.roads.l.getD i default).fr=r.fr∧(a.mine.roads.l.getD i default).to=r.to∧(a.mine.roads.l.getD i default).closed=r.closed:=by
      obtain ⟨e,u,v,_,_,_,heq⟩:=hft
      rw [heq];exact ⟨rfl,rfl,rfl⟩
    unfold Jdc
    dsimp only
    rw [e1.1,e1.2.1,e1.2.2]
    refine if_neg ?_
    have h1:=hls.1
    have h2:=hls.2
    dsimp only [Jkj] at hin
    rintro (⟨h3,h4⟩ | ⟨_,h4⟩)
    · exact h4 (hcl h3)
    · omega
  · rw [hxp] at hv
    obtain ⟨p,hp⟩:=Jar (l:=a.mine.places.l) (k:=v) hv
    have h1:=(hpl.val v p hp).2
    have h2:=hpr.val v _ (Jai (l:=x.pres.l) (k:=v) 0 (by omega))
    unfold Jcu
    rw [hnet,getD_some hp,h1]
    refine if_neg ?_
    rintro (⟨h3,h4⟩ | ⟨h3,h4⟩)
    · exact h4 (h2.2 (.inl (by simpa using h3)))
    · exact h4 (hro.done v (by simpa using h3) (by omega))
end Go.Proofs.Ytihompplndcdeaa
end
section
namespace Go.Proofs.Ytihompplndcdeaa
open Go.Aw Go
set_option maxRecDepth 20000
attribute [local irreducible] CJ LJ DJ Tri YV Gives Jdn Jaw Jbk Jdo RV Jay OwL.L
structure MadeO where
  places:OwL XPlace
  roads:OwL XRoad
  fans:OwL XFan
  doors:OwL XDoor
  tf:OwL Int
  td:OwL Int
  pres:OwL Int
  flows:OwL Int
abbrev MadeO.a (m:MadeO):XAir:=⟨⟨m.places.arr,m.roads.arr⟩,m.fans.arr,m.doors.arr⟩
abbrev MadeO.t (m:MadeO):XSetting:=⟨m.tf.arr,m.td.arr⟩
abbrev MadeO.x (m:MadeO):XState:=⟨m.pres.arr,m.flows.arr⟩
abbrev MadeO.L (m:MadeO) (cb:Blk):List Blk:=
  m.pres.L 3 Jad ++ (m.places.L 70 XPlace.cells ++ (m.flows.L 3 Jad ++ (m.fans.L 105 XFan.cells ++ (m.doors.L 82 XDoor.cells ++ (m.roads.L 75 XRoad.cells ++ (cb :: (m.tf.L 3 Jad ++ (m.td.L 3 Jad ++ []))))))))
structure MadeO.Ok (m:MadeO):Prop where
  places:m.places.ok 2 XPlace.cells
  roads:m.roads.ok 10 XRoad.cells
  fans:m.fans.ok 4 XFan.cells
  doors:m.doors.ok 3 XDoor.cells
  tf:m.tf.ok 1 Jad
  td:m.td.ok 1 Jad
  pres:m.pres.ok 1 Jad
  flows:m.flows.ok 1 Jad
theorem PlacesD.snoc {sh:Nat} {pl:List XPlace} (h:PlacesD sh pl) (hl:pl.length < sh + 4) {z:Int} (hz:0≤z∧z≤99):PlacesD sh (pl ++ [⟨-z,false⟩]):=by
  have:=h.len
  refine ⟨h.shb,by simp only [List.length_append,List.length_singleton];omega,fun i p hp=>?_⟩
  rw [List.getElem?_append] at hp
  split at hp
  · exact h.val i p hp
  · rw [List.getElem?_singleton] at hp
    split at hp
    · cases hp
      refine ⟨by dsimp only;omega,?_⟩
      dsimp only
      symm
      rw [decide_eq_false_iff_not]
      omega
    · cases hp
theorem Jzk {n f j:Int} (hf:0≤f∧f < n) (hj:0≤j∧j < n - 1):0≤(f + 1 + j).tmod n∧(f + 1 + j).tmod n < n∧f≠(f + 1 + j).tmod n:=by
  rw [Int.tmod_eq_emod_of_nonneg (by omega)]
  have h1:=Int.emod_nonneg (f + 1 + j) (show n≠0 by omega)
  have h2:=Int.emod_lt_of_pos (f + 1 + j) (show 0 < n by omega)
  refine ⟨h1,h2,?_⟩
  rcases Int.lt_or_le (f + 1 + j) n with h | h
  · rw [Int.emod_eq_of_lt (by omega) h];omega
  · have:(f + 1 + j) % n=f + 1 + j - n:=by
      have e:f + 1 + j=(f + 1 + j - n) + n:=by omega
      rw [e,Int.add_emod_right,Int.emod_eq_of_lt (by omega) (by omega)]
      omega
    omega
theorem J1f (c:Nat) (x:Arr Int) (k:Nat) (R:List Sl) (hx:CodesR x R) (hk:k≤x.l.length):
    Tri Try.prog 7 [.pointer (some ⟨c, 0, none⟩)].toArray [cblk c x k] R
      (fun v L' R'=>∃(m:MadeO) (k':Nat) (S:List Sl),v=.tuple #[m.a.val,m.t.val,m.x.val]∧m.Ok∧MadeA m.a m.t m.x∧(∀f∈m.fans.l,InR f.sl S)∧(∀d∈m.doors.l,InR d.sl S)∧k'≤x.l.length∧m.L (cblk c x k')=L'∧S ++ R=R'):=by
  refine Jae 189 Try.call7 Try.func7 rfl rfl rfl ?_
  refine qae ?_
  refine qaq ?_
  intro b2
  refine qaq ?_
  intro b3
  refine qaq ?_
  intro b4
  refine qam ?_
  refine Jax (Jbo (qs:=[(1,(Value.bool _).cells.toList)]) (out:=[_,_]) tb rfl rfl rfl rfl) rfl ?_
  refine J2z ?_
  rintro v L' R' ⟨b21,rfl,rfl,hR21⟩
  replace hR21:=hR21.symm;subst hR21
  refine J3t ?_
  refine Jax (Jbo (qs:=[(0,(Value.agg _).cells.toList)]) (out:=[_,_,_,_]) tb rfl rfl rfl rfl) rfl ?_
  refine qaq ?_
  intro b5
  refine qak ?_
  refine qco ?_
  refine J2v (List.perm_append_comm (l₁:=[_,_,_,_,_]) (l₂:=[_])) ?_
  refine Jlf (congrArg (List.cons _) (congrArg (List.cons _) (Jmi (f:=XPlace.cells) (n:=1) [⟨0,true⟩] rfl _))) ?_
  refine qay ?_
  refine qa6 ?_
  refine Jaq rfl (J25 (by repeat (first | apply USeg.here | apply USeg.cons | apply USeg.app)) hx hk (by omega)) rfl ?_
  rintro v L' R' ⟨r1,k1,rfl,hk1,rfl,rfl⟩
  refine qaf ?_
  refine Jfq [26,27,28,29,30,31,32,33] ((⟨fun g=>[],fun g=>cblk c x k1 :: ⟨b5,[g.1.1.val,.slice none 0 0,.slice none 0 0,.slice none 0 0],32⟩ :: (g.1.1.L 70 XPlace.cells ++ (⟨b4,[.slice none 0 0,.slice none 0 0],37⟩ :: ⟨b3,[.slice none 0 0,.slice none 0 0],35⟩ :: ⟨b2,[.slice none 0 0,.slice none 0 0,.slice none 0 0,.slice none 0 0],32⟩ :: [])),fun _=>R,fun _=>0⟩:Head {g:OwL XPlace×Unit // g.1.ok 2 XPlace.cells∧g.1.l.length≤2∧PlacesD g.1.l.length g.1.l})) ?_ ?_
  ·
   skip
   refine q_c (fun hc0=>?_) (fun hc0=>?_)
   ·
    refine qay ?_
    refine qab ?_
    refine Xaa ?_
    refine Jax (Jbo (qs:=[(1,(Value.bool _).cells.toList),(0,(Value.int _ _).cells.toList)]) (out:=[_,_]) tb rfl rfl rfl rfl) rfl ?_
    refine J2z ?_
    rintro v L' R' ⟨b30,rfl,rfl,hR30⟩
    replace hR30:=hR30.symm;subst hR30
    refine Jh0 (Jam (f:=XPlace.cells) (p:=⟨.own b21 1 [],[⟨0,true⟩]⟩) (a:=⟨10,true⟩) tb rfl rfl rfl rfl (Jkg (fun _=>rfl) rfl (by decide)) (by repeat (first | apply OSeg.cons | exact OSeg.here | exact OSeg.last | exact OSeg.at (by assumption) | apply OSeg.app)) (Ja1 (by repeat (first | exact zi0 | apply zi1 | apply zi2)) rfl rfl) rfl (by first | omega | (simp only [List.length_cons,List.length_nil,List.length_append];omega))) rfl ?_
    rintro v L' R' ⟨o31,rfl,hok31,rfl,rfl⟩
    refine qab ?_
    refine qab ?_
    refine qcy ?_
    refine qav ?_
    exact q_j ⟨(⟨o31,_⟩,()),hok31,by simp,⟨by simp,by simp,fun i p hp=>by (cases i with | zero=>cases hp;exact ⟨by decide,rfl⟩ | succ i=>(cases i with | zero=>cases hp;exact ⟨by decide,rfl⟩ | succ i=>cases hp))⟩⟩
   refine Ja4 ?_
   exact q_j ⟨(⟨.own b21 1 [],[⟨0,true⟩]⟩,()),Jkg (fun _=>rfl) rfl (by decide),by simp,⟨by simp,by simp,fun i p hp=>by (cases i with | zero=>cases hp;exact ⟨by decide,rfl⟩ | succ i=>cases hp)⟩⟩
  rintro ⟨⟨pl0,_⟩,hok0,hl0,hP0⟩ junk
  try dsimp only
  dsimp only at hok0 hl0 hP0
  refine qae ?_
  refine Xa7 ?_
  refine Xaw ?_
  refine qa6 ?_
  refine J6l ?_
  rintro v L' R' ⟨r2,k2,rfl,g2,g2',g2'',hk2,rfl,rfl⟩
  refine Xav ?_
  refine Jag [(0,Value.pointer _),(2,Value.pointer _),(3,Value.pointer _),(4,Value.pointer _),(5,Value.pointer _),(6,Value.int _ _),(7,Value.int _ _)] (by repeat' (first | exact trivial | refine And.intro rfl ?_)) fun tq0=>?_
  have g2q:=g2' (by omega)
  refine q_p [7,40,41,42,43,44,45,46,47,48,49,50,51,52,53,54] ((⟨fun g=>[(7,.int .i64 g.1.2.1)],fun g=>cblk c x g.1.1 :: ⟨b5,[g.1.2.2.val,.slice none 0 0,.slice none 0 0,.slice none 0 0],32⟩ :: (g.1.2.2.L 70 XPlace.cells ++ (⟨b4,[.slice none 0 0,.slice none 0 0],37⟩ :: ⟨b3,[.slice none 0 0,.slice none 0 0],35⟩ :: ⟨b2,[.slice none 0 0,.slice none 0 0,.slice none 0 0,.slice none 0 0],32⟩ ::  [])),fun _=>R,fun g=>g.1.2.1.toNat⟩:Head {g:Nat×Int×OwL XPlace // g.1≤x.l.length∧g.2.2.ok 2 XPlace.cells∧PlacesD pl0.l.length g.2.2.l∧0≤g.2.1∧(g.2.2.l.length:Int) + g.2.1≤(pl0.l.length:Int) + 4})) (⟨(k2,r2,pl0),hk2,hok0,hP0,g2,by dsimp only;omega⟩) ?_
  rintro ⟨⟨kk,m,pl⟩,hkk,hok,hP,hm0,hm1⟩ junk
  try dsimp only
  dsimp only at hkk hok hP hm0 hm1
  refine Jan (Jan ?_)
  have g2q:=g2' (by omega)
  refine Xbs ?_
  refine Xbx ?_
  refine q_c (fun hc1=>?_) (fun hc1=>?_)
  ·
   refine Ja4 (Jaa (Jan (Ja9 ?_)))
   refine Jaz tb [] [0,1,2,3,4,5,6,7] [8,9,10,11] ([Blk.mk b5 _ _]) _ Jbh (by kernel_rfl) (by repeat (first | exact zs0 _ | exact zs1 _ | apply zs2 | apply zs3 | apply zs4 | apply zs5)) (List.nil_sublist _) ?_
   refine Xcn ?_
   refine qb3 ?_
   refine J46 ?_
   rintro v L' R' ⟨r3,k3,rfl,g3,g3',g3'',hk3,rfl,rfl⟩
   refine qas ?_
   have g3q:=g3' (by omega)
   refine Jb1 (Jkq rfl (by omega) (by omega)) rfl rfl rfl rfl ?_
   refine Jb1 (Jbo (qs:=[(0,(Value.int _ _).cells.toList)]) (out:=[_,_]) tb rfl rfl rfl rfl) rfl rfl rfl rfl ?_
   refine J4z ?_
   rintro v L' R' ⟨b51,rfl,rfl,hR51⟩
   replace hR51:=hR51.symm;subst hR51
   refine Xbz ?_
   refine Jmx (Jam (f:=XPlace.cells) (p:=pl) (a:=⟨-r3,false⟩) tb rfl rfl rfl rfl (hok) (by repeat (first | apply OSeg.cons | exact OSeg.here | exact OSeg.last | exact OSeg.at (by assumption) | apply OSeg.app)) (Ja1 (by repeat (first | exact zi0 | apply zi1 | apply zi2)) rfl rfl) rfl (by first | omega | (simp only [List.length_cons,List.length_nil,List.length_append];omega))) rfl rfl rfl ?_
   rintro v L' R' ⟨o52,rfl,hok52,rfl,rfl⟩
   refine qa1 ?_
   refine qal ?_
   refine Xb0 ?_
   refine qby ?_
   refine Xcb ?_
   refine Xak ?_
   exact q_k ⟨(k3,m - 1,⟨o52,_⟩),hk3,hok52,hP.snoc (by omega) (by omega),by dsimp only;omega,by dsimp only;simp only [List.length_append,List.length_singleton];omega⟩
  refine qc3 ?_
  have hsb:=hP.shb
  have hnp:=hP.len
  refine qay ?_
  refine Xa7 ?_
  refine Xax ?_
  refine qc7 ?_
  rintro v L' R' ⟨b60,rfl,rfl,hR60⟩
  replace hR60:=hR60.symm;subst hR60
  refine J3t ?_
  refine qaq ?_
  intro b9
  refine Xbk ?_
  refine qaa ?_
  refine Xav ?_
  refine Jag [(0,Value.pointer _),(2,Value.pointer _),(3,Value.pointer _),(4,Value.pointer _),(5,Value.pointer _),(6,Value.int _ _),(8,Value.int _ _),(9,Value.pointer _),(10,Value.int _ _)] (by repeat' (first | exact trivial | refine And.intro rfl ?_)) fun tq1=>?_
  refine Jlf (congrArg (List.cons _) (Jgh (f:=Jad) (x:=(0:Int)) rfl _)) ?_
  refine Jcc [10,63,64,65,66,67,68,69,70,71,72,73] ((⟨fun g=>[(10,.int .i64 ((g.1.2.1:Nat):Int))],fun g=>⟨b9,[(⟨.own b60 pl.l.length [],g.1.2.2⟩:OwL Int).val,.slice none 0 0],37⟩ :: ((⟨.own b60 pl.l.length [],g.1.2.2⟩:OwL Int).L 3 Jad ++ (cblk c x g.1.1 :: ⟨b5,[pl.val,.slice none 0 0,.slice none 0 0,.slice none 0 0],32⟩ :: (pl.L 70 XPlace.cells ++ (⟨b4,[.slice none 0 0,.slice none 0 0],37⟩ :: ⟨b3,[.slice none 0 0,.slice none 0 0],35⟩ :: ⟨b2,[.slice none 0 0,.slice none 0 0,.slice none 0 0,.slice none 0 0],32⟩ ::  [])))),fun _=>R,fun g=>pl.l.length - g.1.2.1⟩:Head {g:Nat×Nat×List Int // g.1≤x.l.length∧(pl0.l.length≤g.2.1∧g.2.1≤pl.l.length)∧(⟨.own b60 pl.l.length [],g.2.2⟩:OwL Int).ok 1 Jad∧PresD pl0.l.length pl.l.length g.2.1 g.2.2})) (⟨(kk,pl0.l.length,List.replicate pl.l.length 0),hkk,⟨Nat.le_refl _,by dsimp only;omega⟩,Jfa (fun _=>rfl) (by simp only [maxLen];omega),⟨by simp,fun j p hp=>by rw [List.getElem?_replicate] at hp;split at hp;cases hp;exact ⟨by omega,fun _=>rfl⟩;cases hp⟩⟩) (by repeat' (first | exact trivial | refine And.intro rfl ?_)) (by dsimp only;rw [Jyr];exact List.Sublist.refl _) (Jac _) ?_
  rintro ⟨⟨kk2,i,pr⟩,hkk2,⟨hi1,hi2⟩,hokp,hPr⟩ junk
  try dsimp only
  dsimp only at hkk2 hi1 hi2 hokp hPr
  refine Xap ?_
  refine qaa ?_
  refine Xan ?_
  refine q_c (fun hc2=>?_) (fun hc2=>?_)
  ·
   have hprl:=hPr.len
   have hpri:=Jai (l:=pr) (k:=i) 0 (by omega)
   refine Ja4 (Jaa (Jan (Ja9 ?_)))
   refine Jaz tb [] [0,1,2,3,4,5] [6] ([Blk.mk b9 _ _]) _ Jbh (by kernel_rfl) (by repeat (first | exact zs0 _ | exact zs1 _ | apply zs2 | apply zs3 | apply zs4 | apply zs5)) (by (repeat (first | apply List.Sublist.cons (a:=Blk.mk b69 _ _) | apply List.Sublist.cons_cons));exact List.Sublist.refl _) ?_
   refine Xba ?_
   refine qb3 ?_
   refine Jbt rfl (Jlt (by repeat (first | apply USeg.here | apply USeg.cons | apply USeg.app)) hx hkk2 (by omega)) rfl rfl ?_
   rintro v L' R' ⟨r4,k4,rfl,g4,g4',hk4,rfl,rfl⟩
   refine qas ?_
   refine Jb1 (Jao tb ((⟨.own b60 pl.l.length [],pr⟩:OwL Int)) _ rfl rfl rfl rfl (by assumption) (i:=i) (by first | rfl | omega | (simp;omega)) (by first | omega | (dsimp only;omega) | (dsimp only;rw [List.length_set];omega) | (dsimp only;simp only [List.length_set];omega))) rfl rfl rfl rfl ?_
   refine qba ?_
   refine Jqb (Jav tb ((⟨.own b60 pl.l.length [],pr⟩:OwL Int)) (r4) rfl rfl rfl rfl (by repeat (first | apply OSeg.cons | exact OSeg.here | exact OSeg.last | exact OSeg.at (by assumption) | apply OSeg.app)) (by assumption) (fun _=>rfl) (by assumption) (by decide) (by rfl) (by rfl)) rfl rfl ?_
   rintro v L' R' ⟨rfl,rfl⟩
   refine qa1 ?_
   refine Xb7 ?_
   exact Jau ⟨(k4,i + 1,pr.set i r4),hk4,⟨by dsimp only;omega,by dsimp only;omega⟩,OwL.set_ok (p:=(⟨.own b60 pl.l.length [],pr⟩:OwL Int)) (fun _=>rfl) hokp,hPr.next hi1 ⟨g4,g4'⟩⟩ (by repeat (first | exact Off.refl | apply Off.upd rfl | apply Off.havoc rfl | apply Off.updL rfl | apply Off.left rfl)) (by repeat' (first | exact trivial | refine And.intro rfl ?_)) (by dsimp only;rw [OwL.set_val];exact (by repeat (first | exact zs0 _ | exact zs1 _ | apply zs2 | apply zs3 | apply zs4 | apply zs5))) (Jac _) (by dsimp only;omega)
  obtain rfl:i=pl.l.length:=by omega
  refine qbk ?_
  refine qaa ?_
  refine qc7 ?_
  rintro v L' R' ⟨b75,rfl,rfl,hR75⟩
  replace hR75:=hR75.symm;subst hR75
  refine qc4 ?_
  refine qco ?_
  refine Jlf (Jgh (f:=Jad) (x:=(0:Int)) rfl _) ?_
  have hprl:=hPr.len
  refine Xbs ?_
  refine Xbx ?_
  refine Jfq [12,13,14,15,78,79,80,81,82,83,84,85,86,87,88,89,90,91,92,93,94,95,96,97,98,99,100,101,102,103,104,105,106,107,108,109,110,111,112,113,114,115,116,117,118,119,120,121,122,123,124,125,126,127,128,129,130,131,132,133,134,135] ((⟨fun g=>[],fun g=>(⟨.own b75 pl.l.length [],g.1.2.2.2⟩:OwL Int).L 3 Jad ++ (⟨b9,[(⟨.own b60 pl.l.length [],pr⟩:OwL Int).val,g.1.2.2.1.val],37⟩ :: ((⟨.own b60 pl.l.length [],pr⟩:OwL Int).L 3 Jad ++ (cblk c x g.1.1 :: ⟨b5,[pl.val,g.1.2.1.val,.slice none 0 0,.slice none 0 0],32⟩ :: (pl.L 70 XPlace.cells ++ (⟨b4,[.slice none 0 0,.slice none 0 0],37⟩ :: ⟨b3,[.slice none 0 0,.slice none 0 0],35⟩ :: ⟨b2,[.slice none 0 0,.slice none 0 0,.slice none 0 0,.slice none 0 0],32⟩ ::  (g.1.2.1.L 75 XRoad.cells ++ (g.1.2.2.1.L 3 Jad ++ []))))))),fun _=>R,fun _=>0⟩:Head {g:Nat×OwL XRoad×OwL Int×List Int // g.1≤x.l.length∧(g.2.1.ok 10 XRoad.cells∧g.2.2.1.ok 1 Jad∧(⟨.own b75 pl.l.length [],g.2.2.2⟩:OwL Int).ok 1 Jad)∧∃m,Drawn pl.l.length m g.2.1.l g.2.2.1.l g.2.2.2})) ?_ ?_
  ·
   skip
   refine q_c (fun hc3=>?_) (fun hc3=>?_)
   ·
    refine qae ?_
    refine qa6 ?_
    refine Jaq rfl (Jgz (by repeat (first | apply USeg.here | apply USeg.cons | apply USeg.app)) hx hkk2 (by omega)) rfl ?_
    rintro v L' R' ⟨r5,k5,rfl,g5,g5',g5'',hk5,rfl,rfl⟩
    refine Xav ?_
    refine Jcv [12,13,14,15,78,79,80,81,82,83,84,85,86,87,88,89,90,91,92,93,94,95,96,97,98,99,100,101,102,103,104,105,106,107,108,109,110,111,112,113,114,115,116,117,118,119,120,121,122,123,124,125,126,127,128,129,130,131,132,133,134,135] (by repeat (first | apply Off.upd rfl | apply Off.havoc rfl | refine Off.updL (t':=havoc _ _ _) rfl ?_ | exact Off.refl)) [(12,Value.int _ _)] (by repeat' (first | exact trivial | refine And.intro rfl ?_)) fun tq2=>?_
    have g5q:=g5' (by omega)
    refine Jcc [12,13,14,15,80,81,82,83,84,85,86,87,88,89,90,91,92,93,94,95,96,97,98,99,100,101,102,103,104,105,106,107,108,109,110,111,112,113,114,115,116,117,118,119,120,121,122,123,124,125,126,127,128,129,130,131,132,133,134,135] ((⟨fun g=>[(12,.int .i64 g.1.2.1)],fun g=>(⟨.own b75 pl.l.length [],g.1.2.2.2.2⟩:OwL Int).L 3 Jad ++ (⟨b9,[(⟨.own b60 pl.l.length [],pr⟩:OwL Int).val,g.1.2.2.2.1.val],37⟩ :: ((⟨.own b60 pl.l.length [],pr⟩:OwL Int).L 3 Jad ++ (cblk c x g.1.1 :: ⟨b5,[pl.val,g.1.2.2.1.val,.slice none 0 0,.slice none 0 0],32⟩ :: (pl.L 70 XPlace.cells ++ (⟨b4,[.slice none 0 0,.slice none 0 0],37⟩ :: ⟨b3,[.slice none 0 0,.slice none 0 0],35⟩ :: ⟨b2,[.slice none 0 0,.slice none 0 0,.slice none 0 0,.slice none 0 0],32⟩ ::  (g.1.2.2.1.L 75 XRoad.cells ++ (g.1.2.2.2.1.L 3 Jad ++ []))))))),fun _=>R,fun g=>g.1.2.1.toNat⟩:Head {g:Nat×Int×OwL XRoad×OwL Int×List Int // g.1≤x.l.length∧(g.2.2.1.ok 10 XRoad.cells∧g.2.2.2.1.ok 1 Jad∧(⟨.own b75 pl.l.length [],g.2.2.2.2⟩:OwL Int).ok 1 Jad)∧Drawn pl.l.length g.2.1 g.2.2.1.l g.2.2.2.1.l g.2.2.2.2})) (⟨(k5,r5,OwL.nil,OwL.nil,List.replicate pl.l.length 0),hk5,⟨OwL.nil_ok,OwL.nil_ok,Jfa (fun _=>rfl) (by simp only [maxLen];omega)⟩,Drawn.zero (by dsimp only;omega)⟩) (by repeat' (first | exact trivial | refine And.intro rfl ?_)) (by dsimp only;rw [Jc7,Jc7];exact List.Sublist.refl _) (Jac _) ?_
    rintro ⟨⟨kk3,mm,rl,fl,nl⟩,hkk3,⟨hokr,hokf,hokn⟩,hD⟩ junk
    try dsimp only
    dsimp only at hkk3 hokr hokf hokn hD
    refine Xap ?_
    refine Xbx ?_
    refine q_c (fun hc4=>?_) (fun hc4=>?_)
    ·
     have hDm:=hD.m
     have hDl:=hD.len
     have hDr:=hD.roads.len
     refine qbb ?_
     refine qa6 ?_
     refine qaa ?_
     refine Jaq rfl (Jgz (by repeat (first | apply USeg.here | apply USeg.cons | apply USeg.app)) hx hkk3 (by omega)) rfl ?_
     rintro v L' R' ⟨r6,k6,rfl,g6,g6',g6'',hk6,rfl,rfl⟩
     refine Xb3 ?_
     have g6q:=g6' (by omega)
     refine qay ?_
     refine qa6 ?_
     refine qaa ?_
     refine Xam ?_
     refine qa6 ?_
     refine Xcb ?_
     refine Jaq rfl (Jgz (by repeat (first | apply USeg.here | apply USeg.cons | apply USeg.app)) hx hk6 (by omega)) rfl ?_
     rintro v L' R' ⟨r7,k7,rfl,g7,g7',g7'',hk7,rfl,rfl⟩
     have g7q:=g7' (by omega)
     refine Xae ?_
     refine qda ?_
     refine Jaq rfl (J6g (by repeat (first | apply USeg.here | apply USeg.cons | apply USeg.app)) hx hk7) rfl ?_
     rintro v L' R' ⟨rd,k8,rfl,hrd,hk8,rfl,rfl⟩
     refine qaq ?_
     intro b14
     refine Xbe ?_
     refine qa6 ?_
     refine Jaq rfl (J25 (by repeat (first | apply USeg.here | apply USeg.cons | apply USeg.app)) hx hk8 (by omega)) rfl ?_
     rintro v L' R' ⟨cl,k9,rfl,hk9,rfl,rfl⟩
     refine qab ?_
     refine Jnd (v:=Value.bool _) tb rfl rfl rfl rfl (by repeat (first | apply zu0 | apply zu1 | apply zu2)) (by first | exact Jie (by omega) | rfl) (by first | exact Jh2 | rfl) (by rfl) ?_
     refine qam ?_
     refine qa6 ?_
     refine Jaq rfl (Jlt (by repeat (first | apply USeg.here | apply USeg.cons | apply USeg.app)) hx hk9 (by omega)) rfl ?_
     rintro v L' R' ⟨r8,k10,rfl,g8,g8',hk10,rfl,rfl⟩
     refine Xaw ?_
     refine Xaa ?_
     refine qaf ?_
     refine Jfq [15] ((⟨fun g=>[(15,.int .i64 g.1)],fun g=>⟨b14,XRoad.cells { rd with closed:=cl },75⟩ :: ((⟨.own b75 pl.l.length [],nl⟩:OwL Int).L 3 Jad ++ (⟨b9,[(⟨.own b60 pl.l.length [],pr⟩:OwL Int).val,fl.val],37⟩ :: ((⟨.own b60 pl.l.length [],pr⟩:OwL Int).L 3 Jad ++ (cblk c x k10 :: ⟨b5,[pl.val,rl.val,.slice none 0 0,.slice none 0 0],32⟩ :: (pl.L 70 XPlace.cells ++ (⟨b4,[.slice none 0 0,.slice none 0 0],37⟩ :: ⟨b3,[.slice none 0 0,.slice none 0 0],35⟩ :: ⟨b2,[.slice none 0 0,.slice none 0 0,.slice none 0 0,.slice none 0 0],32⟩ ::  (rl.L 75 XRoad.cells ++ (fl.L 3 Jad ++ [])))))))),fun _=>R,fun _=>0⟩:Head {q:Int // (-60≤q∧q≤60)∧(cl=true→q=0)})) ?_ ?_
     ·
      skip
      refine q_c (fun hc5=>?_) (fun hc5=>?_)
      ·
       refine qay ?_
       refine Xak ?_
       exact q_j ⟨0,by omega,fun _=>rfl⟩
      refine Ja4 ?_
      exact q_j ⟨r8,⟨g8,g8'⟩,fun h=>absurd h (by first | exact hc5 | (rw [hc5];decide))⟩
     rintro ⟨q,hq,hqc⟩ junk
     try dsimp only
     obtain ⟨rr,hrr⟩:∃rr:XRoad,rr={ rd with closed:=cl }:=⟨_,rfl⟩
     rw [← hrr]
     have hto:=Jzk (n:=(pl.l.length:Int)) ⟨g6,g6q⟩ ⟨g7,g7q⟩
     have hf1:rr.fr=r6:=by rw [hrr];exact hrd.fr
     have hf2:rr.to=(r6 + 1 + r7).tmod pl.l.length:=by rw [hrr];exact hrd.to
     have hG:RoadG pl.l.length rr:=⟨⟨by omega,by omega,by rw [hrr];exact hrd.rest⟩,by omega,by rw [hrr];exact hrd.len,by rw [hrr];exact hrd.area⟩
     have hcl:rr.closed=true→q=0:=by rw [hrr];exact hqc
     have hv1:=hD.small rr.fr.toNat
     have hg1:=Jai (l:=nl) (k:=rr.fr.toNat) 0 (by omega)
     have hg2:=Jai (l:=nl.set rr.fr.toNat (nl.getD rr.fr.toNat 0 + q)) (k:=rr.to.toNat) 0 (by rw [List.length_set];omega)
     have hv2:-360≤(nl.set rr.fr.toNat (nl.getD rr.fr.toNat 0 + q)).getD rr.to.toNat 0∧(nl.set rr.fr.toNat (nl.getD rr.fr.toNat 0 + q)).getD rr.to.toNat 0≤360:=by
       rw [Jmj (by omega)]
       have:=hD.small rr.to.toNat
       split <;> omega
     refine Jan ?_
     refine Jfq [106,107,108,109,110,111,112,113,114,115,116,117,118,119] ((⟨fun _=>[],fun g=>⟨b14,rr.cells,75⟩ :: ((⟨.own b75 pl.l.length [],nl⟩:OwL Int).L 3 Jad ++ (⟨b9,[(⟨.own b60 pl.l.length [],pr⟩:OwL Int).val,(⟨g.1.2,fl.l ++ [q]⟩:OwL Int).val],37⟩ :: ((⟨.own b60 pl.l.length [],pr⟩:OwL Int).L 3 Jad ++ (cblk c x k10 :: ⟨b5,[pl.val,(⟨g.1.1,rl.l ++ [rr]⟩:OwL XRoad).val,.slice none 0 0,.slice none 0 0],32⟩ :: (pl.L 70 XPlace.cells ++ (⟨b4,[.slice none 0 0,.slice none 0 0],37⟩ :: ⟨b3,[.slice none 0 0,.slice none 0 0],35⟩ :: ⟨b2,[.slice none 0 0,.slice none 0 0,.slice none 0 0,.slice none 0 0],32⟩ ::  ((⟨g.1.1,rl.l ++ [rr]⟩:OwL XRoad).L 75 XRoad.cells ++ ((⟨g.1.2,fl.l ++ [q]⟩:OwL Int).L 3 Jad ++ [])))))))),fun _=>R,fun _=>0⟩:Head {g:Ow×Ow // (⟨g.1,rl.l ++ [rr]⟩:OwL XRoad).ok 10 XRoad.cells∧(⟨g.2,fl.l ++ [q]⟩:OwL Int).ok 1 Jad})) ?_ ?_
     ·
      skip
      refine Jqe tb [] [0,1,2,3,6,7,8,4,5,9,10,11,12] [13,14,15] ([Blk.mk b14 _ _,Blk.mk b9 _ _,Blk.mk b5 _ _]) [] 13 Jbh (by kernel_rfl) rfl rfl (by repeat (first | exact zs0 _ | exact zs1 _ | apply zs2 | apply zs3 | apply zs4 | apply zs5)) fun hT26=>?_
      refine Jjq 0 hT26 (List.nil_sublist _) (by kernel_rfl) rfl rfl rfl rfl rfl (Jcr tb rfl rfl rfl) ?_
      refine Jjq 1 hT26 (List.nil_sublist _) (by kernel_rfl) rfl rfl rfl rfl rfl (Jcr tb rfl rfl rfl) ?_
      refine Jjq 2 hT26 (List.nil_sublist _) (by kernel_rfl) rfl rfl rfl rfl rfl (Jbl tb rfl rfl rfl (by repeat (first | exact zi0 | apply zi1 | apply zi2)) (by rfl)) ?_
      refine Jjq 3 hT26 (List.nil_sublist _) (by kernel_rfl) rfl rfl rfl rfl rfl (Jba (row:=[_,_,_,_,_,_,_,_,_,_]) tb rfl rfl rfl (by repeat (first | exact zi0 | apply zi1 | apply zi2)) (by rfl) (by rfl)) ?_
      refine Jjq 6 hT26 (List.nil_sublist _) (by kernel_rfl) rfl rfl rfl rfl rfl (Jcr tb rfl rfl rfl) ?_
      refine Jjq 7 hT26 (List.nil_sublist _) (by kernel_rfl) rfl rfl rfl rfl rfl (Jbl tb rfl rfl rfl (by repeat (first | exact zi0 | apply zi1 | apply zi2)) (by rfl)) ?_
      refine Jjq 8 hT26 (List.nil_sublist _) (by kernel_rfl) rfl rfl rfl rfl rfl (Jap (show _=Value.int _ _ from rfl)) ?_
      refine Jbb [4,9] hT26 (List.nil_sublist _) (by kernel_rfl) ?_
      refine Jc1 ?_ ?_
      ·
       skip
       refine qdn ?_
       rintro v L' R' ⟨b110,rfl,rfl,hR110⟩
       replace hR110:=hR110.symm;subst hR110
       refine qa1 ?_
       refine Jbb [5,9] hT26 (List.nil_sublist _) (by kernel_rfl) ?_
       refine Jc1 ?_ ?_
       ·
        skip
        refine J2c ?_
        rintro v L' R' ⟨o111,rfl,hok111,rfl,rfl⟩
        refine qa1 ?_
        refine Jbb [9] hT26 (List.nil_sublist _) (by kernel_rfl) ?_
        refine qca ?_
        refine qdc ?_
        rintro v L' R' ⟨b115,rfl,rfl,hR115⟩
        replace hR115:=hR115.symm;subst hR115
        refine qa1 ?_
        refine Jbb [10] hT26 (List.nil_sublist _) (by kernel_rfl) ?_
        refine qca ?_
        refine J3r ?_
        rintro v L' R' ⟨o116,rfl,hok116,rfl,rfl⟩
        refine qa1 ?_
        refine J2i ?_
        refine J2x ?_
        refine Je7 hT26 (List.nil_sublist _) (by kernel_rfl) rfl ?_
        refine qbw ?_
        refine Xb0 ?_
        refine Jb8 ?_
        exact q_j ⟨(o111,o116),hok111,hok116⟩
       refine qca ?_
       refine qdc ?_
       rintro v L' R' ⟨b115,rfl,rfl,hR115⟩
       replace hR115:=hR115.symm;subst hR115
       refine qa1 ?_
       refine Jbb [5] hT26 (List.nil_sublist _) (by kernel_rfl) ?_
       refine qca ?_
       refine J2c ?_
       rintro v L' R' ⟨o111,rfl,hok111,rfl,rfl⟩
       refine qa1 ?_
       refine Jbb [10] hT26 (List.nil_sublist _) (by kernel_rfl) ?_
       refine qca ?_
       refine J3r ?_
       rintro v L' R' ⟨o116,rfl,hok116,rfl,rfl⟩
       refine qa1 ?_
       refine J2i ?_
       refine J2x ?_
       refine Je7 hT26 (List.nil_sublist _) (by kernel_rfl) rfl ?_
       refine qbw ?_
       refine Xb0 ?_
       refine Jb8 ?_
       exact q_j ⟨(o111,o116),hok111,hok116⟩
      refine qca ?_
      refine qdc ?_
      rintro v L' R' ⟨b115,rfl,rfl,hR115⟩
      replace hR115:=hR115.symm;subst hR115
      refine qa1 ?_
      refine Jbb [4] hT26 (List.nil_sublist _) (by kernel_rfl) ?_
      refine qca ?_
      refine qdn ?_
      rintro v L' R' ⟨b110,rfl,rfl,hR110⟩
      replace hR110:=hR110.symm;subst hR110
      refine qa1 ?_
      refine Jbb [5] hT26 (List.nil_sublist _) (by kernel_rfl) ?_
      refine qca ?_
      refine J2c ?_
      rintro v L' R' ⟨o111,rfl,hok111,rfl,rfl⟩
      refine qa1 ?_
      refine Jbb [10] hT26 (List.nil_sublist _) (by kernel_rfl) ?_
      refine qca ?_
      refine J3r ?_
      rintro v L' R' ⟨o116,rfl,hok116,rfl,rfl⟩
      refine qa1 ?_
      refine J2i ?_
      refine J2x ?_
      refine Je7 hT26 (List.nil_sublist _) (by kernel_rfl) rfl ?_
      refine qbw ?_
      refine Xb0 ?_
      refine Jb8 ?_
      exact q_j ⟨(o111,o116),hok111,hok116⟩
     rintro ⟨⟨o111,o116⟩,hok111,hok116⟩ junk
     try dsimp only
     dsimp only at hok111 hok116
     refine qae ?_
     refine Xch ?_
     refine J4y ?_
     refine Jax (Jbe tb ((⟨.own b75 pl.l.length [],nl⟩:OwL Int)) rfl rfl rfl (by repeat (first | apply OSeg.cons | exact OSeg.here | exact OSeg.last | exact OSeg.at (by assumption) | apply OSeg.app)) (by assumption) (fun _=>rfl) (by assumption) (by rfl)) rfl ?_
     refine Xam ?_
     refine J4y ?_
     refine Jhw (Jav tb ((⟨.own b75 pl.l.length [],nl⟩:OwL Int)) (nl.getD rr.fr.toNat 0 + q) rfl rfl rfl rfl (by repeat (first | apply OSeg.cons | exact OSeg.here | exact OSeg.last | exact OSeg.at (by assumption) | apply OSeg.app)) (by assumption) (fun _=>rfl) (by assumption) (by decide) (by rfl) (by rfl)) ?_
     rintro v L' R' ⟨rfl,rfl⟩
     refine qaf ?_
     have hokn2:=OwL.set_ok (f:=Jad) (wd:=1) (p:=(⟨.own b75 pl.l.length [],nl⟩:OwL Int)) (i:=rr.fr.toNat) (x:=nl.getD rr.fr.toNat 0 + q) (fun _=>rfl) hokn
     refine qay ?_
     refine Xch ?_
     refine J57 ?_
     refine Jax (Jbe tb ((⟨.own b75 pl.l.length [],nl.set rr.fr.toNat (nl.getD rr.fr.toNat 0 + q)⟩:OwL Int)) rfl rfl rfl (by repeat (first | apply OSeg.cons | exact OSeg.here | exact OSeg.last | exact OSeg.at (by assumption) | apply OSeg.app)) (by assumption) (fun _=>rfl) (by assumption) (by rfl)) rfl ?_
     refine Xcb ?_
     refine J57 ?_
     refine Jhw (Jav tb ((⟨.own b75 pl.l.length [],nl.set rr.fr.toNat (nl.getD rr.fr.toNat 0 + q)⟩:OwL Int)) ((nl.set rr.fr.toNat (nl.getD rr.fr.toNat 0 + q)).getD rr.to.toNat 0 - q) rfl rfl rfl rfl (by repeat (first | apply OSeg.cons | exact OSeg.here | exact OSeg.last | exact OSeg.at (by assumption) | apply OSeg.app)) (by assumption) (fun _=>rfl) (by assumption) (by decide) (by rfl) (by rfl)) ?_
     rintro v L' R' ⟨rfl,rfl⟩
     refine qcs ?_
     refine Xcb ?_
     refine Xak ?_
     exact q_k ⟨(k10,mm - 1,⟨o111,_⟩,⟨o116,_⟩,Jgw nl rr q),hk10,⟨hok111,hok116,OwL.set_ok (p:=(⟨.own b75 pl.l.length [],nl.set rr.fr.toNat (nl.getD rr.fr.toNat 0 + q)⟩:OwL Int)) (fun _=>rfl) hokn2⟩,hD.next (by omega) hG hq hcl⟩
    refine Jcs (Jbv (Jcp (Jbf ?_)))
    exact q_j ⟨(kk3,rl,fl,nl),hkk3,⟨hokr,hokf,hokn⟩,mm,hD⟩
   refine Ja4 ?_
   exact Jiu ⟨(kk2,OwL.nil,OwL.nil,List.replicate pl.l.length 0),hkk2,⟨OwL.nil_ok,OwL.nil_ok,Jfa (fun _=>rfl) (by simp only [maxLen];omega)⟩,0,Drawn.zero (by omega)⟩ (by repeat (first | exact Off.refl | apply Off.upd rfl | apply Off.havoc rfl | apply Off.updL rfl | apply Off.left rfl)) (by repeat' (first | exact trivial | refine And.intro rfl ?_)) (by dsimp only;rw [Jc7,Jc7];exact (by repeat (first | exact zs0 _ | exact zs1 _ | apply zs2 | apply zs3 | apply zs4 | apply zs5))) (Jac _)
  rintro ⟨⟨kk4,rl,fl,nl⟩,hkk4,⟨hokr,hokf,hokn⟩,mm,hD⟩ junk
  try dsimp only
  dsimp only at hkk4 hokr hokf hokn hD
  refine Xap ?_
  refine Xav ?_
  refine Jag [(0,Value.pointer _),(2,Value.pointer _),(3,Value.pointer _),(4,Value.pointer _),(5,Value.pointer _),(6,Value.int _ _),(8,Value.int _ _),(9,Value.pointer _),(11,Value.slice _ _ _),(16,Value.int _ _)] (by repeat' (first | exact trivial | refine And.intro rfl ?_)) fun tq3=>?_
  have hDl:=hD.len
  have hDm:=hD.m
  refine q_p [16,17,18,137,138,139,140,141,142,143,144,145,146,147,148,149,150,151,152,153,154,155,156,157,158,159,160,161,162,163,164,165,166,167,168,169,170,171,172,173,174,175,176] ((⟨fun g=>[(16,.int .i64 ((g.1.2.1:Nat):Int))],fun g=>(⟨.own b75 pl.l.length [],nl⟩:OwL Int).L 3 Jad ++ (⟨b9,[(⟨.own b60 pl.l.length [],pr⟩:OwL Int).val,g.1.2.2.2.val],37⟩ :: ((⟨.own b60 pl.l.length [],pr⟩:OwL Int).L 3 Jad ++ (cblk c x g.1.1 :: ⟨b5,[pl.val,g.1.2.2.1.val,.slice none 0 0,.slice none 0 0],32⟩ :: (pl.L 70 XPlace.cells ++ (⟨b4,[.slice none 0 0,.slice none 0 0],37⟩ :: ⟨b3,[.slice none 0 0,.slice none 0 0],35⟩ :: ⟨b2,[.slice none 0 0,.slice none 0 0,.slice none 0 0,.slice none 0 0],32⟩ ::  (g.1.2.2.1.L 75 XRoad.cells ++ (g.1.2.2.2.L 3 Jad ++ []))))))),fun _=>R,fun g=>pl.l.length - g.1.2.1⟩:Head {g:Nat×Nat×OwL XRoad×OwL Int // g.1≤x.l.length∧(pl0.l.length≤g.2.1∧g.2.1≤pl.l.length)∧(g.2.2.1.ok 10 XRoad.cells∧g.2.2.2.ok 1 Jad)∧Shafted pl0.l.length pl.l.length g.2.1 nl g.2.2.1.l g.2.2.2.l})) (⟨(kk4,pl0.l.length,rl,fl),hkk4,⟨Nat.le_refl _,by dsimp only;omega⟩,⟨hokr,hokf⟩,hD.shafted _⟩) ?_
  rintro ⟨⟨kk5,j,rl,fl⟩,hkk5,⟨hj1,hj2⟩,⟨hokr2,hokf2⟩,hS⟩ junk
  try dsimp only
  dsimp only at hkk5 hj1 hj2 hokr2 hokf2 hS
  refine Xap ?_
  refine qaa ?_
  refine Xan ?_
  refine q_c (fun hc6=>?_) (fun hc6=>?_)
  ·
   have hSl:=hS.len
   have hSr:=hS.roads.len
   have hnj:=Jai (l:=nl) (k:=j) 0 (by omega)
   have hnb:=hD.small j
   refine Ja4 (Jaa (Jan (Ja9 (Jan ?_))))
   refine Ja5 tb [0,1,2,3,6,7,8,9,10,4,5,11,12,13] (((⟨.own b75 pl.l.length [],nl⟩:OwL Int).L 3 Jad ++ [])) Jbh (by kernel_rfl) (by repeat (first | exact zs0 _ | exact zs1 _ | apply zs2 | apply zs3 | apply zs4 | apply zs5)) ?_
   refine qb8 ?_
   refine qao ?_
   refine qb8 ?_
   refine qao ?_
   refine Jbx (Jap (show _=Value.slice _ _ _ from rfl)) rfl rfl rfl ?_
   refine qao ?_
   refine Jbx (Jao tb ((⟨.own b75 pl.l.length [],nl⟩:OwL Int)) _ rfl rfl ((show _=Value.slice _ _ _ from rfl).trans (Jei hDl)) rfl (by assumption) (i:=j) (by first | rfl | omega | (simp;omega)) (by first | omega | (dsimp only;omega) | (dsimp only;rw [List.length_set];omega) | (dsimp only;simp only [List.length_set];omega))) rfl rfl rfl ?_
   refine Jbx (Jbe tb ((⟨.own b75 pl.l.length [],nl⟩:OwL Int)) rfl rfl rfl (by repeat (first | apply OSeg.cons | exact OSeg.here | exact OSeg.last | exact OSeg.at (by assumption) | apply OSeg.app)) (by assumption) (fun _=>rfl) (by assumption) (by rfl)) rfl rfl rfl ?_
   refine Jbx (Jkq rfl (by omega) (by omega)) rfl rfl rfl ?_
   refine Jdx rfl (Jgz (by repeat (first | apply USeg.here | apply USeg.cons | apply USeg.app)) hx hkk5 (by omega)) rfl rfl ?_
   rintro v L' R' ⟨r9,k11,rfl,g9,g9',g9'',hk11,rfl,rfl⟩
   refine qas ?_
   have g9q:=g9' (by omega)
   refine Jdx rfl (J6g (by repeat (first | apply USeg.here | apply USeg.cons | apply USeg.app)) hx hk11) rfl rfl ?_
   rintro v L' R' ⟨rd,k12,rfl,hrd,hk12,rfl,rfl⟩
   refine qas ?_
   refine qbr ?_
   intro b17
   refine qbg ?_
   refine qcg ?_
   refine qc6 ?_
   refine qa6 ?_
   refine Jaq rfl (J25 (by repeat (first | apply USeg.here | apply USeg.cons | apply USeg.app)) hx hk12 (by omega)) rfl ?_
   rintro v L' R' ⟨b,k13,rfl,hk13,rfl,rfl⟩
   have hf1:=hrd.fr
   have hf2:=hrd.to
   have hG1:RoadG pl.l.length rd:=⟨⟨by omega,by omega,hrd.rest⟩,by omega,hrd.len,hrd.area⟩
   refine qaf ?_
   refine Jfq [18,155,156,157,158,159,160,161,162] ((⟨fun g=>[(18,.int .i64 g.1.2)],fun g=>⟨b17,g.1.1.cells,75⟩ :: ((⟨.own b75 pl.l.length [],nl⟩:OwL Int).L 3 Jad ++ (⟨b9,[(⟨.own b60 pl.l.length [],pr⟩:OwL Int).val,fl.val],37⟩ :: ((⟨.own b60 pl.l.length [],pr⟩:OwL Int).L 3 Jad ++ (cblk c x k13 :: ⟨b5,[pl.val,rl.val,.slice none 0 0,.slice none 0 0],32⟩ :: (pl.L 70 XPlace.cells ++ (⟨b4,[.slice none 0 0,.slice none 0 0],37⟩ :: ⟨b3,[.slice none 0 0,.slice none 0 0],35⟩ :: ⟨b2,[.slice none 0 0,.slice none 0 0,.slice none 0 0,.slice none 0 0],32⟩ ::  (rl.L 75 XRoad.cells ++ (fl.L 3 Jad ++ [])))))))),fun _=>R,fun _=>0⟩:Head {g:XRoad×Int // RoadG pl.l.length g.1∧(-360≤g.2∧g.2≤360)∧g.1.closed=false∧((g.1.fr=(j:Int)∧g.1.to < (pl0.l.length:Int)∧g.2= -(nl.getD j 0))∨(g.1.to=(j:Int)∧g.1.fr < (pl0.l.length:Int)∧g.2=nl.getD j 0))})) ?_ ?_
   ·
    skip
    refine q_c (fun hc7=>?_) (fun hc7=>?_)
    ·
     refine qay ?_
     refine Xaa ?_
     refine Xah ?_
     refine qcq ?_
     refine Xb1 ?_
     refine Xb1 ?_
     refine Xak ?_
     exact q_j ⟨({ rd with fr:=rd.to,to:=rd.fr },- -(nl.getD j 0)),⟨⟨hG1.d.to,hG1.d.fr,hrd.rest⟩,(fun h=>hG1.ne h.symm),hrd.len,hrd.area⟩,by dsimp only;omega,hrd.closed,.inr ⟨hf1,by dsimp only;omega,by dsimp only;omega⟩⟩
    refine Ja4 ?_
    exact q_j ⟨(rd,-(nl.getD j 0)),hG1,by dsimp only;omega,hrd.closed,.inl ⟨hf1,by dsimp only;omega,rfl⟩⟩
   rintro ⟨⟨rr,q⟩,hG,hq,hcl,hend⟩ junk
   try dsimp only
   dsimp only at hG hq hcl hend
   refine Jqe tb [] [0,1,2,3,6,7,8,4,5,9,10,11,12] [13,14,15] ([Blk.mk b17 _ _,Blk.mk b9 _ _,Blk.mk b5 _ _]) [] 13 Jbh (by kernel_rfl) rfl rfl (by repeat (first | exact zs0 _ | exact zs1 _ | apply zs2 | apply zs3 | apply zs4 | apply zs5)) fun hT35=>?_
   refine Jjq 0 hT35 (List.nil_sublist _) (by kernel_rfl) rfl rfl rfl rfl rfl (Jcr tb rfl rfl rfl) ?_
   refine Jjq 1 hT35 (List.nil_sublist _) (by kernel_rfl) rfl rfl rfl rfl rfl (Jcr tb rfl rfl rfl) ?_
   refine Jjq 2 hT35 (List.nil_sublist _) (by kernel_rfl) rfl rfl rfl rfl rfl (Jbl tb rfl rfl rfl (by repeat (first | exact zi0 | apply zi1 | apply zi2)) (by rfl)) ?_
   refine Jjq 3 hT35 (List.nil_sublist _) (by kernel_rfl) rfl rfl rfl rfl rfl (Jba (row:=[_,_,_,_,_,_,_,_,_,_]) tb rfl rfl rfl (by repeat (first | exact zi0 | apply zi1 | apply zi2)) (by rfl) (by rfl)) ?_
   refine Jjq 6 hT35 (List.nil_sublist _) (by kernel_rfl) rfl rfl rfl rfl rfl (Jcr tb rfl rfl rfl) ?_
   refine Jjq 7 hT35 (List.nil_sublist _) (by kernel_rfl) rfl rfl rfl rfl rfl (Jbl tb rfl rfl rfl (by repeat (first | exact zi0 | apply zi1 | apply zi2)) (by rfl)) ?_
   refine Jjq 8 hT35 (List.nil_sublist _) (by kernel_rfl) rfl rfl rfl rfl rfl (Jap (show _=Value.int _ _ from rfl)) ?_
   refine Jbb [4,9] hT35 (List.nil_sublist _) (by kernel_rfl) ?_
   refine Jc1 ?_ ?_
   ·
    skip
    refine qdn ?_
    rintro v L' R' ⟨b167,rfl,rfl,hR167⟩
    replace hR167:=hR167.symm;subst hR167
    refine qa1 ?_
    refine Jbb [5,9] hT35 (List.nil_sublist _) (by kernel_rfl) ?_
    refine Jc1 ?_ ?_
    ·
     skip
     refine J3g ?_
     rintro v L' R' ⟨o168,rfl,hok168,rfl,rfl⟩
     refine qa1 ?_
     refine Jbb [9] hT35 (List.nil_sublist _) (by kernel_rfl) ?_
     refine qca ?_
     refine qdc ?_
     rintro v L' R' ⟨b172,rfl,rfl,hR172⟩
     replace hR172:=hR172.symm;subst hR172
     refine qa1 ?_
     refine Jbb [10] hT35 (List.nil_sublist _) (by kernel_rfl) ?_
     refine qca ?_
     refine J2w ?_
     rintro v L' R' ⟨o173,rfl,hok173,rfl,rfl⟩
     refine qa1 ?_
     refine J2j ?_
     refine J2o ?_
     refine Je7 hT35 (List.nil_sublist _) (by kernel_rfl) rfl ?_
     refine qbw ?_
     refine Xb0 ?_
     refine Xb7 ?_
     exact q_k ⟨(k13,j + 1,⟨o168,_⟩,⟨o173,_⟩),hk13,⟨by dsimp only;omega,by dsimp only;omega⟩,⟨hok168,hok173⟩,hS.next hj1 hG hq hcl hend⟩
    refine qca ?_
    refine qdc ?_
    rintro v L' R' ⟨b172,rfl,rfl,hR172⟩
    replace hR172:=hR172.symm;subst hR172
    refine qa1 ?_
    refine Jbb [5] hT35 (List.nil_sublist _) (by kernel_rfl) ?_
    refine qca ?_
    refine J3g ?_
    rintro v L' R' ⟨o168,rfl,hok168,rfl,rfl⟩
    refine qa1 ?_
    refine Jbb [10] hT35 (List.nil_sublist _) (by kernel_rfl) ?_
    refine qca ?_
    refine J2w ?_
    rintro v L' R' ⟨o173,rfl,hok173,rfl,rfl⟩
    refine qa1 ?_
    refine J2j ?_
    refine J2o ?_
    refine Je7 hT35 (List.nil_sublist _) (by kernel_rfl) rfl ?_
    refine qbw ?_
    refine Xb0 ?_
    refine Xb7 ?_
    exact q_k ⟨(k13,j + 1,⟨o168,_⟩,⟨o173,_⟩),hk13,⟨by dsimp only;omega,by dsimp only;omega⟩,⟨hok168,hok173⟩,hS.next hj1 hG hq hcl hend⟩
   refine qca ?_
   refine qdc ?_
   rintro v L' R' ⟨b172,rfl,rfl,hR172⟩
   replace hR172:=hR172.symm;subst hR172
   refine qa1 ?_
   refine Jbb [4] hT35 (List.nil_sublist _) (by kernel_rfl) ?_
   refine qca ?_
   refine qdn ?_
   rintro v L' R' ⟨b167,rfl,rfl,hR167⟩
   replace hR167:=hR167.symm;subst hR167
   refine qa1 ?_
   refine Jbb [5] hT35 (List.nil_sublist _) (by kernel_rfl) ?_
   refine qca ?_
   refine J3g ?_
   rintro v L' R' ⟨o168,rfl,hok168,rfl,rfl⟩
   refine qa1 ?_
   refine Jbb [10] hT35 (List.nil_sublist _) (by kernel_rfl) ?_
   refine qca ?_
   refine J2w ?_
   rintro v L' R' ⟨o173,rfl,hok173,rfl,rfl⟩
   refine qa1 ?_
   refine J2j ?_
   refine J2o ?_
   refine Je7 hT35 (List.nil_sublist _) (by kernel_rfl) rfl ?_
   refine qbw ?_
   refine Xb0 ?_
   refine Xb7 ?_
   exact q_k ⟨(k13,j + 1,⟨o168,_⟩,⟨o173,_⟩),hk13,⟨by dsimp only;omega,by dsimp only;omega⟩,⟨hok168,hok173⟩,hS.next hj1 hG hq hcl hend⟩
  obtain rfl:j=pl.l.length:=by omega
  have hSl:=hS.len
  have hSr:=hS.roads.len
  have hprl:=hPr.len
  refine qbk ?_
  refine qa6 ?_
  refine Jaq rfl (Tri.spl (.appB (.consB (.appB (.consL (.consL (.appB (.consB (.consB (.consB (.appB (.appB .nil))))))))))) (Jsj c b5 x kk5 rl.l.length rl.o.cap pl.val rl.o.addr R hx hkk5 (by omega))) rfl ?_
  rintro v L' R' ⟨L1,rfl,fans,doors,sf,sd,k14,S,rfl,⟨ho1,ho2,ho3,ho4⟩,hFD,hDD,hif,hid,hk14,rfl,rfl⟩
  simp only [List.append_assoc,List.cons_append,List.nil_append]
  have hxs:CodesR x (S ++ R):=hx.mono fun r h=>Jab (by simp [h])
  have hFm:=hFD.m
  have hDm2:=hDD.m
  have hFl:=hFD.len
  have hDl2:=hDD.len
  refine qaq ?_
  intro b19
  refine Xbe ?_
  refine qa6 ?_
  refine qbe ?_
  refine qbe ?_
  refine Jaq rfl (J1l (n:=rl.l.length) (pres:=(⟨.own b60 pl.l.length [],pr⟩:OwL Int)) ⟨pl.arr,rl.arr⟩ (.consB (.appB (.consB (.appB (.appB (.consB (.consB (.consB (.appL (.appB (.consL (.consL (.appB (.appB (.appB (.appB .nil)))))))))))))))) (by repeat (first | exact Jcj | apply Jcl | apply Jdh)) (by repeat (first | exact Jcj | apply Jcl | apply Jdh)) (by repeat (first | exact Jcj | apply Jcl | apply Jdh)) (by repeat (first | exact Jcj | apply Jcl | apply Jdh)) (by repeat (first | exact Jcj | apply Jcl | apply Jdh)) (by repeat (first | exact Jcj | apply Jcl | apply Jdh)) ho1 ho2 ho3 ho4 hokp hokf2 (fun f hf=>(hif f hf).mono fun r hr=>Jab (by simp [hr])) (fun d hd=>(hid d hd).mono fun r hr=>Jab (by simp [hr])) hxs hk14 hokr2 hFD hDD hSr.symm (by omega) hS.roads.flow (fun i p hp=>(hPr.val i p hp).1) (fun i r hr=>by dsimp only;rw [hprl];exact (hS.roads.road i r hr).d)) rfl ?_
  rintro v L' R' ⟨rl',k15,rfl,hFI,hk15,rfl,rfl⟩
  simp only [List.append_assoc,List.cons_append,List.nil_append]
  have hrv:rl.val=(⟨rl.o,rl'⟩:OwL XRoad).val:=by simp only [OwL.val,hFI.len]
  refine qa4 ?_
  rw [hrv]
  refine Jaz tb [188] [0,1,2,3,5,4] [6,7,8] ([Blk.mk b19 _ _,Blk.mk b9 _ _,Blk.mk b5 _ _]) _ Jbh (by kernel_rfl) (by repeat (first | exact zs0 _ | exact zs1 _ | apply zs2 | apply zs3 | apply zs4 | apply zs5)) (by (repeat (first | apply List.Sublist.cons (a:=Blk.mk b2 _ _) | apply List.Sublist.cons (a:=Blk.mk b3 _ _) | apply List.Sublist.cons (a:=Blk.mk b4 _ _) | apply List.Sublist.cons_cons));exact List.Sublist.refl _) ?_
  refine qde ?_
  refine qb3 ?_
  refine qde ?_
  refine Jb1 (Jba (row:=[_,_]) tb rfl rfl rfl (by repeat (first | exact zi0 | apply zi1 | apply zi2)) (by rfl) (by rfl)) rfl rfl rfl rfl ?_
  refine Jgf (Jba (row:=[_,_]) tb rfl rfl rfl (by repeat (first | exact zi0 | apply zi1 | apply zi2)) (by rfl) (by rfl)) rfl rfl rfl rfl ?_
  refine Jbt rfl (Jtm (a:=⟨⟨pl.arr,(⟨rl.o,rl'⟩:OwL XRoad).arr⟩,fans.arr,doors.arr⟩) (.consB (.appB (.consB (.appB (.appB (.consB (.consB (.consB (.appB (.appB (.appB (.appB (.appB (.consL (.consB (.appB .nil)))))))))))))))) (by repeat (first | exact Jcj | apply Jcl | apply Jdh)) (by repeat (first | exact Jcj | apply Jcl | apply Jdh)) ho3 ho4 hxs hk15 (by omega) (by omega)) rfl rfl ?_
  rintro v L' R' ⟨tf,td,k16,rfl,⟨ht1,ht2⟩,hdf,hdd,hk16,rfl,rfl⟩
  simp only [List.append_assoc,List.cons_append,List.nil_append]
  refine qas ?_
  refine qba ?_
  iterate 3 refine qbg ?_
  refine Jb8 (Jaa (Jee ?_))
  refine q_r (L':=MadeO.L ⟨pl,⟨rl.o,rl'⟩,fans,doors,tf,td,(⟨.own b60 pl.l.length [],pr⟩:OwL Int),fl⟩ (cblk c x k16)) (R':=S ++ R) (J65 rfl (Ja0 (row:=[_,_,_,_]) tb rfl rfl rfl (by repeat (first | exact zi0 | apply zi1 | apply zi2)) (by rfl) (by rfl)) (Ja0 (row:=[_,_]) tb rfl rfl rfl (by repeat (first | exact zi0 | apply zi1 | apply zi2)) (by rfl) (by rfl)) (Ja0 (row:=[_,_]) tb rfl rfl rfl (by repeat (first | exact zi0 | apply zi1 | apply zi2)) (by rfl) (by rfl))) ?_
  have hMA:=J08 (a:=MadeO.a ⟨pl,⟨rl.o,rl'⟩,fans,doors,tf,td,(⟨.own b60 pl.l.length [],pr⟩:OwL Int),fl⟩) (s:=⟨sf.arr,sd.arr⟩) (t:=MadeO.t ⟨pl,⟨rl.o,rl'⟩,fans,doors,tf,td,(⟨.own b60 pl.l.length [],pr⟩:OwL Int),fl⟩) (x:=MadeO.x ⟨pl,⟨rl.o,rl'⟩,fans,doors,tf,td,(⟨.own b60 pl.l.length [],pr⟩:OwL Int),fl⟩) hP hPr hS hFD hDD ⟨hFI.len,hFI.done,hFI.todo⟩ hdf hdd
  exact ⟨⟨pl,⟨rl.o,rl'⟩,fans,doors,tf,td,(⟨.own b60 pl.l.length [],pr⟩:OwL Int),fl⟩,k16,S,rfl,⟨hok,OwL.len_ok (fun _=>rfl) hokr2 hFI.len,ho1,ho2,ht1,ht2,hokp,hokf2⟩,hMA,hif,hid,hk16,rfl,rfl⟩
end Go.Proofs.Ytihompplndcdeaa
end
section
namespace Go.Proofs.Ytihompplndcdeaa
open Go.Aw Go
set_option maxRecDepth 20000
attribute [local irreducible] CJ LJ DJ Tri YV Gives Jdn Jaw Jbk Jdo RV Jay OwL.L
abbrev Jd6 (y:Arr Int):Arr Int:=⟨y.a,y.cap,y.l.take 300⟩
theorem Jt1 (y:Arr Int) (L:List Blk) (R:List Sl) (hy:CodesR y R):
    Tri Try.prog 6 [y.val].toArray L R (fun v L' R'=>∃c,v=.pointer (some ⟨c,0,none⟩)∧CodesR (Jd6 y) R'∧cblk c (Jd6 y) 0 :: L=L'∧bsl (Jd6 y) :: R=R'):=by
  have hsl:=hy.sl
  refine Jy6 Try.call6 hsl fun hyn=>?_
  refine Jae 10 Try.call6 Try.func6 rfl rfl rfl ?_
  refine qae ?_
  refine qc1 ?_
  refine qa4 ?_
  refine J0t 300 hsl ?_
  refine qay ?_
  refine qbm ?_
  refine Xat ?_
  refine Jax (Jtj rfl rfl) rfl ?_
  refine Jax (Jpa tb rfl rfl rfl rfl (n:=(y.l.take 300).length) (by rw [List.length_take];omega) (by rw [List.length_take];omega)) rfl ?_
  refine J3t ?_
  refine qax ?_
  intro b9
  refine qc1 ?_
  refine qa0 ?_
  refine q_r (L':=cblk b9 (Jd6 y) 0 :: L) (R':=bsl (Jd6 y) :: R) (Jd4 rfl (Jal (show _=Value.pointer _ from rfl))) ?_
  exact ⟨b9,rfl,⟨Jab (by simp),fun i b hb=>by rw [List.getElem?_take] at hb;split at hb;exact hy.byte i b hb;cases hb⟩,rfl,rfl⟩
theorem J34 {c:Nat} {x:Arr Int} {k:Nat} {L B:List Blk} {R:List Sl} (hu:Spl L B [cblk c x k]) (hx:CodesR x R) (hk:k≤x.l.length):
    Tri Try.prog 7 [.pointer (some ⟨c, 0, none⟩)].toArray L R
      (fun v L' R'=>∃(m:MadeO) (k':Nat) (S:List Sl),v=.tuple #[m.a.val,m.t.val,m.x.val]∧m.Ok∧MadeA m.a m.t m.x∧(∀f∈m.fans.l,InR f.sl S)∧(∀d∈m.doors.l,InR d.sl S)∧k'≤x.l.length∧B ++ m.L (cblk c x k')=L'∧S ++ R=R'):=
  (Tri.spl hu (J1f c x k R hx hk)).mono fun v L'' R' ⟨L',e,m,k',S,h1,h2,h3,h4,h5,h6,h7,h8⟩=>⟨m,k',S,h1,h2,h3,h4,h5,h6,by rw [h7];exact e,h8⟩
end Go.Proofs.Ytihompplndcdeaa
end
section
namespace Go.Proofs.Ytihompplndcdeaa
open Go.Aw Go
set_option maxRecDepth 20000
attribute [local irreducible] CJ LJ DJ Tri YV Gives Jdn Jaw Jbk Jdo RV Jay OwL.L
theorem Jcd {a:XAir} {R R':List Sl} (h:AirR a R) (k:∀r∈R,InR r R'):AirR a R':=⟨h.places.mono k,h.roads.mono k,h.fans.mono k,h.doors.mono k⟩
theorem Jbu {s:XSetting} {R R':List Sl} (h:SetR s R) (k:∀r∈R,InR r R'):SetR s R':=⟨h.fans.mono k,h.doors.mono k⟩
theorem Jwp {P n code t R} {Q : Jbd} {A : List Blk} {m : MadeO} {cb : Blk} (hm : m.Ok) (hf : ∀ f ∈ m.fans.l, InR f.sl R) (hd : ∀ d ∈ m.doors.l, InR d.sl R)
    (h:∀R',AirR m.a R'→SetR m.t R'→StateR m.x R'→(∀r∈R,InR r R')→CJ P n code t (A ++ (cb :: [])) R' Q):CJ P n code t (A ++ m.L cb) R Q:=by
  unfold MadeO.L
  refine Jbn [] Jci (by decide) hm.pres (fun s hs=>by cases hs) ?_
  refine Jbn [] (fun _=>rfl) (by decide:0 < 2) hm.places (fun s hs=>by cases hs) ?_
  refine Jbn [] Jci (by decide) hm.flows (fun s hs=>by cases hs) ?_
  refine Jbn (m.fans.l.map XFan.sl) (fun _=>rfl) (by decide:0 < 4) hm.fans (fun s hs=>by obtain ⟨y,hy,rfl⟩:=List.mem_map.1 hs;exact (hf y hy).mono fun r hr=>Jab (by simp [hr])) ?_
  refine Jbn (m.doors.l.map XDoor.sl) (fun _=>rfl) (by decide:0 < 3) hm.doors (fun s hs=>by obtain ⟨y,hy,rfl⟩:=List.mem_map.1 hs;exact (hd y hy).mono fun r hr=>Jab (by simp [hr])) ?_
  refine Jbn [] (fun _=>rfl) (by decide:0 < 10) hm.roads (fun s hs=>by cases hs) ?_
  have e:∀X:List Blk,A ++ (cb :: X)=(A ++ [cb]) ++ X:=fun X=>by simp
  rw [e]
  refine Jbn [] Jci (by decide) hm.tf (fun s hs=>by cases hs) ?_
  refine Jbn [] Jci (by decide) hm.td (fun s hs=>by cases hs) ?_
  rw [List.append_nil]
  refine h _ ⟨?_,?_,?_,?_⟩ ⟨?_,?_⟩ ⟨?_,?_⟩ (fun r hr=>Jab (by simp [hr]))
  · exact Jab (.tail _ (.tail _ (.tail _ (.tail _ (.tail _ (.tail _ (.head _)))))))
  · exact Jab (.tail _ (.tail _ (.head _)))
  · exact Jab (.tail _ (.tail _ (.tail _ (.tail _ (.head _)))))
  · exact Jab (.tail _ (.tail _ (.tail _ (.head _))))
  · exact Jab (.tail _ (.head _))
  · exact Jab (.head _)
  · exact Jab (.tail _ (.tail _ (.tail _ (.tail _ (.tail _ (.tail _ (.tail _ (.head _))))))))
  · exact Jab (.tail _ (.tail _ (.tail _ (.tail _ (.tail _ (.head _))))))
theorem Jqx {c:Nat} {x:Arr Int} {k:Nat} {a:XAir} {L B:List Blk} {R:List Sl} (hu:Spl L B [cblk c x k]) (hx:CodesR x R) (hk:k≤x.l.length) (hd:InR (dsl a.doors) R) (h1:a.fans.l.length≤100) (h2:a.doors.l.length≤100) (h3:∀(i:Nat) (d:XDoor),a.doors.l[i]?=some d→d.rests.l.length≤100):
    Tri Try.prog 8 [.pointer (some ⟨c, 0, none⟩), a.val].toArray L R
      (fun v L' R'=>∃(tf td:OwL Int) (k':Nat),v=.agg #[tf.val,td.val]∧(tf.ok 1 Jad∧td.ok 1 Jad)∧AnySet a a.fans.l.length a.doors.l.length tf.l td.l∧k'≤x.l.length∧B ++ (cblk c x k' :: (tf.L 3 Jad ++ (td.L 3 Jad ++ [])))=L'∧R=R'):=
  (Tri.spl hu (Jub c x k a R hx hk hd h1 h2 h3)).mono fun v L'' R' ⟨L',e,tf,td,k',a1,a2,a3,a4,a5,a6⟩=>⟨tf,td,k',a1,a2,a3,a4,by rw [a5];exact e,a6⟩
theorem AirOk.rests {a:XAir} (h:AirOk a) (i:Nat) (d:XDoor) (hd:a.doors.l[i]?=some d):d.rests.l.length≤100:=by
  have:=(h.door i d hd).1.len
  omega
end Go.Proofs.Ytihompplndcdeaa
end
