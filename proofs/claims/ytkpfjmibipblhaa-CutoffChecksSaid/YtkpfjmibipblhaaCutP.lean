import Derived.Test.YtkpfjmibipblhaaApp0
import Derived.Laws.StructEq
import Derived.Test.YtkpfjmibipblhaaDraws
import Derived.Test.YtkpfjmibipblhaaSpans
import Derived.Test.YtkpfjmibipblhaaSiteS
import Derived.Test.YtkpfjmibipblhaaEasy
import Derived.Test.YtkpfjmibipblhaaCutC
import Derived.Test.YtkpfjmibipblhaaEval
section
/-
  '==' between structs of numbers and truths, spans inside them. No program is named in the first part. By an AI agent; no person has read it.
-/
set_option linter.unusedSimpArgs false
set_option linter.unusedVariables false
namespace Go.Proofs.Ytkpfjmibipblhaa
open Go.Aw Go
inductive KC where
  | i
  | b
def KC.fits : KC → Value → Prop
  | .i, .int .i64 _ => True
  | .b, .bool _ => True
  | _, _ => False
def kFits : List KC → List Value → Prop
  | [], [] => True
  | k :: ks, v :: vs => k.fits v ∧ kFits ks vs
  | _, _ => False
def cellEq : Value → Value → Bool
  | .int _ a, .int _ b => decide (a = b)
  | .bool a, .bool b => decide (a = b)
  | _, _ => false
def cellsEq : List Value → List Value → Bool
  | a :: l, b :: m => cellEq a b && cellsEq l m
  | _, _ => true
theorem kFits_len : ∀ {ks : List KC} {l : List Value}, kFits ks l → l.length = ks.length
  | [], [], _ => rfl
  | [], _ :: _, h => h.elim
  | _ :: _, [], h => h.elim
  | k :: ks, v :: vs, h => by simp [kFits_len h.2]
theorem kFits_split : ∀ {ks ms : List KC} {l : List Value}, kFits (ks ++ ms) l → kFits ks (l.take ks.length) ∧ kFits ms (l.drop ks.length)
  | [], ms, l, h => ⟨by simp [kFits], by simpa using h⟩
  | k :: ks, ms, [], h => h.elim
  | k :: ks, ms, v :: vs, h => by
    have := kFits_split (ks := ks) (ms := ms) (l := vs) h.2
    exact ⟨⟨h.1, this.1⟩, this.2⟩
theorem cellsEq_split : ∀ (n : Nat) (l m : List Value), cellsEq l m = (cellsEq (l.take n) (m.take n) && cellsEq (l.drop n) (m.drop n))
  | 0, l, m => by simp [cellsEq]
  | n + 1, [], m => by simp [cellsEq]
  | n + 1, a :: l, [] => by simp [cellsEq]
  | n + 1, a :: l, b :: m => by
    simp only [List.take_succ_cons, List.drop_succ_cons, cellsEq]
    rw [cellsEq_split n l m, Bool.and_assoc]
section
variable {P : Program}
def FE (P : Program) (d : Nat) (I : TypeId) (ks : List KC) : Prop :=
  ∀ (xs ys : List Value) (off : Nat) (w : World), kFits ks ((xs.drop off).take ks.length) → kFits ks ((ys.drop off).take ks.length) →
    ∃ a b, (part I xs.toArray off).run P w = .ok a w ∧ (part I ys.toArray off).run P w = .ok b w ∧ (Op.equalIn d I a b).run P w = .ok (cellsEq ((xs.drop off).take ks.length) ((ys.drop off).take ks.length)) w
theorem part_one {I : TypeId} {xs : List Value} {off : Nat} {v : Value} {w : World} (hag : (isAgg I).run P w = .ok false w) (h : (xs.drop off).take 1 = [v]) : (part I xs.toArray off).run P w = .ok v w := by
  have hv : xs[off]? = some v := by
    have : ((xs.drop off).take 1)[0]? = some v := by rw [h]; rfl
    rw [List.getElem?_take] at this
    simpa using this
  simp only [part, Sem.run_bind, hag, Result.andThen_ok]
  simp [hv]
theorem one_of {l : List Value} {k : KC} (h : kFits [k] l) : ∃ v, l = [v] ∧ k.fits v := by
  match l, h with
  | [v], h => exact ⟨v, rfl, h.1⟩
theorem fe_int {d : Nat} {I : TypeId} (h : P.underlying I = some (.int .i64)) : FE P (d + 1) I [.i] := by
  intro xs ys off w hx hy
  have hag : (isAgg I).run P w = .ok false w := by simp [isAgg, run_underlying h]
  obtain ⟨u, hu, fu⟩ := one_of hx
  obtain ⟨v, hv, fv⟩ := one_of hy
  refine ⟨u, v, part_one hag hu, part_one hag hv, ?_⟩
  have hu' : (xs.drop off).take [KC.i].length = [u] := hu
  have hv' : (ys.drop off).take [KC.i].length = [v] := hv
  rw [hu', hv']
  match u, v, fu, fv with
  | .int .i64 a, .int .i64 b, _, _ =>
    rw [run_equalIn_int (P := P) w d I .i64 .i64 a b h, beq_dec]
    simp [cellsEq, cellEq]
theorem fe_bool {d : Nat} {I : TypeId} (h : P.underlying I = some .bool) : FE P (d + 1) I [.b] := by
  intro xs ys off w hx hy
  have hag : (isAgg I).run P w = .ok false w := by simp [isAgg, run_underlying h]
  obtain ⟨u, hu, fu⟩ := one_of hx
  obtain ⟨v, hv, fv⟩ := one_of hy
  refine ⟨u, v, part_one hag hu, part_one hag hv, ?_⟩
  have hu' : (xs.drop off).take [KC.b].length = [u] := hu
  have hv' : (ys.drop off).take [KC.b].length = [v] := hv
  rw [hu', hv']
  match u, v, fu, fv with
  | .bool a, .bool b, _, _ =>
    rw [run_equalIn_bool (P := P) w d I a b h]
    simp only [cellsEq, cellEq, Bool.and_true]
    cases a <;> cases b <;> rfl
def offsE : Nat → List (TypeId × List KC) → List (Bool × TypeId × Nat)
  | _, [] => []
  | o, (I, ks) :: l => (false, I, o) :: offsE (o + ks.length) l
theorem run_fields {d : Nat} : ∀ (pl : List (TypeId × List KC)) (fs : List Field) (xs ys : List Value) (off : Nat) (w : World), fs.map (fun f => (f.name == "_", f.type, f.offset)) = offsE off pl → (∀ p ∈ pl, FE P d p.1 p.2) →
    kFits (pl.flatMap (·.2)) (xs.drop off) → kFits (pl.flatMap (·.2)) (ys.drop off) → (Op.eqFields d xs.toArray ys.toArray fs).run P w = .ok (cellsEq (xs.drop off) (ys.drop off)) w
  | [], fs, xs, ys, off, w, hm, _, hx, hy => by
    have : fs = [] := by simpa [offsE] using hm
    subst this
    have h1 := kFits_len hx
    have h2 : xs.drop off = [] := List.eq_nil_of_length_eq_zero (by simpa using h1)
    rw [h2]
    simp [Op.eqFields, cellsEq]
  | (I, ks) :: pl, [], xs, ys, off, w, hm, _, _, _ => by simp [offsE] at hm
  | (I, ks) :: pl, f :: fs, xs, ys, off, w, hm, hp, hx, hy => by
    simp only [List.map_cons, offsE, List.cons.injEq, Prod.mk.injEq] at hm
    obtain ⟨⟨f1, f2, f3⟩, hm⟩ := hm
    have nf : f.name ≠ "_" := by simpa using f1
    rw [List.flatMap_cons] at hx hy
    obtain ⟨x1, x2⟩ := kFits_split hx
    obtain ⟨y1, y2⟩ := kFits_split hy
    obtain ⟨a, b, ha, hb, hab⟩ := hp (I, ks) List.mem_cons_self xs ys off w x1 y1
    have ih := run_fields pl fs xs ys (off + ks.length) w hm (fun p h => hp p (List.mem_cons_of_mem _ h)) (by rw [← List.drop_drop]; exact x2) (by rw [← List.drop_drop]; exact y2)
    simp only [Op.eqFields, if_pos nf, f2, f3, Sem.run_bind, ha, hb, hab, Result.andThen_ok, Sem.run_ite, Sem.run_pure]
    rw [cellsEq_split ks.length (xs.drop off) (ys.drop off), List.drop_drop, List.drop_drop]
    cases hc : cellsEq ((xs.drop off).take ks.length) ((ys.drop off).take ks.length) with
    | false => simp
    | true => simpa using ih
theorem run_strEq {d : Nat} {T : TypeId} {pl : List (TypeId × List KC)} (h1 : P.underlying T = some (.struct (P.fieldsOf T))) (h2 : P.stoodInHeld T = false) (h4 : (P.fieldsOf T).toList.map (fun f => (f.name == "_", f.type, f.offset)) = offsE 0 pl) (hp : ∀ p ∈ pl, FE P d p.1 p.2)
    {xs ys : List Value} {w : World} (hx : kFits (pl.flatMap (·.2)) xs) (hy : kFits (pl.flatMap (·.2)) ys) : (Op.equalIn (d + 1) T (.agg xs.toArray) (.agg ys.toArray)).run P w = .ok (cellsEq xs ys) w := by
  rw [run_equalIn_agg w d T _ _ h1 h2]
  exact run_fields pl _ xs ys 0 w h4 hp hx hy
structure StrEq (P : Program) (T : TypeId) (ks : List KC) : Prop where
  eq : ∀ (xs ys : List Value) (w : World), kFits ks xs → kFits ks ys → (Op.equalIn 10000 T (.agg xs.toArray) (.agg ys.toArray)).run P w = .ok (cellsEq xs ys) w
  guard : P.eqGuardType P.depth T = false
theorem strEq_of {T : TypeId} (pl : List (TypeId × List KC)) {ks : List KC} (h1 : P.underlying T = some (.struct (P.fieldsOf T))) (h2 : P.stoodInHeld T = false) (h3 : P.eqGuardType P.depth T = false) (h4 : (P.fieldsOf T).toList.map (fun f => (f.name == "_", f.type, f.offset)) = offsE 0 pl) (hk : pl.flatMap (·.2) = ks) (hp : ∀ p ∈ pl, FE P 9999 p.1 p.2) : StrEq P T ks :=
  ⟨fun xs ys w hx hy => run_strEq h1 h2 h4 hp (by rw [hk]; exact hx) (by rw [hk]; exact hy), h3⟩
end
section
variable {P : Program} {ρ : Operand → Value} {L : List Blk} {R : List Sl} {dst : Option Tmp} {ty : TypeId} {pos : String} {after : Array Edge} {guard : Option (Nat × Bool)} {T T2 : TypeId} {x y : Operand} {ks : List KC} {xs ys : List Value}
theorem yv_eql_str (hT : StrEq P T ks) (hx : ρ x = .agg xs.toArray) (hy : ρ y = .agg ys.toArray) (fx : kFits ks xs) (fy : kFits ks ys) {b : Bool} (hb : cellsEq xs ys = b) : YV P ⟨dst, .binOp .eql T x y T2, ty, pos, after, guard⟩ ρ L R (.bool b) := fun _ w _ => by
  have h1 := run_eqGuard_agg (P := P) w .eql T x y xs.toArray ys.toArray hT.guard
  simp only [execOp, hx, hy, Sem.run_bind, h1, Result.andThen_ok, run_eql_struct, hT.eq xs ys _ fx fy, hb]
  simp
theorem yv_neq_str (hT : StrEq P T ks) (hx : ρ x = .agg xs.toArray) (hy : ρ y = .agg ys.toArray) (fx : kFits ks xs) (fy : kFits ks ys) {b : Bool} (hb : cellsEq xs ys = b) : YV P ⟨dst, .binOp .neq T x y T2, ty, pos, after, guard⟩ ρ L R (.bool (!b)) := fun _ w _ => by
  have h1 := run_eqGuard_agg (P := P) w .neq T x y xs.toArray ys.toArray hT.guard
  simp only [execOp, hx, hy, Sem.run_bind, h1, Result.andThen_ok, run_neq_struct, hT.eq xs ys _ fx fy, hb]
  simp
end
theorem watchEq : StrEq Try.prog 116 [.b, .i, .i] :=
  strEq_of [(4, [.b]), (3, [.i]), (3, [.i])] (by kernel_rfl) (by kernel_rfl) (by kernel_rfl) (by kernel_rfl) rfl (by
    intro p hp
    simp only [List.mem_cons, List.not_mem_nil, or_false] at hp
    rcases hp with rfl | rfl | rfl
    · exact fe_bool (by kernel_rfl)
    · exact fe_int (by kernel_rfl)
    · exact fe_int (by kernel_rfl))
theorem cutEq : StrEq Try.prog 93 [.b, .i, .i] :=
  strEq_of [(4, [.b]), (3, [.i]), (3, [.i])] (by kernel_rfl) (by kernel_rfl) (by kernel_rfl) (by kernel_rfl) rfl (by
    intro p hp
    simp only [List.mem_cons, List.not_mem_nil, or_false] at hp
    rcases hp with rfl | rfl | rfl
    · exact fe_bool (by kernel_rfl)
    · exact fe_int (by kernel_rfl)
    · exact fe_int (by kernel_rfl))
end Go.Proofs.Ytkpfjmibipblhaa
end
section
/-
  Raising and lowering: what they leave. By an AI agent; no person has read it.
-/
set_option linter.unusedSimpArgs false
set_option linter.unusedVariables false
namespace Go.Proofs.Ytkpfjmibipblhaa
open Go.Aw Go

section
variable {a : XAir} {s : XSetting} {A : List Bool} {l m : List Int} {k : Nat} {v : Int}
end

end Go.Proofs.Ytkpfjmibipblhaa
end
section
/-
  The bounds of a made air are no greater than a tenth of what is possible. By an AI agent; no person has read it.
-/
set_option linter.unusedSimpArgs false
set_option linter.unusedVariables false
namespace Go.Proofs.Ytkpfjmibipblhaa
open Go.Aw Go

section
variable {a : XAir} {s : XSetting} {x : XState} (h : MadeA a s x)
include h
end
section
variable {a : XAir} {s : XSetting} {x : XState} (h : MadeA a s x)
include h
end
end Go.Proofs.Ytkpfjmibipblhaa
end
section
/-
  Bounds that are drawn near an air. By an AI agent; no person has read it.
-/
set_option linter.unusedSimpArgs false
set_option linter.unusedVariables false
namespace Go.Proofs.Ytkpfjmibipblhaa
open Go.Aw Go
set_option maxRecDepth 20000
attribute [local irreducible] CJ LJ DJ Tri YV Gives seqK blockK loopK retK RV mergeK OwL.L

end Go.Proofs.Ytkpfjmibipblhaa
end
section
/-
  Statements about chapter 11: what accepted bounds prove of a state that fits. By an AI agent; no person has read it.
-/
set_option linter.unusedSimpArgs false
set_option linter.unusedVariables false
namespace Go.Proofs.Ytkpfjmibipblhaa
open Go.Aw Go
set_option maxRecDepth 20000
attribute [local irreducible] CJ LJ DJ Tri YV Gives seqK blockK loopK retK RV mergeK OwL.L

end Go.Proofs.Ytkpfjmibipblhaa
end
section
/-
  The sanity check of chapter 12: a mine with one road is solved. By an AI agent; no person has read it.
-/
set_option linter.unusedSimpArgs false
set_option linter.unusedVariables false
namespace Go.Proofs.Ytkpfjmibipblhaa
open Go.Aw Go

section
variable (b b' : Nat)
end
end Go.Proofs.Ytkpfjmibipblhaa
end
section
/-
  Statements about chapter 12: what they share. By an AI agent; no person has read it.
-/
set_option linter.unusedSimpArgs false
set_option linter.unusedVariables false
namespace Go.Proofs.Ytkpfjmibipblhaa
open Go.Aw Go
set_option maxRecDepth 20000
attribute [local irreducible] CJ LJ DJ Tri YV Gives seqK blockK loopK retK RV mergeK OwL.L

theorem ints_tri (x y : Arr Int) (L : List Blk) (R : List Sl) (hx : InR (isl x) R) (hy : InR (isl y) R) (he : x.l = y.l) :
    Tri Try.prog 25 [x.val, y.val].toArray L R (fun v L' R' => v = .bool true ∧ L = L' ∧ R = R') := by
  have hle : x.l.length = y.l.length := by rw [he]
  refine Tri_len Try.call25 hx fun hxn => ?_
  refine tri_enter 26 Try.call25 Try.func25 rfl rfl rfl ?_
  refine qae ?_
  refine qaz ?_
  refine qaw ?_
  refine qbm ?_
  refine qag ?_
  refine qbm ?_
  refine qag ?_
  refine qbq ?_
  refine qaf ?_
  refine q_c (fun hc0 => ?_) (fun hc0 => ?_)
  ·
   refine qae ?_
   refine qaz ?_
   refine qbh ?_
   refine q_b (L' := L) (R' := R) ?_
   exact absurd hc0 (by omega)
  refine qbo ?_
  refine qad ?_
  refine qa2 ?_
  refine CJ_forget [(0, Value.slice _ _ _), (1, Value.slice _ _ _), (5, Value.int _ _)] (by repeat' (first | exact trivial | refine And.intro rfl ?_)) fun tq0 => ?_
  refine q_s [4, 5, 11, 12, 13, 14, 15, 16, 17, 18, 19, 20, 21, 22, 23, 24, 25] (fun g : {k : Nat // k ≤ x.l.length} => [(5, .int .i64 ((g.1 : Nat) : Int))]) (fun g => x.l.length - g.1) (⟨0, by omega⟩) ?_
  rintro ⟨k, hk⟩ junk
  try dsimp only
  refine qbi ?_
  refine qaa ?_
  refine qbm ?_
  refine qag ?_
  refine qaj ?_
  refine qaf ?_
  refine q_c (fun hc1 => ?_) (fun hc1 => ?_)
  ·
   have h1 := get_D (l := x.l) (k := k) 0 (by omega)
   have h2 := get_D (l := y.l) (k := k) 0 (by omega)
   rw [← he] at h2
   rw [he] at h2
   refine CJ_skip (seqK_normal (CJ_seq (CJ_block (CJ_seq ?_))))
   refine CJ_drawn tb [0, 1, 2, 3, 4, 5, 6, 7, 8] _ mixed (by kernel_rfl) (List.Sublist.refl _) ?_
   refine DJ_q (yv_move (show _ = Value.slice _ _ _ from rfl)) rfl rfl rfl ?_
   refine qao ?_
   refine qds ?_
   refine qbl ?_
   refine DJ_q (yv_move (show _ = Value.slice _ _ _ from rfl)) rfl rfl rfl ?_
   refine qao ?_
   refine qds ?_
   refine qbl ?_
   refine DJ_q (yv_neq rfl rfl) rfl rfl rfl ?_
   refine qbu ?_
   refine q_c (fun hc2 => ?_) (fun hc2 => ?_)
   ·
    refine qae ?_
    refine qaz ?_
    refine qbt ?_
    refine q_b (L' := L) (R' := R) ?_
    exact absurd (show x.l.getD k 0 = y.l.getD k 0 by rw [he]) hc2
   refine qbj ?_
   refine qaa ?_
   refine qar ?_
   refine qad ?_
   refine qav ?_
   exact q_k (⟨k + 1, by omega⟩)
  refine qbk ?_
  refine qaz ?_
  refine qa0 ?_
  refine q_b (L' := L) (R' := R) ?_
  exact ⟨rfl, rfl, rfl⟩
theorem ints_own {A : List Blk} {R : List Sl} {p q : OwL Int} (hp : InB (p.L 3 icell) A) (hq : InB (q.L 3 icell) A) (okp : p.ok 1 icell) (okq : q.ok 1 icell) (he : p.l = q.l) :
    Tri Try.prog 25 [p.val, q.val].toArray A R (fun v L' R' => v = .bool true ∧ A = L' ∧ R = R') :=
  Tri.lendU (S := [isl p.arr, isl q.arr]) (fun w G hh s hs => by
    simp only [List.mem_cons, List.not_mem_nil, or_false] at hs
    rcases hs with rfl | rfl
    · exact lend_rep hh hp okp (fun _ => rfl) (by decide) (fun s hs => by cases hs)
    · exact lend_rep hh hq okq (fun _ => rfl) (by decide) (fun s hs => by cases hs)) (ints_tri p.arr q.arr [] _ (inR_self (.head _)) (inR_self (.tail _ (.head _))) he)

end Go.Proofs.Ytkpfjmibipblhaa
end
section
/-
  Statements about chapter 13: the sanity check. By an AI agent; no person has read it.
-/
set_option linter.unusedSimpArgs false
set_option linter.unusedVariables false
namespace Go.Proofs.Ytkpfjmibipblhaa
open Go.Aw Go
set_option maxRecDepth 20000
attribute [local irreducible] CJ LJ DJ Tri YV Gives seqK blockK loopK retK RV mergeK OwL.L

section
variable (b b' : Nat)
end
end Go.Proofs.Ytkpfjmibipblhaa
end
section
/-
  Statements about chapter 20: the sanity check. By an AI agent; no person has read it.
-/
set_option linter.unusedSimpArgs false
set_option linter.unusedVariables false
namespace Go.Proofs.Ytkpfjmibipblhaa
open Go.Aw Go
set_option maxRecDepth 20000
attribute [local irreducible] CJ LJ DJ Tri YV Gives seqK blockK loopK retK RV mergeK OwL.L
section
variable {A9 B9 : Prop}
theorem yb5aa (a : A9) (h : A9 → B9 := by exact LJ_q (yv_loadN (row := [_, _, _, _, _, _, _, _]) tb rfl rfl rfl (by repeat (first | exact zi0 | apply zi1 | apply zi2)) (by rfl) (by rfl)) rfl) : B9 := h a
theorem yb5ab (a : A9) (h : A9 → B9 := by exact LJ_q (yv_build (qs := [(1, (Value.int _ _).cells.toList)]) (out := [_, _, _]) tb rfl rfl rfl rfl) rfl) : B9 := h a
theorem yb5ac (a : A9) (h : A9 → B9 := by exact LJ_g (gives_buildSlice (qs := [(0, (Value.agg _).cells.toList)]) (out := [_, _, _]) tb rfl rfl rfl rfl rfl rfl rfl) rfl) : B9 := h a
theorem yb5ad (a : A9) (h : A9 → B9 := by exact LJ_g (gives_buildSlice (qs := [(0, (Value.agg _).cells.toList)]) (out := [_, _, _, _]) tb rfl rfl rfl rfl rfl rfl rfl) rfl) : B9 := h a
theorem yb5ae (a : A9) (h : A9 → B9 := by exact LJ_frz (wd := 1) (len := 1) (cap := 1) (rows := [icell 0]) (subs := []) rfl (by decide) (by decide) (fun r hr => by rw [List.mem_singleton.1 hr]; rfl) (by decide) rfl (fun s hs => by cases hs)) : B9 := h a
end
section
variable {s : XSite} {len dl ho : Int} (h : EasyD s len dl ho)
include h
theorem easy_air : airErr s.air = 0 := by
  obtain ⟨h1, h2, h3, h4, h5, h6, h7, h8, ⟨h9, h9'⟩, _⟩ := h
  obtain ⟨⟨⟨⟨pa, pc, pl⟩, ⟨ra, rc, rl⟩⟩, ⟨fa, fc, fl⟩, ⟨da, dc, dl⟩⟩, se, cn, zs, ps⟩ := s
  dsimp only at h1 h2 h3 h4
  subst h1 h2 h3 h4
  have : len = 1 ∨ len = 2 ∨ len = 3 ∨ len = 4 := by omega
  rcases this with rfl | rfl | rfl | rfl <;> rfl
theorem easy_ok : SiteOk s := by
  have ha := easy_air h
  obtain ⟨h1, h2, h3, h4, h5, h6, ⟨z, h7, z1, z2, z3, z4⟩, h8, hr⟩ := h
  refine ⟨ha, by rw [h5, h6, h7, h8]; simp, fun i hi => ?_, fun c hc => ?_, fun y hy => ?_, fun p hp => ?_⟩
  · rw [h5] at hi ⊢
    obtain rfl : i = 0 := by simp only [List.length_cons, List.length_nil] at hi; omega
    rw [sensAt, if_neg (by decide), if_neg, if_neg (by rintro ⟨k, hk, _⟩; omega)]
    rw [sensOf, h2]
    show ¬ ¬ ((0 : Int) ≤ 0 ∧ (0 : Int) < 1)
    decide
  · rw [h6] at hc
    rw [List.mem_singleton.1 hc, condErr, if_neg, if_neg (by show ¬ ((0 : Int) < 0 ∨ (1099511627776 : Int) < 0); decide), if_pos (by rfl), levelErr, if_pos]
    · show (100 : Int) ≤ 1000000 ∧ (0 : Int) ≤ 60 ∧ (60 : Int) < 100 ∧ 0 ≤ dl ∧ dl ≤ 100000
      omega
    · rw [h5, h2]
      show ¬ (0 : Int) ≠ 0
      decide
  · rw [h7] at hy
    rw [List.mem_singleton.1 hy, zoneErr, z1, h6, h2, if_neg (by show ¬ ruleErr _ 1 ≠ 0; decide), if_neg (by omega), if_neg]
    rintro ⟨i, hi, hb⟩
    rw [z3] at hi hb
    obtain rfl : i = 0 := by simp only [List.length_cons, List.length_nil] at hi; omega
    revert hb
    show ¬ roadBad 1 [0] 0
    decide
  · rw [h8] at hp
    simp only [List.mem_cons, List.not_mem_nil, or_false] at hp
    omega
theorem easy_vals {m : XMeas} : valuesErr s [m] [⟨false, -1, 0⟩] [⟨300, 300⟩] 3 = 0 ∧ valuesV s [m] [⟨false, -1, 0⟩] [⟨300, 300⟩] 3 = [valueV [easySens] [m] [⟨300, 300⟩] (easyCond dl) ⟨false, -1, 0⟩ 3] ∧
    valuesW s [m] [⟨false, -1, 0⟩] [⟨300, 300⟩] 3 = [valueW [easySens] [m] (easyCond dl) ⟨false, -1, 0⟩ 3] := by
  have e0 : valuesErr s [m] [⟨false, -1, 0⟩] [⟨300, 300⟩] 3 = 0 := by
    rw [valuesErr_at (easy_ok h).err (by rw [h.sens, h.conds, h.roads]; exact ⟨rfl, rfl, rfl⟩) (by decide)]
    have hs : stepErr (easyCond dl).level ⟨false, -1, 0⟩ 3 = 0 := by
      have := h.rng
      rw [stepErr, if_neg, if_neg (by decide), if_neg (by decide)]
      rw [Decidable.not_not]
      show (100 : Int) ≤ 1000000 ∧ (0 : Int) ≤ 60 ∧ (60 : Int) < 100 ∧ 0 ≤ dl ∧ dl ≤ 100000
      omega
    have he : errF s [⟨false, -1, 0⟩] 3 0 = none := by
      rw [errF, h.conds]
      show nzO (valueE (easyCond dl) ⟨false, -1, 0⟩ 3) = none
      rw [valueE, if_pos (by rfl), hs]; rfl
    show (([0] : List Nat).findSome? (errF s [⟨false, -1, 0⟩] 3)).getD 0 = 0
    rw [List.findSome?_cons, he]; rfl
  refine ⟨e0, ?_, ?_⟩
  · rw [valuesV, if_neg (by rw [e0]; decide), h.sens, h.conds]; rfl
  · rw [valuesW, if_neg (by rw [e0]; decide), h.sens, h.conds]; rfl
theorem easy_none : valuesV s [⟨-1, 0, ⟨0, 0⟩⟩] [⟨false, -1, 0⟩] [⟨300, 300⟩] 3 = [0] ∧ valuesW s [⟨-1, 0, ⟨0, 0⟩⟩] [⟨false, -1, 0⟩] [⟨300, 300⟩] 3 = [⟨true, -1, 3⟩] := by
  obtain ⟨_, e1, e2⟩ := easy_vals h (m := ⟨-1, 0, ⟨0, 0⟩⟩)
  rw [e1, e2]
  exact ⟨by rfl, by rfl⟩
theorem easy_some : valuesV s [⟨0, 0, ⟨1, 2⟩⟩] [⟨false, -1, 0⟩] [⟨300, 300⟩] 3 = [-1] := by
  obtain ⟨_, e1, e2⟩ := easy_vals h (m := ⟨0, 0, ⟨1, 2⟩⟩)
  rw [e1]
  rfl
theorem easy_cuts {v : Int} {c : XCut} : cutsErr s [v] [c] 3 = 0 ∧ cutsC s [v] [c] 3 = [cutV (evalS [⟨1, 0, 0, 0⟩] [v]) c 3] ∧ cutsN s [v] [c] 3 = if evalS [⟨1, 0, 0, 0⟩] [v] ≠ -1 ∧ c.off = false then [0] else [] := by
  obtain ⟨z, h7, z1, z2, z3, z4⟩ := h.zone
  have e0 : cutsErr s [v] [c] 3 = 0 := by
    rw [cutsErr, (easy_ok h).err, if_neg (by decide), if_neg (by rw [h.conds, h7]; simp), if_neg (by decide)]
  refine ⟨e0, ?_, ?_⟩
  · rw [cutsC, if_neg (by rw [e0]; decide)]
    show [cutAt s [v] [c] 3 0] = _
    rw [cutAt, h7]
    show [cutV (evalS z.rule.l [v]) c 3] = _
    rw [z1]
  · rw [cutsN, if_neg (by rw [e0]; decide)]
    show nowTo s [v] [c] (0 + 1) = _
    rw [nowTo, h7]
    show (if evalS z.rule.l [v] ≠ -1 ∧ c.off = false then nowTo s [v] [c] 0 ++ [((0 : Nat) : Int)] else nowTo s [v] [c] 0) = _
    rw [z1]; rfl
theorem easy_cut1 : cutsC s [0] [⟨false, 2, 0⟩] 3 = [⟨true, -1, 0⟩] ∧ cutsN s [0] [⟨false, 2, 0⟩] 3 = [0] := by
  obtain ⟨_, e1, e2⟩ := easy_cuts h (v := 0) (c := ⟨false, 2, 0⟩)
  rw [e1, e2]
  exact ⟨by rfl, by rfl⟩
theorem easy_cut2 : cutsC s [-1] [⟨false, -1, 0⟩] 3 = [⟨false, 3, 0⟩] ∧ cutsN s [-1] [⟨false, -1, 0⟩] 3 = [] := by
  obtain ⟨_, e1, e2⟩ := easy_cuts h (v := -1) (c := ⟨false, -1, 0⟩)
  rw [e1, e2]
  exact ⟨by rfl, by rfl⟩
end
theorem awake20_tri (L : List Blk) (R : List Sl) : Tri Try.prog 11 ([] : List Value).toArray L R (fun v L' R' => v = .bool true ∧ L = L' ∧ R = R') := by
  refine tri_enter 139 Try.call11 Try.func11 rfl rfl rfl ?_
  refine qae ?_
  refine qaz ?_
  refine qa4 ?_
  refine CJ_nil 1 ?_
  refine qay ?_
  refine LJ_call rfl (new_tri ⟨none, 0, []⟩ _ _ ⟨inR_self (.head _), fun i q hq => by simp at hq⟩) rfl ?_
  rintro v L' R' ⟨c, rfl, hx, rfl, rfl⟩
  refine LJ_call rfl (Tri.spl (.consL .rest) (drawEasy_tri c _ 0 _ hx (Nat.zero_le _))) rfl ?_
  rintro v L' R' ⟨_, rfl, s, len, dl, ho, sw, zn, n, k1, rfl, hE, ⟨hsk, hzk⟩, hn, hsl, hzl, ⟨hk1, _⟩, ⟨hs, hR0⟩, rfl⟩
  refine LJ_q (yv_move rfl) rfl ?_
  refine qbs ?_
  refine qbs ?_
  refine qaq ?_
  intro b1
  refine qaq ?_
  intro b2
  refine qak ?_
  refine qak ?_
  refine qa4 ?_
  refine CJ_weak (L' := ⟨b1, s.cells, 36⟩ :: L) (R' := R') (.cons _ (.cons_cons _ (List.sublist_append_left _ _))) (allR_self _) ?_
  have hRR : ∀ r ∈ R, InR r R' := fun r hr => hR0 r (.tail _ (.tail _ hr))
  refine qay ?_
  refine qcd ?_
  refine LJ_g (gives_buildSlice (qs := [(0, (Value.agg _).cells.toList)]) (out := [_, _]) tb rfl rfl rfl rfl rfl rfl rfl) rfl ?_
  rintro v L' R' ⟨b23, rfl, rfl, hR23⟩
  replace hR23 := hR23.symm; subst hR23
  refine LJ_frz (wd := 2) (len := 1) (cap := 1) (rows := [XSpan.cells ⟨300, 300⟩]) (subs := []) rfl (by decide) (by decide) (fun r hr => by rw [List.mem_singleton.1 hr]; rfl) (by decide) rfl (fun s hs => by cases hs) ?_
  refine qc4 ?_
  refine qam ?_
  refine yb5ab ?_
  refine yb5ac ?_
  rintro v L' R' ⟨b25, rfl, rfl, hR25⟩
  replace hR25 := hR25.symm; subst hR25
  refine LJ_frz (wd := 3) (len := 1) (cap := 1) (rows := [XWatch.cells ⟨false, -1, 0⟩]) (subs := []) rfl (by decide) (by decide) (fun r hr => by rw [List.mem_singleton.1 hr]; rfl) (by decide) rfl (fun s hs => by cases hs) ?_
  refine qc4 ?_
  refine qam ?_
  refine yb5aa ?_
  refine LJ_q (yv_build (qs := [(0, (Value.int _ _).cells.toList)]) (out := [_, _, _, _]) tb rfl rfl rfl rfl) rfl ?_
  refine yb5ad ?_
  rintro v L' R' ⟨b29, rfl, rfl, hR29⟩
  replace hR29 := hR29.symm; subst hR29
  refine LJ_frz (wd := 4) (len := 1) (cap := 1) (rows := [XMeas.cells ⟨-1, 0, ⟨0, 0⟩⟩]) (subs := []) rfl (by decide) (by decide) (fun r hr => by rw [List.mem_singleton.1 hr]; rfl) (by decide) rfl (fun s hs => by cases hs) ?_
  refine qbm ?_
  refine qbm ?_
  refine LJ_call rfl (values_tri s ⟨some ⟨b29, 0, none⟩, 1, [⟨-1, 0, ⟨0, 0⟩⟩]⟩ ⟨some ⟨b25, 0, none⟩, 1, [⟨false, -1, 0⟩]⟩ ⟨some ⟨b23, 0, none⟩, 1, [⟨300, 300⟩]⟩ 3 _ _ ⟨hs.mono fun r h => inR_self (.tail _ (.tail _ (.tail _ h))), inR_self (.head _), inR_self (.tail _ (.head _)), inR_self (.tail _ (.tail _ (.head _))), fun x hx => by rw [List.mem_singleton.1 hx, MeasOk]; decide⟩) rfl ?_
  rintro v L' R' ⟨p1, q1, rfl, ⟨kp1, kq1⟩, ep1, eq1, rfl, rfl⟩
  have ee1 := (easy_vals hE (m := ⟨-1, 0, ⟨0, 0⟩⟩)).1
  dsimp only at ep1 eq1
  rw [(easy_none hE).1] at ep1
  rw [(easy_none hE).2] at eq1
  dsimp only
  rw [ee1]
  refine LJ_q (yv_move rfl) rfl ?_
  iterate 3 refine qbs ?_
  refine qc4 ?_
  refine qc4 ?_
  refine qad ?_
  refine qa4 ?_
  refine CJ_frz1 (A := []) (wd := 1) [] (fun _ => rfl) (by decide) kp1 (fun s hs => by cases hs) ?_
  refine CJ_L (by simp only [List.nil_append]; rfl) ?_
  refine CJ_frz1 (A := []) (wd := 3) [] (fun _ => rfl) (by decide) kq1 (fun s hs => by cases hs) ?_
  refine CJ_L (by simp only [List.nil_append]; rfl) ?_
  obtain ⟨R2, hR2e⟩ : ∃ R2, R2 = wasl q1.arr :: isl p1.arr :: mesl ⟨some ⟨b29, 0, none⟩, 1, [⟨-1, 0, ⟨0, 0⟩⟩]⟩ :: wasl ⟨some ⟨b25, 0, none⟩, 1, [⟨false, -1, 0⟩]⟩ :: spsl ⟨some ⟨b23, 0, none⟩, 1, [⟨300, 300⟩]⟩ :: R' := ⟨_, rfl⟩
  have hR2 : ∀ r ∈ R', InR r R2 := fun r hr => inR_self (by simp [hR2e, hr])
  have hq1R : InR (wasl q1.arr) R2 := inR_self (by rw [hR2e]; exact .head _)
  have hp1R : InR (isl p1.arr) R2 := inR_self (by rw [hR2e]; exact .tail _ (.head _))
  have hwR : InR (wasl ⟨some ⟨b25, 0, none⟩, 1, [⟨false, -1, 0⟩]⟩) R2 := inR_self (by rw [hR2e]; exact .tail _ (.tail _ (.tail _ (.head _))))
  have hfR : InR (spsl ⟨some ⟨b23, 0, none⟩, 1, [⟨300, 300⟩]⟩) R2 := inR_self (by rw [hR2e]; exact .tail _ (.tail _ (.tail _ (.tail _ (.head _)))))
  have hs2 := hs.mono hR2
  refine CJ_R (show _ = R2 by rw [hR2e]; rfl) ?_
  refine qay ?_
  refine yb5aa ?_
  refine qcd ?_
  refine LJ_q (yv_build (qs := [(2, (Value.agg _).cells.toList)]) (out := [_, _, _, _]) tb rfl rfl rfl rfl) rfl ?_
  refine yb5ad ?_
  rintro v L' R' ⟨b40, rfl, rfl, hR40⟩
  replace hR40 := hR40.symm; subst hR40
  refine LJ_frz (wd := 4) (len := 1) (cap := 1) (rows := [XMeas.cells ⟨0, 0, ⟨1, 2⟩⟩]) (subs := []) rfl (by decide) (by decide) (fun r hr => by rw [List.mem_singleton.1 hr]; rfl) (by decide) rfl (fun s hs => by cases hs) ?_
  refine qbm ?_
  refine qbm ?_
  refine LJ_call rfl (values_tri s ⟨some ⟨b40, 0, none⟩, 1, [⟨0, 0, ⟨1, 2⟩⟩]⟩ ⟨some ⟨b25, 0, none⟩, 1, [⟨false, -1, 0⟩]⟩ ⟨some ⟨b23, 0, none⟩, 1, [⟨300, 300⟩]⟩ 3 _ _ ⟨hs2.mono fun r h => inR_self (.tail _ h), inR_self (.head _), hwR.mono fun r h => inR_self (.tail _ h), hfR.mono fun r h => inR_self (.tail _ h), fun x hx => by rw [List.mem_singleton.1 hx, MeasOk]; decide⟩) rfl ?_
  rintro v L' R' ⟨p2, q2, rfl, ⟨kp2, kq2⟩, ep2, eq2, rfl, rfl⟩
  have ee2 := (easy_vals hE (m := ⟨0, 0, ⟨1, 2⟩⟩)).1
  dsimp only at ep2
  rw [easy_some hE] at ep2
  dsimp only
  rw [ee2]
  refine LJ_q (yv_move rfl) rfl ?_
  iterate 3 refine qbs ?_
  refine qc4 ?_
  refine qc4 ?_
  refine qad ?_
  refine qa4 ?_
  refine CJ_frz1 (A := []) (wd := 1) [] (fun _ => rfl) (by decide) kp2 (fun s hs => by cases hs) ?_
  refine CJ_L (by simp only [List.nil_append]; rfl) ?_
  refine CJ_weak (L' := ⟨b1, s.cells, 36⟩ :: L) (List.sublist_append_right _ _) (allR_self _) ?_
  obtain ⟨R3, hR3e⟩ : ∃ R3, R3 = isl p2.arr :: mesl ⟨some ⟨b40, 0, none⟩, 1, [⟨0, 0, ⟨1, 2⟩⟩]⟩ :: R2 := ⟨_, rfl⟩
  have hR3 : ∀ r ∈ R2, InR r R3 := fun r hr => inR_self (by simp [hR3e, hr])
  have hp2R : InR (isl p2.arr) R3 := inR_self (by rw [hR3e]; exact .head _)
  have hs3 := hs2.mono hR3
  refine CJ_R (show _ = R3 by rw [hR3e]; rfl) ?_
  refine qay ?_
  refine yb5aa ?_
  refine qbm ?_
  refine yb5ab ?_
  refine yb5ac ?_
  rintro v L' R' ⟨b51, rfl, rfl, hR51⟩
  replace hR51 := hR51.symm; subst hR51
  refine LJ_frz (wd := 3) (len := 1) (cap := 1) (rows := [XCut.cells ⟨false, 2, 0⟩]) (subs := []) rfl (by decide) (by decide) (fun r hr => by rw [List.mem_singleton.1 hr]; rfl) (by decide) rfl (fun s hs => by cases hs) ?_
  refine LJ_call rfl (cuts_tri s p1.arr ⟨some ⟨b51, 0, none⟩, 1, [⟨false, 2, 0⟩]⟩ 3 _ _ (hs3.mono fun r h => inR_self (.tail _ h)) ((hp1R.mono hR3).mono fun r h => inR_self (.tail _ h)) (inR_self (.head _))) rfl ?_
  rintro v L' R' ⟨c1, n1, rfl, ⟨kc1, kn1⟩, ec1, en1, rfl, rfl⟩
  have ee3 := (easy_cuts hE (v := 0) (c := ⟨false, 2, 0⟩)).1
  have epa : p1.arr.l = [0] := ep1
  rw [epa] at ec1 en1 ⊢
  dsimp only at ec1 en1 ⊢
  rw [(easy_cut1 hE).1] at ec1
  rw [(easy_cut1 hE).2] at en1
  rw [ee3]
  refine LJ_q (yv_move rfl) rfl ?_
  iterate 3 refine qbs ?_
  refine qc4 ?_
  refine qc4 ?_
  refine qad ?_
  refine qa4 ?_
  refine CJ_frz1 (A := []) (wd := 1) [] (fun _ => rfl) (by decide) kn1 (fun s hs => by cases hs) ?_
  refine CJ_L (by simp only [List.nil_append]; rfl) ?_
  refine CJ_frz1 (A := []) (wd := 3) [] (fun _ => rfl) (by decide) kc1 (fun s hs => by cases hs) ?_
  refine CJ_L (by simp only [List.nil_append]; rfl) ?_
  obtain ⟨R4, hR4e⟩ : ∃ R4, R4 = cusl c1.arr :: isl n1.arr :: cusl ⟨some ⟨b51, 0, none⟩, 1, [⟨false, 2, 0⟩]⟩ :: R3 := ⟨_, rfl⟩
  have hR4 : ∀ r ∈ R3, InR r R4 := fun r hr => inR_self (by simp [hR4e, hr])
  have hc1R : InR (cusl c1.arr) R4 := inR_self (by rw [hR4e]; exact .head _)
  have hn1R : InR (isl n1.arr) R4 := inR_self (by rw [hR4e]; exact .tail _ (.head _))
  have hs4 := hs3.mono hR4
  refine CJ_R (show _ = R4 by rw [hR4e]; rfl) ?_
  refine qay ?_
  refine yb5aa ?_
  refine qbm ?_
  refine yb5ab ?_
  refine yb5ac ?_
  rintro v L' R' ⟨b60, rfl, rfl, hR60⟩
  replace hR60 := hR60.symm; subst hR60
  refine LJ_frz (wd := 3) (len := 1) (cap := 1) (rows := [XCut.cells ⟨false, -1, 0⟩]) (subs := []) rfl (by decide) (by decide) (fun r hr => by rw [List.mem_singleton.1 hr]; rfl) (by decide) rfl (fun s hs => by cases hs) ?_
  refine LJ_call rfl (cuts_tri s p2.arr ⟨some ⟨b60, 0, none⟩, 1, [⟨false, -1, 0⟩]⟩ 3 _ _ (hs4.mono fun r h => inR_self (.tail _ h)) ((hp2R.mono hR4).mono fun r h => inR_self (.tail _ h)) (inR_self (.head _))) rfl ?_
  rintro v L' R' ⟨c2, n2, rfl, ⟨kc2, kn2⟩, ec2, en2, rfl, rfl⟩
  have ee4 := (easy_cuts hE (v := -1) (c := ⟨false, -1, 0⟩)).1
  have epb : p2.arr.l = [-1] := ep2
  rw [epb] at ec2 en2 ⊢
  dsimp only at ec2 en2 ⊢
  rw [(easy_cut2 hE).1] at ec2
  rw [(easy_cut2 hE).2] at en2
  rw [ee4]
  refine LJ_q (yv_move rfl) rfl ?_
  iterate 3 refine qbs ?_
  refine qc4 ?_
  refine qc4 ?_
  refine qad ?_
  refine qa4 ?_
  refine CJ_frz1 (A := []) (wd := 1) [] (fun _ => rfl) (by decide) kn2 (fun s hs => by cases hs) ?_
  refine CJ_L (by simp only [List.nil_append]; rfl) ?_
  refine CJ_frz1 (A := []) (wd := 3) [] (fun _ => rfl) (by decide) kc2 (fun s hs => by cases hs) ?_
  refine CJ_L (by simp only [List.nil_append]; rfl) ?_
  obtain ⟨R5, hR5e⟩ : ∃ R5, R5 = cusl c2.arr :: isl n2.arr :: cusl ⟨some ⟨b60, 0, none⟩, 1, [⟨false, -1, 0⟩]⟩ :: R4 := ⟨_, rfl⟩
  have hR5 : ∀ r ∈ R4, InR r R5 := fun r hr => inR_self (by simp [hR5e, hr])
  have up2 : ∀ r ∈ R2, InR r R5 := fun r hr => ((hR3 r hr).mono hR4).mono hR5
  have hc2R : InR (cusl c2.arr) R5 := inR_self (by rw [hR5e]; exact .head _)
  have hn2R : InR (isl n2.arr) R5 := inR_self (by rw [hR5e]; exact .tail _ (.head _))
  have hc1R5 := hc1R.mono hR5
  have hn1R5 := hn1R.mono hR5
  have hq1R5 := hq1R.mono up2
  have hp1R5 := hp1R.mono up2
  have hp2R5 := (hp2R.mono hR4).mono hR5
  have hs5 := hs4.mono hR5
  have fin : ∀ r ∈ R, InR r R5 := fun r hr => ((hRR r hr).mono hR2).mono up2
  have gq1 : q1.arr.l[0]? = some ⟨true, -1, 3⟩ := by show q1.l[0]? = _; rw [eq1]; rfl
  have gc1 : c1.arr.l[0]? = some ⟨true, -1, 0⟩ := by show c1.l[0]? = _; rw [ec1]; rfl
  have gc2 : c2.arr.l[0]? = some ⟨false, 3, 0⟩ := by show c2.l[0]? = _; rw [ec2]; rfl
  have lq1 : q1.l.length = 1 := by rw [eq1]; rfl
  have lc1 : c1.l.length = 1 := by rw [ec1]; rfl
  have lc2 : c2.l.length = 1 := by rw [ec2]; rfl
  have ln2 : n2.l.length = 0 := by rw [en2]; rfl
  have hsOk := (easy_ok hE).err
  refine CJ_R (show _ = R5 by rw [hR5e]; rfl) ?_
  refine qay ?_
  refine yb5aa ?_
  refine q_l rfl (siteCheck_tri s _ _ hs5) ?_
  rw [hsOk]
  refine qbn ?_
  refine qah ?_
  apply LJ_and (G := [_, _]) (j := 3) (cj := 68) rfl rfl (by rfl) rfl (show _ = Value.bool _ from rfl) rfl
  ·
   intro hg4
   replace hg4 := qb hg4
   refine qaa ?_
   refine qbn ?_
   exact qai
  intro junk4
  refine qah ?_
  apply LJ_and (G := [_, _]) (j := 7) (cj := 72) rfl rfl (by rfl) rfl (show _ = Value.bool _ from rfl) rfl
  ·
   intro hg8
   replace hg8 := qb hg8
   refine qaa ?_
   refine qbn ?_
   exact qai
  intro junk8
  refine qah ?_
  apply LJ_and (G := [_, _, _]) (j := 11) (cj := 76) rfl rfl (by rfl) rfl (show _ = Value.bool _ from rfl) rfl
  ·
   intro hg12
   replace hg12 := qb hg12
   refine qbm ?_
   refine qcx ?_
   rintro v L' R' ⟨b78, rfl, rfl, hR78⟩
   replace hR78 := hR78.symm; subst hR78
   refine yb5ae ?_
   refine q_l rfl (ints_tri p1.arr ⟨some ⟨b78, 0, none⟩, 1, [0]⟩ _ _ (hp1R5.mono fun r h => inR_self (.tail _ h)) (inR_self (.head _)) ep1) ?_
   exact qai
  intro junk12
  refine qah ?_
  apply LJ_and (G := [_, _, _]) (j := 16) (cj := 81) rfl rfl (by rfl) rfl (show _ = Value.bool _ from rfl) rfl
  ·
   intro hg17
   replace hg17 := qb hg17
   refine qbm ?_
   refine qcx ?_
   rintro v L' R' ⟨b83, rfl, rfl, hR83⟩
   replace hR83 := hR83.symm; subst hR83
   refine LJ_frz (wd := 1) (len := 1) (cap := 1) (rows := [icell (-1)]) (subs := []) rfl (by decide) (by decide) (fun r hr => by rw [List.mem_singleton.1 hr]; rfl) (by decide) rfl (fun s hs => by cases hs) ?_
   refine q_l rfl (ints_tri p2.arr ⟨some ⟨b83, 0, none⟩, 1, [-1]⟩ _ _ (hp2R5.mono fun r h => inR_self (.tail _ h)) (inR_self (.head _)) ep2) ?_
   exact qai
  intro junk17
  refine qah ?_
  apply LJ_and (G := [_, _, _]) (j := 21) (cj := 86) rfl rfl (by rfl) rfl (show _ = Value.bool _ from rfl) rfl
  ·
   intro hg22
   replace hg22 := qb hg22
   refine qbm ?_
   refine qag ?_
   refine qbn ?_
   exact qai
  intro junk22
  refine qah ?_
  apply LJ_and (G := [_, _, _, _]) (j := 26) (cj := 91) rfl rfl (by rfl) rfl (show _ = Value.bool _ from rfl) rfl
  ·
   intro hg27
   replace hg27 := qb hg27
   refine qbm ?_
   refine qdt ?_
   refine qb0 ?_
   refine qa7 ?_
   exact qai
  intro junk27
  refine qah ?_
  apply LJ_and (G := [_, _]) (j := 32) (cj := 97) rfl rfl (by rfl) rfl (show _ = Value.bool _ from rfl) rfl
  ·
   intro hg33
   replace hg33 := qb hg33
   refine qaa ?_
   refine qbn ?_
   exact qai
  intro junk33
  refine qah ?_
  apply LJ_and (G := [_, _]) (j := 36) (cj := 101) rfl rfl (by rfl) rfl (show _ = Value.bool _ from rfl) rfl
  ·
   intro hg37
   replace hg37 := qb hg37
   refine qaa ?_
   refine qbn ?_
   exact qai
  intro junk37
  refine qah ?_
  apply LJ_and (G := [_, _, _]) (j := 40) (cj := 105) rfl rfl (by rfl) rfl (show _ = Value.bool _ from rfl) rfl
  ·
   intro hg41
   replace hg41 := qb hg41
   refine qbm ?_
   refine qcx ?_
   rintro v L' R' ⟨b107, rfl, rfl, hR107⟩
   replace hR107 := hR107.symm; subst hR107
   refine yb5ae ?_
   refine q_l rfl (ints_tri n1.arr ⟨some ⟨b107, 0, none⟩, 1, [0]⟩ _ _ (hn1R5.mono fun r h => inR_self (.tail _ h)) (inR_self (.head _)) en1) ?_
   exact qai
  intro junk41
  refine qah ?_
  apply LJ_and (G := [_, _, _]) (j := 45) (cj := 110) rfl rfl (by rfl) rfl (show _ = Value.bool _ from rfl) rfl
  ·
   intro hg46
   replace hg46 := qb hg46
   refine qbm ?_
   refine qag ?_
   refine qbn ?_
   exact qai
  intro junk46
  refine qah ?_
  apply LJ_and (G := [_, _, _]) (j := 50) (cj := 115) rfl rfl (by rfl) rfl (show _ = Value.bool _ from rfl) rfl
  ·
   intro hg51
   replace hg51 := qb hg51
   refine qbm ?_
   refine qag ?_
   refine qbn ?_
   exact qai
  intro junk51
  refine qah ?_
  apply LJ_and (G := [_, _, _, _, _]) (j := 55) (cj := 120) rfl rfl (by rfl) rfl (show _ = Value.bool _ from rfl) rfl
  ·
   intro hg56
   replace hg56 := qb hg56
   refine qbm ?_
   refine qdt ?_
   refine qdk ?_
   refine LJ_q (yv_build (qs := [(0, (Value.bool _).cells.toList), (1, (Value.int _ _).cells.toList)]) (out := [_, _, _]) tb rfl rfl rfl rfl) rfl ?_
   refine LJ_q (yv_eql_str cutEq rfl rfl (by repeat (first | exact trivial | refine ⟨trivial, ?_⟩)) (by repeat (first | exact trivial | refine ⟨trivial, ?_⟩)) rfl) rfl ?_
   exact qai
  intro junk56
  refine qah ?_
  apply LJ_and (G := [_, _, _]) (j := 62) (cj := 127) rfl rfl (by rfl) rfl (show _ = Value.bool _ from rfl) rfl
  ·
   intro hg63
   replace hg63 := qb hg63
   refine qbm ?_
   refine qag ?_
   refine qbn ?_
   exact qai
  intro junk63
  refine qah ?_
  apply LJ_and (G := [_, _, _, _, _]) (j := 67) (cj := 132) rfl rfl (by rfl) rfl (show _ = Value.bool _ from rfl) rfl
  ·
   intro hg68
   replace hg68 := qb hg68
   refine qbm ?_
   refine qdt ?_
   refine qdk ?_
   refine yb5ab ?_
   refine LJ_q (yv_eql_str cutEq rfl rfl (by repeat (first | exact trivial | refine ⟨trivial, ?_⟩)) (by repeat (first | exact trivial | refine ⟨trivial, ?_⟩)) rfl) rfl ?_
   exact qai
  intro junk68
  refine qaz ?_
  refine qa0 ?_
  refine retK_ret (L' := L) (R' := R) (res1 rfl (rv_tmp (show _ = Value.bool _ from rfl))) ?hp ?hL ?hR
  case hp => exact ⟨by dsimp only [OwL.arr]; rw [lq1, ln2, lc1, lc2]; rfl, rfl, rfl⟩
  case hL => exact (by repeat (first | exact zs0 _ | exact zs1 _ | apply zs2 | apply zs3 | apply zs4 | apply zs5))
  case hR => exact fin
end Go.Proofs.Ytkpfjmibipblhaa
end
section
/-
  Conditions of which less is known, and zones behind a step. Plain. By an AI agent; no person has read it.
-/
set_option linter.unusedSimpArgs false
set_option linter.unusedVariables false
namespace Go.Proofs.Ytkpfjmibipblhaa
open Go.Aw Go
def Wd (x y : XSpan) : Prop := x.low ≤ x.high ∧ y.low ≤ x.low ∧ x.high ≤ y.high
structure MLoose (m m' : XMeas) : Prop where
  sensor : m'.sensor = m.sensor
  time : m'.time = m.time
  span : m' = m ∨ (Wd m.span m'.span ∧ (-1000000000 ≤ m'.span.low ∧ m'.span.high ≤ 1000000000))
section
variable {S : List XSens} {m m' : List XMeas} {fl fl' : List XSpan} {c : XCond} {w : XWatch} {t : Int} (hl : m'.length = m.length) (h : ∀ i : Nat, i < m.length → MLoose (m.getD i default) (m'.getD i default)) (hfl : fl'.length = fl.length) (hf : ∀ i : Nat, i < fl.length → Wd (fl.getD i default) (fl'.getD i default))
include hl h
include hfl hf
end
end Go.Proofs.Ytkpfjmibipblhaa
end
