import Derived.Test.YtkpfjmibipblhaaSiteD
import Derived.Laws.StructEq
import Derived.Test.YtkpfjmibipblhaaGraph
import Derived.Test.YtkpfjmibipblhaaFeedP
section
/-
  '==' between structs of numbers and truths, spans inside them. No program is named in the first part. By an AI agent; no person has read it.
-/
set_option linter.unusedSimpArgs false
set_option linter.unusedVariables false
namespace Go.Proofs.Ytkpfjmibipblhaa
open Go.Aw Go
inductive KC where
  | i
  | b
def KC.fits : KC → Value → Prop
  | .i, .int .i64 _ => True
  | .b, .bool _ => True
  | _, _ => False
def kFits : List KC → List Value → Prop
  | [], [] => True
  | k :: ks, v :: vs => k.fits v ∧ kFits ks vs
  | _, _ => False
def cellEq : Value → Value → Bool
  | .int _ a, .int _ b => decide (a = b)
  | .bool a, .bool b => decide (a = b)
  | _, _ => false
def cellsEq : List Value → List Value → Bool
  | a :: l, b :: m => cellEq a b && cellsEq l m
  | _, _ => true
theorem kFits_len : ∀ {ks : List KC} {l : List Value}, kFits ks l → l.length = ks.length
  | [], [], _ => rfl
  | [], _ :: _, h => h.elim
  | _ :: _, [], h => h.elim
  | k :: ks, v :: vs, h => by simp [kFits_len h.2]
theorem kFits_split : ∀ {ks ms : List KC} {l : List Value}, kFits (ks ++ ms) l → kFits ks (l.take ks.length) ∧ kFits ms (l.drop ks.length)
  | [], ms, l, h => ⟨by simp [kFits], by simpa using h⟩
  | k :: ks, ms, [], h => h.elim
  | k :: ks, ms, v :: vs, h => by
    have := kFits_split (ks := ks) (ms := ms) (l := vs) h.2
    exact ⟨⟨h.1, this.1⟩, this.2⟩
theorem cellsEq_split : ∀ (n : Nat) (l m : List Value), cellsEq l m = (cellsEq (l.take n) (m.take n) && cellsEq (l.drop n) (m.drop n))
  | 0, l, m => by simp [cellsEq]
  | n + 1, [], m => by simp [cellsEq]
  | n + 1, a :: l, [] => by simp [cellsEq]
  | n + 1, a :: l, b :: m => by
    simp only [List.take_succ_cons, List.drop_succ_cons, cellsEq]
    rw [cellsEq_split n l m, Bool.and_assoc]
section
variable {P : Program}
def FE (P : Program) (d : Nat) (I : TypeId) (ks : List KC) : Prop :=
  ∀ (xs ys : List Value) (off : Nat) (w : World), kFits ks ((xs.drop off).take ks.length) → kFits ks ((ys.drop off).take ks.length) →
    ∃ a b, (part I xs.toArray off).run P w = .ok a w ∧ (part I ys.toArray off).run P w = .ok b w ∧ (Op.equalIn d I a b).run P w = .ok (cellsEq ((xs.drop off).take ks.length) ((ys.drop off).take ks.length)) w
theorem part_one {I : TypeId} {xs : List Value} {off : Nat} {v : Value} {w : World} (hag : (isAgg I).run P w = .ok false w) (h : (xs.drop off).take 1 = [v]) : (part I xs.toArray off).run P w = .ok v w := by
  have hv : xs[off]? = some v := by
    have : ((xs.drop off).take 1)[0]? = some v := by rw [h]; rfl
    rw [List.getElem?_take] at this
    simpa using this
  simp only [part, Sem.run_bind, hag, Result.andThen_ok]
  simp [hv]
theorem one_of {l : List Value} {k : KC} (h : kFits [k] l) : ∃ v, l = [v] ∧ k.fits v := by
  match l, h with
  | [v], h => exact ⟨v, rfl, h.1⟩
theorem fe_int {d : Nat} {I : TypeId} (h : P.underlying I = some (.int .i64)) : FE P (d + 1) I [.i] := by
  intro xs ys off w hx hy
  have hag : (isAgg I).run P w = .ok false w := by simp [isAgg, run_underlying h]
  obtain ⟨u, hu, fu⟩ := one_of hx
  obtain ⟨v, hv, fv⟩ := one_of hy
  refine ⟨u, v, part_one hag hu, part_one hag hv, ?_⟩
  have hu' : (xs.drop off).take [KC.i].length = [u] := hu
  have hv' : (ys.drop off).take [KC.i].length = [v] := hv
  rw [hu', hv']
  match u, v, fu, fv with
  | .int .i64 a, .int .i64 b, _, _ =>
    rw [run_equalIn_int (P := P) w d I .i64 .i64 a b h, beq_dec]
    simp [cellsEq, cellEq]
theorem fe_bool {d : Nat} {I : TypeId} (h : P.underlying I = some .bool) : FE P (d + 1) I [.b] := by
  intro xs ys off w hx hy
  have hag : (isAgg I).run P w = .ok false w := by simp [isAgg, run_underlying h]
  obtain ⟨u, hu, fu⟩ := one_of hx
  obtain ⟨v, hv, fv⟩ := one_of hy
  refine ⟨u, v, part_one hag hu, part_one hag hv, ?_⟩
  have hu' : (xs.drop off).take [KC.b].length = [u] := hu
  have hv' : (ys.drop off).take [KC.b].length = [v] := hv
  rw [hu', hv']
  match u, v, fu, fv with
  | .bool a, .bool b, _, _ =>
    rw [run_equalIn_bool (P := P) w d I a b h]
    simp only [cellsEq, cellEq, Bool.and_true]
    cases a <;> cases b <;> rfl
def offsE : Nat → List (TypeId × List KC) → List (Bool × TypeId × Nat)
  | _, [] => []
  | o, (I, ks) :: l => (false, I, o) :: offsE (o + ks.length) l
theorem run_fields {d : Nat} : ∀ (pl : List (TypeId × List KC)) (fs : List Field) (xs ys : List Value) (off : Nat) (w : World), fs.map (fun f => (f.name == "_", f.type, f.offset)) = offsE off pl → (∀ p ∈ pl, FE P d p.1 p.2) →
    kFits (pl.flatMap (·.2)) (xs.drop off) → kFits (pl.flatMap (·.2)) (ys.drop off) → (Op.eqFields d xs.toArray ys.toArray fs).run P w = .ok (cellsEq (xs.drop off) (ys.drop off)) w
  | [], fs, xs, ys, off, w, hm, _, hx, hy => by
    have : fs = [] := by simpa [offsE] using hm
    subst this
    have h1 := kFits_len hx
    have h2 : xs.drop off = [] := List.eq_nil_of_length_eq_zero (by simpa using h1)
    rw [h2]
    simp [Op.eqFields, cellsEq]
  | (I, ks) :: pl, [], xs, ys, off, w, hm, _, _, _ => by simp [offsE] at hm
  | (I, ks) :: pl, f :: fs, xs, ys, off, w, hm, hp, hx, hy => by
    simp only [List.map_cons, offsE, List.cons.injEq, Prod.mk.injEq] at hm
    obtain ⟨⟨f1, f2, f3⟩, hm⟩ := hm
    have nf : f.name ≠ "_" := by simpa using f1
    rw [List.flatMap_cons] at hx hy
    obtain ⟨x1, x2⟩ := kFits_split hx
    obtain ⟨y1, y2⟩ := kFits_split hy
    obtain ⟨a, b, ha, hb, hab⟩ := hp (I, ks) List.mem_cons_self xs ys off w x1 y1
    have ih := run_fields pl fs xs ys (off + ks.length) w hm (fun p h => hp p (List.mem_cons_of_mem _ h)) (by rw [← List.drop_drop]; exact x2) (by rw [← List.drop_drop]; exact y2)
    simp only [Op.eqFields, if_pos nf, f2, f3, Sem.run_bind, ha, hb, hab, Result.andThen_ok, Sem.run_ite, Sem.run_pure]
    rw [cellsEq_split ks.length (xs.drop off) (ys.drop off), List.drop_drop, List.drop_drop]
    cases hc : cellsEq ((xs.drop off).take ks.length) ((ys.drop off).take ks.length) with
    | false => simp
    | true => simpa using ih
theorem run_strEq {d : Nat} {T : TypeId} {pl : List (TypeId × List KC)} (h1 : P.underlying T = some (.struct (P.fieldsOf T))) (h2 : P.stoodInHeld T = false) (h4 : (P.fieldsOf T).toList.map (fun f => (f.name == "_", f.type, f.offset)) = offsE 0 pl) (hp : ∀ p ∈ pl, FE P d p.1 p.2)
    {xs ys : List Value} {w : World} (hx : kFits (pl.flatMap (·.2)) xs) (hy : kFits (pl.flatMap (·.2)) ys) : (Op.equalIn (d + 1) T (.agg xs.toArray) (.agg ys.toArray)).run P w = .ok (cellsEq xs ys) w := by
  rw [run_equalIn_agg w d T _ _ h1 h2]
  exact run_fields pl _ xs ys 0 w h4 hp hx hy
structure StrEq (P : Program) (T : TypeId) (ks : List KC) : Prop where
  eq : ∀ (xs ys : List Value) (w : World), kFits ks xs → kFits ks ys → (Op.equalIn 10000 T (.agg xs.toArray) (.agg ys.toArray)).run P w = .ok (cellsEq xs ys) w
  guard : P.eqGuardType P.depth T = false
theorem strEq_of {T : TypeId} (pl : List (TypeId × List KC)) {ks : List KC} (h1 : P.underlying T = some (.struct (P.fieldsOf T))) (h2 : P.stoodInHeld T = false) (h3 : P.eqGuardType P.depth T = false) (h4 : (P.fieldsOf T).toList.map (fun f => (f.name == "_", f.type, f.offset)) = offsE 0 pl) (hk : pl.flatMap (·.2) = ks) (hp : ∀ p ∈ pl, FE P 9999 p.1 p.2) : StrEq P T ks :=
  ⟨fun xs ys w hx hy => run_strEq h1 h2 h4 hp (by rw [hk]; exact hx) (by rw [hk]; exact hy), h3⟩
end
section
variable {P : Program} {ρ : Operand → Value} {L : List Blk} {R : List Sl} {dst : Option Tmp} {ty : TypeId} {pos : String} {after : Array Edge} {guard : Option (Nat × Bool)} {T T2 : TypeId} {x y : Operand} {ks : List KC} {xs ys : List Value}
theorem yv_eql_str (hT : StrEq P T ks) (hx : ρ x = .agg xs.toArray) (hy : ρ y = .agg ys.toArray) (fx : kFits ks xs) (fy : kFits ks ys) {b : Bool} (hb : cellsEq xs ys = b) : YV P ⟨dst, .binOp .eql T x y T2, ty, pos, after, guard⟩ ρ L R (.bool b) := fun _ w _ => by
  have h1 := run_eqGuard_agg (P := P) w .eql T x y xs.toArray ys.toArray hT.guard
  simp only [execOp, hx, hy, Sem.run_bind, h1, Result.andThen_ok, run_eql_struct, hT.eq xs ys _ fx fy, hb]
  simp
theorem yv_neq_str (hT : StrEq P T ks) (hx : ρ x = .agg xs.toArray) (hy : ρ y = .agg ys.toArray) (fx : kFits ks xs) (fy : kFits ks ys) {b : Bool} (hb : cellsEq xs ys = b) : YV P ⟨dst, .binOp .neq T x y T2, ty, pos, after, guard⟩ ρ L R (.bool (!b)) := fun _ w _ => by
  have h1 := run_eqGuard_agg (P := P) w .neq T x y xs.toArray ys.toArray hT.guard
  simp only [execOp, hx, hy, Sem.run_bind, h1, Result.andThen_ok, run_neq_struct, hT.eq xs ys _ fx fy, hb]
  simp
end
theorem cutEq : StrEq Try.prog 93 [.b, .i, .i] :=
  strEq_of [(4, [.b]), (3, [.i]), (3, [.i])] (by kernel_rfl) (by kernel_rfl) (by kernel_rfl) (by kernel_rfl) rfl (by
    intro p hp
    simp only [List.mem_cons, List.not_mem_nil, or_false] at hp
    rcases hp with rfl | rfl | rfl
    · exact fe_bool (by kernel_rfl)
    · exact fe_int (by kernel_rfl)
    · exact fe_int (by kernel_rfl))
end Go.Proofs.Ytkpfjmibipblhaa
end
section
/-
  Power networks: orders to switches: feeder.Close, the reference's Answer and Live, and what they stand on. By an AI agent; no person has read it.
-/
set_option linter.unusedSimpArgs false
set_option linter.unusedVariables false
namespace Go.Proofs.Ytkpfjmibipblhaa
open Go.Aw Go
section
variable {A9 B9 : Prop}
theorem yb5aa (a : A9) (h : A9 → B9 := by exact LJ_q (yv_loadN (row := [_, _, _]) tb rfl rfl rfl (by repeat (first | exact zi0 | apply zi1 | apply zi2)) (by rfl) (by rfl)) rfl) : B9 := h a
theorem yb5ab (h : B9 := by exact ⟨.nil, .nil, 0, by rw [he]; rfl, ⟨OwL.nil_ok, OwL.nil_ok⟩, fun h => by omega, by rw [nil_L, nil_L]; rfl, rfl⟩) : B9 := h
end
theorem switchEq : StrEq Try.prog 98 [.i, .i, .i, .b, .b] :=
  strEq_of [(3, [.i]), (3, [.i]), (3, [.i]), (4, [.b]), (4, [.b])] (by kernel_rfl) (by kernel_rfl) (by kernel_rfl) (by kernel_rfl) rfl (by
    intro p hp
    simp only [List.mem_cons, List.not_mem_nil, or_false] at hp
    rcases hp with rfl | rfl | rfl | rfl | rfl
    · exact fe_int (by kernel_rfl)
    · exact fe_int (by kernel_rfl)
    · exact fe_int (by kernel_rfl)
    · exact fe_bool (by kernel_rfl)
    · exact fe_bool (by kernel_rfl))
theorem restoringEq : StrEq Try.prog 78 [.i, .i, .i, .i, .i] :=
  strEq_of [(3, [.i]), (3, [.i]), (3, [.i]), (3, [.i]), (3, [.i])] (by kernel_rfl) (by kernel_rfl) (by kernel_rfl) (by kernel_rfl) rfl (by
    intro p hp
    simp only [List.mem_cons, List.not_mem_nil, or_false] at hp
    rcases hp with rfl | rfl | rfl | rfl | rfl
    · exact fe_int (by kernel_rfl)
    · exact fe_int (by kernel_rfl)
    · exact fe_int (by kernel_rfl)
    · exact fe_int (by kernel_rfl)
    · exact fe_int (by kernel_rfl))
set_option maxRecDepth 20000
attribute [local irreducible] CJ LJ DJ Tri YV Gives seqK blockK loopK retK RV mergeK OwL.L
def TimeOk (sw : List XSwitch) (t : Int) : Prop := (0 ≤ t ∧ t ≤ 2147483648) ∧ ∀ x ∈ sw, x.since ≤ t
instance (sw : List XSwitch) (t : Int) : Decidable (TimeOk sw t) := by unfold TimeOk; infer_instance
def canE (sw : List XSwitch) (zn : List Int) (rp s t : Int) : Int := if feedE sw zn rp ≠ 0 then feedE sw zn rp else if s < 0 ∨ (sw.length : Int) ≤ s then 16 else if TimeOk sw t then 0 else 8
theorem timely_tri (f : XFeeder) (t : Int) (L : List Blk) (R : List Sl) (hf : FeederR f R) :
    Tri Try.prog 134 [f.val, .int .i64 t].toArray L R (fun v L' R' => v = .bool (decide (TimeOk f.switches.l t)) ∧ L = L' ∧ R = R') := by
  have hsR := hf.sw
  refine Tri_cap Try.call134 hsR fun hcap => ?_
  refine tri_enter 25 Try.call134 Try.func134 rfl rfl rfl ?_
  refine qae ?_
  refine qax ?_
  intro b2
  refine qaz ?_
  refine qaw ?_
  refine qaa ?_
  refine qaj ?_
  refine qah ?_
  apply LJ_or (G := [_, _]) (j := 2) (cj := 9) rfl rfl (by rfl) rfl (show _ = Value.bool _ from rfl) rfl
  ·
   intro hg3
   replace hg3 := qb hg3
   refine qaa ?_
   refine qa5 ?_
   exact qai
  intro junk3
  refine qaf ?_
  refine q_c (fun hc0 => ?_) (fun hc0 => ?_)
  ·
   refine qae ?_
   refine qaz ?_
   refine qbh ?_
   refine q_b (L' := L) (R' := R) ?_
   exact ⟨by rw [decide_eq_false (fun h => by have := h.1; omega)], rfl, rfl⟩
  refine qbo ?_
  refine qab ?_
  refine qac ?_
  refine qag ?_
  refine qaa ?_
  refine qa2 ?_
  refine CJ_forget [(1, Value.int _ _), (14, Value.slice _ _ _), (15, Value.int _ _), (16, Value.int _ _)] (by repeat' (first | exact trivial | refine And.intro rfl ?_)) fun tq0 => ?_
  refine q_s [4, 6, 16, 17, 18, 19, 20, 21, 22, 23, 24] (fun g : {k : Nat // k ≤ f.switches.l.length ∧ ∀ j : Nat, j < k → (f.switches.l.getD j default).since ≤ t} => [(16, .int .i64 ((g.1 : Nat) : Int))]) (fun g => f.switches.l.length - g.1) (⟨0, by omega, fun j hj => by omega⟩) ?_
  rintro ⟨k, hk, hal⟩ junk
  try dsimp only
  refine qae ?_
  refine qaj ?_
  refine qa4 ?_
  refine q_c (fun hc1 => ?_) (fun hc1 => ?_)
  ·
   have hg := get_D (l := f.switches.l) (k := k) default (by omega)
   refine qbb ?_
   refine LJ_q (by first | exact yv_index_ro tb rfl rfl rfl rfl (by first | assumption | exact zr (by simp)) (i := k) (by first | rfl | omega | (simp; omega)) (by omega) | exact yv_index tb rfl rfl rfl rfl (i := k) (by first | rfl | omega | (simp; omega)) (by omega)) rfl ?_
   refine qdw ?_
   refine qaq ?_
   intro b6
   refine qak ?_
   refine qam ?_
   refine qaa ?_
   refine qab ?_
   refine qac ?_
   refine qaj ?_
   refine qaf ?_
   refine q_c (fun hc2 => ?_) (fun hc2 => ?_)
   ·
    refine qae ?_
    refine qaz ?_
    refine qbt ?_
    refine q_b (L' := L) (R' := R) ?_
    exact ⟨by rw [decide_eq_false (fun h => by have := h.2 _ (List.mem_of_getElem? hg); omega)], rfl, rfl⟩
   refine qbj ?_
   refine qar ?_
   refine qaa ?_
   refine qav ?_
   exact loopK_mk (⟨k + 1, by omega, fun j hj => by
   rcases Nat.lt_or_ge j k with h | h
   · exact hal j h
   · obtain rfl : j = k := by omega
     omega⟩) (by repeat (first | exact Off.refl | apply Off.upd rfl | apply Off.havoc rfl | apply Off.updL rfl | apply Off.left rfl)) (by repeat' (first | exact trivial | refine And.intro rfl ?_)) (by repeat (first | exact zs0 _ | exact zs1 _ | apply zs2 | apply zs3 | apply zs4 | apply zs5)) (allR_self _) (by dsimp only; omega)
  refine qbk ?_
  refine qaz ?_
  refine qa0 ?_
  refine q_b (L' := L) (R' := R) ?_
  refine ⟨by rw [decide_eq_true (p := TimeOk f.switches.l t)]; refine ⟨by omega, fun x hx => ?_⟩; obtain ⟨j, hj, rfl⟩ := List.getElem_of_mem hx; have := hal j (by omega); rwa [List.getD_eq_getElem?_getD, List.getElem?_eq_getElem hj] at this, rfl, rfl⟩
theorem feedCan_tri (f : XFeeder) (s t : Int) (L : List Blk) (R : List Sl) (hf : FeederR f R) :
    Tri Try.prog 117 [f.val, .int .i64 s, .int .i64 t].toArray L R (fun v L' R' => v = .int .i64 (canE f.switches.l f.zones.l f.reply s t) ∧ L = L' ∧ R = R') := by
  refine tri_enter 26 Try.call117 Try.func117 rfl rfl rfl ?_
  refine qae ?_
  refine qax ?_
  intro b3
  refine qad ?_
  refine qaw ?_
  refine yb5aa ?_
  refine q_l rfl (feedCheck_tri f _ _ hf) ?_
  refine qad ?_
  refine qam ?_
  refine qaa ?_
  refine qbq ?_
  refine qaf ?_
  refine q_c (fun hc0 => ?_) (fun hc0 => ?_)
  ·
   refine qae ?_
   refine qaa ?_
   refine qad ?_
   refine qbh ?_
   refine q_i (L' := L) (R' := R) ?_
   exact ⟨by rw [canE, if_pos hc0], rfl, rfl⟩
  refine qbo ?_
  refine qaa ?_
  refine qaj ?_
  refine qah ?_
  apply LJ_or (G := [_, _, _, _, _]) (j := 2) (cj := 15) rfl rfl (by rfl) rfl (show _ = Value.bool _ from rfl) rfl
  ·
   intro hg3
   replace hg3 := qb hg3
   refine qaa ?_
   refine qab ?_
   refine qac ?_
   refine qag ?_
   refine qbz ?_
   exact qai
  intro junk3
  refine qaf ?_
  refine q_c (fun hc1 => ?_) (fun hc1 => ?_)
  ·
   refine qae ?_
   refine qad ?_
   refine qbh ?_
   refine q_i (L' := L) (R' := R) ?_
   exact ⟨by rw [canE, if_neg (by omega), if_pos (by omega)], rfl, rfl⟩
  refine qbo ?_
  refine yb5aa ?_
  refine qaa ?_
  refine q_l rfl (timely_tri f t _ _ hf) ?_
  refine qb4 ?_
  refine qaf ?_
  refine q_c (fun hc2 => ?_) (fun hc2 => ?_)
  ·
   refine qae ?_
   refine qad ?_
   refine qbh ?_
   refine q_i (L' := L) (R' := R) ?_
   exact ⟨by rw [canE, if_neg (by omega), if_neg (by omega), if_neg (by simpa using hc2)], rfl, rfl⟩
  refine qbv ?_
  refine qad ?_
  refine qa0 ?_
  refine q_i (L' := L) (R' := R) ?_
  exact ⟨by rw [canE, if_neg (by omega), if_neg (by omega), if_pos (by simpa using hc2)], rfl, rfl⟩
theorem clone_tri (f : XFeeder) (L : List Blk) (R : List Sl) (hf : FeederR f R) (hn : f.switches.l.length ≤ 1000 ∧ f.zones.l.length ≤ 1000) :
    Tri Try.prog 118 [f.val].toArray L R (fun v L' R' => ∃ (p : OwL XSwitch) (q : OwL Int), v = .agg #[p.val, q.val, .int .i64 f.reply] ∧ (p.ok 5 XSwitch.cells ∧ q.ok 1 icell) ∧ p.l = f.switches.l ∧ q.l = f.zones.l ∧ q.L 3 icell ++ (p.L 98 XSwitch.cells ++ L) = L' ∧ R = R') := by
  have hsR := hf.sw
  have hzR := hf.zn
  refine tri_enter 12 Try.call118 Try.func118 rfl rfl rfl ?_
  refine qae ?_
  refine qax ?_
  intro b1
  refine qaq ?_
  intro b2
  refine qam ?_
  refine qab ?_
  refine qac ?_
  refine LJ_g (gives_copy (f := XSwitch.cells) (xs := f.switches) tb rfl rfl rfl (by decide) rfl rfl (hsR) (fun _ => rfl) (by omega)) rfl ?_
  rintro v L' R' ⟨o5, rfl, hok5, rfl, rfl⟩
  refine qab ?_
  refine qcy ?_
  refine qam ?_
  refine qab ?_
  refine qac ?_
  refine LJ_g (gives_copy (f := icell) (xs := f.zones) tb rfl rfl rfl (by decide) rfl rfl (hzR) (fun _ => rfl) (by omega)) rfl ?_
  rintro v L' R' ⟨o9, rfl, hok9, rfl, rfl⟩
  refine qab ?_
  refine qcy ?_
  refine qam ?_
  refine yb5aa ?_
  refine qak ?_
  refine qa0 ?_
  refine q_r (L' := (⟨o9, f.zones.l⟩ : OwL Int).L 3 icell ++ ((⟨o5, f.switches.l⟩ : OwL XSwitch).L 98 XSwitch.cells ++ L)) (R' := R) (res1 rfl (rv_cell (row := [_, _, _]) tb rfl rfl rfl (by repeat (first | exact zi0 | apply zi1 | apply zi2)) (by rfl) (by rfl))) ?_
  exact ⟨⟨o5, f.switches.l⟩, ⟨o9, f.zones.l⟩, rfl, ⟨hok5, hok9⟩, rfl, rfl, rfl, rfl⟩

def closeE (sw : List XSwitch) (zn : List Int) (rp s t : Int) : Int :=
  if canE sw zn rp s t ≠ 0 then canE sw zn rp s t
  else if (sw.getD s.toNat default).shown ≠ -1 ∨ (0 ≤ (sw.getD s.toNat default).above ∧ (sw.getD (sw.getD s.toNat default).above.toNat default).shown ≠ 1) then 10 else 0
def closeSw (sw : List XSwitch) (s t : Int) : List XSwitch := sw.set s.toNat ⟨(sw.getD s.toNat default).above, t, 0, true, false⟩
theorem feedClose_tri (f : XFeeder) (s t : Int) (L : List Blk) (R : List Sl) (hf : FeederR f R) :
    Tri Try.prog 81 [f.val, .int .i64 s, .int .i64 t].toArray L R (fun v L' R' => ∃ (p : OwL XSwitch) (q : OwL Int) (r : Int), v = .tuple #[.agg #[p.val, q.val, .int .i64 r], .int .i64 (closeE f.switches.l f.zones.l f.reply s t)] ∧ (p.ok 5 XSwitch.cells ∧ q.ok 1 icell) ∧
      (closeE f.switches.l f.zones.l f.reply s t = 0 → p.l = closeSw f.switches.l s t ∧ q.l = f.zones.l ∧ r = f.reply) ∧ q.L 3 icell ++ (p.L 98 XSwitch.cells ++ L) = L' ∧ R = R') := by
  have hsR := hf.sw
  refine tri_enter 54 Try.call81 Try.func81 rfl rfl rfl ?_
  refine qae ?_
  refine qax ?_
  intro b3
  refine qaq ?_
  intro b6
  refine qad ?_
  refine qaw ?_
  refine yb5aa ?_
  refine qaa ?_
  refine qaa ?_
  refine q_l rfl (feedCan_tri f s t _ _ hf) ?_
  refine qad ?_
  refine qam ?_
  refine qaa ?_
  refine qbq ?_
  refine qaf ?_
  refine q_c (fun hc0 => ?_) (fun hc0 => ?_)
  ·
   refine qae ?_
   refine LJ_q (yv_build (qs := []) (out := [_, _, _]) tb rfl rfl rfl rfl) rfl ?_
   refine qaa ?_
   refine qak ?_
   refine qad ?_
   refine qbh ?_
   refine q_r (L' := L) (R' := R) (res2 rfl (rv_cell (row := [_, _, _]) tb rfl rfl rfl (by repeat (first | exact zi0 | apply zi1 | apply zi2)) (by rfl) (by rfl)) (rv_tmp (show _ = Value.int _ _ from rfl))) ?_
   have he : closeE f.switches.l f.zones.l f.reply s t = canE f.switches.l f.zones.l f.reply s t := by rw [closeE, if_pos hc0]
   exact yb5ab
  have hcan : canE f.switches.l f.zones.l f.reply s t = 0 := by omega
  have hfe : feedE f.switches.l f.zones.l f.reply = 0 := by
    rw [canE] at hcan
    split at hcan <;> omega
  have hok := feedOk_of hfe
  have hsn := hok.sn
  have hzl := hok.zl
  have hsr : 0 ≤ s ∧ s < f.switches.l.length := by
    rw [canE, if_neg (by omega)] at hcan
    split at hcan <;> omega
  have hg := get_D (l := f.switches.l) (k := s.toNat) default (by omega)
  have hup := hok.up s.toNat (by omega)
  obtain ⟨x, hx⟩ : ∃ x, x = f.switches.l.getD s.toNat default := ⟨_, rfl⟩
  rw [← hx] at hg hup
  refine qbv ?_
  refine qab ?_
  refine qac ?_
  refine qaa ?_
  refine LJ_q (by first | exact yv_index_ro tb rfl rfl rfl rfl (by first | assumption | exact zr (by simp)) (i := s.toNat) (by first | rfl | omega | (simp; omega)) (by omega) | exact yv_index tb rfl rfl rfl rfl (i := s.toNat) (by first | rfl | omega | (simp; omega)) (by omega)) rfl ?_
  refine qdw ?_
  refine qaq ?_
  intro b9
  refine qak ?_
  refine qaw ?_
  refine qab ?_
  refine qac ?_
  refine qbq ?_
  refine qah ?_
  apply LJ_or (G := [_, _, _, _, _, _, _, _, _, _, _, _, _]) (j := 3) (cj := 27) rfl rfl (by rfl) rfl (show _ = Value.bool _ from rfl) rfl
  ·
   intro hg4
   replace hg4 := qb hg4
   refine qab ?_
   refine qac ?_
   refine qbz ?_
   refine qah ?_
   apply LJ_and (G := [_, _, _, _, _, _, _, _]) (j := 7) (cj := 31) rfl rfl (by rfl) rfl (show _ = Value.bool _ from rfl) rfl
   ·
    intro hg8
    replace hg8 := qb hg8
    have hga := get_D (l := f.switches.l) (k := x.above.toNat) default (by omega)
    refine qab ?_
    refine qac ?_
    refine qab ?_
    refine qac ?_
    refine LJ_q (by first | exact yv_index_ro tb rfl rfl rfl rfl (by first | assumption | exact zr (by simp)) (i := x.above.toNat) (by first | rfl | omega | (simp; omega)) (by omega) | exact yv_index tb rfl rfl rfl rfl (i := x.above.toNat) (by first | rfl | omega | (simp; omega)) (by omega)) rfl ?_
    refine qb0 ?_
    refine qa7 ?_
    refine qbq ?_
    exact qai
   intro junk8
   exact qai
  intro junk4
  refine qaf ?_
  refine q_c (fun hc1 => ?_) (fun hc1 => ?_)
  ·
   refine qae ?_
   refine LJ_q (yv_build (qs := []) (out := [_, _, _]) tb rfl rfl rfl rfl) rfl ?_
   refine qak ?_
   refine qad ?_
   refine qbh ?_
   refine q_r (L' := L) (R' := R) (res2 rfl (rv_cell (row := [_, _, _]) tb rfl rfl rfl (by repeat (first | exact zi0 | apply zi1 | apply zi2)) (by rfl) (by rfl)) (rv_tmp (show _ = Value.int _ _ from rfl))) ?_
   have he : closeE f.switches.l f.zones.l f.reply s t = 10 := by rw [closeE, if_neg (by omega), ← hx, if_pos (by omega)]
   exact yb5ab
  have he : closeE f.switches.l f.zones.l f.reply s t = 0 := by rw [closeE, if_neg (by omega), ← hx, if_neg (by omega)]
  refine qbv ?_
  refine yb5aa ?_
  refine LJ_call rfl (clone_tri f _ _ hf (by omega)) rfl ?_
  rintro v L' R' ⟨p, q, rfl, ⟨hpk, hqk⟩, hpl, hql, rfl, rfl⟩
  refine qaq ?_
  intro b10
  refine qak ?_
  refine qa4 ?_
  have hpg : p.l[s.toNat]? = some x := by rw [hpl]; exact hg
  have hpn : p.l.length = f.switches.l.length := by rw [hpl]
  refine qay ?_
  refine qab ?_
  refine qac ?_
  refine qaa ?_
  refine qab ?_
  refine qac ?_
  refine qaa ?_
  refine LJ_q (yv_build (qs := [(0, (Value.int _ _).cells.toList), (1, (Value.int _ _).cells.toList), (3, (Value.bool _).cells.toList)]) (out := [_, _, _, _, _]) tb rfl rfl rfl rfl) rfl ?_
  refine LJ_q (yv_index_ow tb (p) _ rfl rfl rfl rfl (by assumption) (i := s.toNat) (by first | rfl | omega | (simp; omega)) (by first | omega | (dsimp only; omega) | (dsimp only; rw [List.length_set]; omega) | (dsimp only; simp only [List.length_set]; omega))) rfl ?_
  refine LJ_g0 (gives_storeN_ow tb (p) (⟨x.above, t, 0, true, false⟩) rfl rfl rfl rfl (by repeat (first | apply OSeg.cons | exact OSeg.here | exact OSeg.last | exact OSeg.at (by assumption) | apply OSeg.app)) (by assumption) (fun _ => rfl) (by assumption) (Nat.le_of_ble_eq_true rfl) (by rfl) (by rfl)) ?_
  rintro v L' R' ⟨rfl, rfl⟩
  refine qa4 ?_
  have hpk2 := OwL.set_ok (f := XSwitch.cells) (wd := 5) (p := p) (i := s.toNat) (x := ⟨x.above, t, 0, true, false⟩) (fun _ => rfl) hpk
  refine qay ?_
  refine yb5aa ?_
  refine qak ?_
  refine qad ?_
  refine qa0 ?_
  refine q_r (L' := q.L 3 icell ++ ((⟨p.o, p.l.set s.toNat ⟨x.above, t, 0, true, false⟩⟩ : OwL XSwitch).L 98 XSwitch.cells ++ L)) (R' := R) (res2 rfl (rv_cell (row := [_, _, _]) tb rfl rfl rfl (by repeat (first | exact zi0 | apply zi1 | apply zi2)) (by rfl) (by rfl)) (rv_tmp (show _ = Value.int _ _ from rfl))) ?_
  exact ⟨⟨p.o, p.l.set s.toNat ⟨x.above, t, 0, true, false⟩⟩, q, f.reply, by simp only [he, OwL.val, List.length_set], ⟨hpk2, hqk⟩, fun _ => ⟨by rw [closeSw, ← hx, hpl], hql, rfl⟩, rfl, rfl⟩
end Go.Proofs.Ytkpfjmibipblhaa
end
section
/-
  Power networks: the reference's Answer, Live and Same. By an AI agent; no person has read it.
-/
set_option linter.unusedSimpArgs false
set_option linter.unusedVariables false
namespace Go.Proofs.Ytkpfjmibipblhaa
open Go.Aw Go
set_option maxRecDepth 20000
attribute [local irreducible] CJ LJ DJ Tri YV Gives seqK blockK loopK retK RV mergeK OwL.L
section
variable {A9 B9 : Prop}
theorem yb6aa (a : A9) (h : A9 → B9 := by exact DJ_q (by first | exact yv_loadN_ro (row := [_, _, _, _, _]) tb rfl rfl rfl (by first | assumption | exact zr (by simp)) (by assumption) (by rfl) (by rfl) | exact yv_loadN (row := [_, _, _, _, _]) tb rfl rfl rfl (by repeat (first | exact zi0 | apply zi1 | apply zi2)) (by rfl) (by rfl)) rfl rfl rfl) : B9 := h a
end
theorem pathS_mem {sw : List XSwitch} (h : UpOk sw) : ∀ (n : Nat) (s : Int), s < sw.length → (s + 1).toNat ≤ n → ∀ x ∈ pathS sw s, 0 ≤ x ∧ x ≤ s := by
  intro n
  induction n with
  | zero => intro s _ hn; rw [pathS_neg (by omega)]; intro x hx; cases hx
  | succ n ih =>
    intro s hs hn x hx
    by_cases h0 : s < 0
    · rw [pathS_neg h0] at hx; cases hx
    · have ha := h s.toNat (by omega)
      rw [pathS_step h (by omega) hs, List.mem_cons] at hx
      rcases hx with rfl | hx
      · omega
      · have := ih _ (by omega) (by omega) x hx
        omega
theorem pathL_mem {sw : List XSwitch} {zn : List Int} {rp s : Int} {x : Int} (hx : x ∈ pathL sw zn rp s) : 0 ≤ x ∧ x ≤ s ∧ s < sw.length := by
  rw [pathL] at hx
  split at hx
  · cases hx
  · have hok := feedOk_of (sw := sw) (zn := zn) (rp := rp) (by omega)
    have := pathS_mem hok.up _ s (by omega) (Nat.le_refl _) x hx
    omega
theorem pathL_len {sw : List XSwitch} {zn : List Int} {rp s : Int} : (pathL sw zn rp s).length ≤ 32 := by
  rw [pathL]
  split
  · simp
  · have hok := feedOk_of (sw := sw) (zn := zn) (rp := rp) (by omega)
    have h1 := hok.sn
    have := pathS_len hok.up _ s (by omega) (Nat.le_refl _)
    omega
theorem sameFeeder_tri (f g : XFeeder) (L : List Blk) (R : List Sl) (hf : FeederR f R) (hg : FeederR g R) (h1 : f.switches.l = g.switches.l) (h2 : f.zones.l = g.zones.l) (h3 : f.reply = g.reply) :
    Tri Try.prog 42 [f.val, g.val].toArray L R (fun v L' R' => v = .bool true ∧ L = L' ∧ R = R') := by
  have hsR := hf.sw
  have hzR := hf.zn
  have hsR2 := hg.sw
  have hzR2 := hg.zn
  have hl1 : f.switches.l.length = g.switches.l.length := by rw [h1]
  have hl2 : f.zones.l.length = g.zones.l.length := by rw [h2]
  refine Tri_cap Try.call42 hsR fun hcap => ?_
  refine Tri_cap Try.call42 hzR fun hcap2 => ?_
  refine tri_enter 66 Try.call42 Try.func42 rfl rfl rfl ?_
  refine qae ?_
  refine qax ?_
  intro b2
  refine qax ?_
  intro b3
  refine qaz ?_
  refine qaw ?_
  refine qab ?_
  refine qac ?_
  refine qab ?_
  refine qac ?_
  refine qbq ?_
  refine qah ?_
  apply LJ_or (G := [_, _, _, _, _, _, _]) (j := 5) (cj := 12) rfl rfl (by rfl) rfl (show _ = Value.bool _ from rfl) rfl
  ·
   intro hg6
   replace hg6 := qb hg6
   refine qab ?_
   refine qac ?_
   refine qag ?_
   refine qab ?_
   refine qac ?_
   refine qag ?_
   refine qbq ?_
   exact qai
  intro junk6
  refine qah ?_
  apply LJ_or (G := [_, _, _, _, _, _, _]) (j := 14) (cj := 21) rfl rfl (by rfl) rfl (show _ = Value.bool _ from rfl) rfl
  ·
   intro hg15
   replace hg15 := qb hg15
   refine qab ?_
   refine qac ?_
   refine qag ?_
   refine qab ?_
   refine qac ?_
   refine qag ?_
   refine qbq ?_
   exact qai
  intro junk15
  refine qaf ?_
  refine q_c (fun hc0 => ?_) (fun hc0 => ?_)
  ·
   refine qae ?_
   refine qaz ?_
   refine qbh ?_
   refine q_b (L' := L) (R' := R) ?_
   exact absurd h3 (by omega)
  refine qbo ?_
  refine qad ?_
  refine qa2 ?_
  refine CJ_forget [(2, Value.pointer _), (3, Value.pointer _), (5, Value.int _ _)] (by repeat' (first | exact trivial | refine And.intro rfl ?_)) fun tq0 => ?_
  refine q_s [4, 5, 30, 31, 32, 33, 34, 35, 36, 37, 38, 39, 40, 41, 42, 43, 44, 45, 46, 47] (fun g : {k : Nat // k ≤ f.switches.l.length} => [(5, .int .i64 ((g.1 : Nat) : Int))]) (fun g => f.switches.l.length - g.1) (⟨0, by omega⟩) ?_
  rintro ⟨k, hk⟩ junk
  try dsimp only
  refine qbi ?_
  refine qaa ?_
  refine qab ?_
  refine qac ?_
  refine qag ?_
  refine qaj ?_
  refine qaf ?_
  refine q_c (fun hc1 => ?_) (fun hc1 => ?_)
  ·
   have hxg := get_D (l := f.switches.l) (k := k) default (by omega)
   have hyg : g.switches.l[k]? = some (f.switches.l.getD k default) := by rw [← h1]; exact hxg
   refine CJ_skip (seqK_normal (CJ_seq (CJ_block (CJ_seq ?_))))
   refine CJ_drawn tb [0, 1, 2, 3, 4, 5, 6, 7, 8, 9, 10] _ mixed (by kernel_rfl) (List.Sublist.refl _) ?_
   refine qal ?_
   refine qat ?_
   refine qao ?_
   refine qds ?_
   refine yb6aa ?_
   refine qal ?_
   refine qat ?_
   refine qao ?_
   refine qds ?_
   refine yb6aa ?_
   refine DJ_q (yv_neq_str switchEq rfl rfl (by repeat (first | exact trivial | refine ⟨trivial, ?_⟩)) (by repeat (first | exact trivial | refine ⟨trivial, ?_⟩)) rfl) rfl rfl rfl ?_
   refine qbu ?_
   refine q_c (fun hc2 => ?_) (fun hc2 => ?_)
   ·
    refine qae ?_
    refine qaz ?_
    refine qbt ?_
    refine q_b (L' := L) (R' := R) ?_
    exact absurd hc2 (by simp [cellsEq, cellEq])
   refine qbj ?_
   refine qaa ?_
   refine qar ?_
   refine qad ?_
   refine qav ?_
   exact q_k (⟨k + 1, by omega⟩)
  refine qcf ?_
  refine qad ?_
  refine qa2 ?_
  refine CJ_forget [(2, Value.pointer _), (3, Value.pointer _), (6, Value.int _ _)] (by repeat' (first | exact trivial | refine And.intro rfl ?_)) fun tq1 => ?_
  refine q_s [4, 6, 48, 49, 50, 51, 52, 53, 54, 55, 56, 57, 58, 59, 60, 61, 62, 63, 64, 65] (fun g : {k : Nat // k ≤ f.zones.l.length} => [(6, .int .i64 ((g.1 : Nat) : Int))]) (fun g => f.zones.l.length - g.1) (⟨0, by omega⟩) ?_
  rintro ⟨k, hk⟩ junk
  try dsimp only
  refine qbi ?_
  refine qaa ?_
  refine qab ?_
  refine qac ?_
  refine qag ?_
  refine qaj ?_
  refine qaf ?_
  refine q_c (fun hc3 => ?_) (fun hc3 => ?_)
  ·
   have hxg := get_D (l := f.zones.l) (k := k) 0 (by omega)
   have hyg : g.zones.l[k]? = some (f.zones.l.getD k 0) := by rw [← h2]; exact hxg
   refine CJ_skip (seqK_normal (CJ_seq (CJ_block (CJ_seq ?_))))
   refine CJ_drawn tb [0, 1, 2, 3, 4, 5, 6, 7, 8, 9, 10] _ mixed (by kernel_rfl) (List.Sublist.refl _) ?_
   refine qal ?_
   refine qat ?_
   refine qao ?_
   refine qds ?_
   refine qbl ?_
   refine qal ?_
   refine qat ?_
   refine qao ?_
   refine qds ?_
   refine qbl ?_
   refine DJ_q (yv_neq rfl rfl) rfl rfl rfl ?_
   refine qbu ?_
   refine q_c (fun hc4 => ?_) (fun hc4 => ?_)
   ·
    refine qae ?_
    refine qaz ?_
    refine qbt ?_
    refine q_b (L' := L) (R' := R) ?_
    exact absurd hc4 (by simp)
   refine qbj ?_
   refine qaa ?_
   refine qar ?_
   refine qad ?_
   refine qav ?_
   exact q_k (⟨k + 1, by omega⟩)
  refine qbk ?_
  refine qaz ?_
  refine qa0 ?_
  refine q_b (L' := L) (R' := R) ?_
  exact ⟨rfl, rfl, rfl⟩
end Go.Proofs.Ytkpfjmibipblhaa
end
