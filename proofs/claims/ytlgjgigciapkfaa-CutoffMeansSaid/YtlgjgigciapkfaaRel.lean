import Derived.Test.YtlgjgigciapkfaaComp
import Derived.Test.YtlgjgigciapkfaaNets
section
/-
  Raising and lowering, in plain numbers: P12.1 and P12.2. By an AI agent; no person has read it.
-/
set_option linter.unusedSimpArgs false
set_option linter.unusedVariables false
namespace Go.Proofs.Ytlgjgigciapkfaa
open Go.Aw Go

theorem Tri.turn {P : Program} {f : FuncId} {args : Array Value} {L : List Blk} {R : List Sl} {Post Post' : VPost} (h : Tri P f args L R Post)
    (k : ∀ v L' R', Post v L' R' → ∃ L'' R'', L'.Perm L'' ∧ (∀ r ∈ R'', InR r R') ∧ Post' v L'' R'') : Tri P f args L R Post' :=
  ⟨h.1, fun w G hh => (h.2 w G hh).mono fun e w' ⟨v, L', R', he, hp, hst⟩ => by
    obtain ⟨L'', R'', h1, h2, h3⟩ := k v L' R' hp
    exact ⟨v, L'', R'', he, h3, (hst.perm h1).weak (List.Sublist.refl _) h2⟩⟩
def nextS (g : Int → Bool) (start : Int) (up : Bool) : Option Int :=
  ((List.range ((room up start).toNat + 1)).find? fun (m : Nat) => g (start + sgn up * (m : Int))).map fun (m : Nat) => start + sgn up * (m : Int)
theorem nextS_some {g : Int → Bool} {start : Int} {up : Bool} {v : Int} (h : First g start up v true) : nextS g start up = some v := by
  obtain ⟨m, m0, m1, mv, mg, mj⟩ := h.yes rfl
  have e : (List.range ((room up start).toNat + 1)).find? (fun (m : Nat) => g (start + sgn up * (m : Int))) = some m.toNat := by
    rw [List.find?_range_eq_some]
    refine ⟨?_, List.mem_range.2 (by omega), fun j hj => ?_⟩
    · rw [Int.toNat_of_nonneg m0, ← mv]; exact mg
    · rw [mj j (by omega) (by omega)]; rfl
  rw [nextS, e, Option.map_some, Int.toNat_of_nonneg m0, mv]
theorem nextS_none {g : Int → Bool} {start : Int} {up : Bool} {v : Int} (h0 : 0 ≤ room up start) (h : First g start up v false) : nextS g start up = none := by
  obtain ⟨_, hj⟩ := h.no rfl
  have e : (List.range ((room up start).toNat + 1)).find? (fun (m : Nat) => g (start + sgn up * (m : Int))) = none := by
    rw [List.find?_range_eq_none]
    intro i hi
    rw [hj i (by omega) (by omega)]; rfl
  rw [nextS, e]; rfl
theorem first_nextS {g : Int → Bool} {start : Int} {up : Bool} {v : Int} (h0 : 0 ≤ room up start) (h : nextS g start up = some v) : First g start up v true := by
  unfold nextS at h
  obtain ⟨m, hm, rfl⟩ := Option.map_eq_some_iff.1 h
  rw [List.find?_range_eq_some] at hm
  obtain ⟨h1, h2, h3⟩ := hm
  have h2' := List.mem_range.1 h2
  refine ⟨fun _ => ⟨m, by omega, by omega, rfl, h1, fun j j0 j1 => ?_⟩, fun h => by cases h⟩
  have := h3 j.toNat (by omega)
  rw [Int.toNat_of_nonneg j0] at this
  cases e : g (start + sgn up * j) with
  | false => rfl
  | true => rw [e] at this; cases this
theorem first_next {g : Int → Bool} {start : Int} {up : Bool} {v : Int} {ok : Bool} (h0 : 0 ≤ room up start) (h : First g start up v ok) : v = (nextS g start up).getD 0 ∧ ok = (nextS g start up).isSome := by
  cases ok with
  | true => rw [nextS_some h]; exact ⟨rfl, rfl⟩
  | false => rw [nextS_none h0 h]; exact ⟨(h.no rfl).1, rfl⟩
attribute [irreducible] nextS

def testG (a : XAir) (s : XSetting) (up : Bool) (l : List Int) (v : Int) : Int → Bool := if up = true then lowG a s l v else highG a s l v
def nextAt (a : XAir) (s : XSetting) (up : Bool) (l : List Int) (k : Nat) : Option Int := nextS (testG a s up l k) (l.getD k 0) up
abbrev fixB (a : XAir) (A : List Bool) (k : Nat) : Bool := !(A.getD k false) || (a.mine.places.l.getD k default).surface
def sweepTo (a : XAir) (s : XSetting) (A : List Bool) (up : Bool) (l : List Int) : Nat → Option (List Int)
  | 0 => some l
  | k + 1 => (sweepTo a s A up l k).bind fun m => if fixB a A k = true then some m else (nextAt a s up m k).map fun v => m.set k v
def roundsS (a : XAir) (s : XSetting) (A : List Bool) (up : Bool) : Nat → List Int → Option (List Int)
  | 0, _ => none
  | n + 1, l => match sweepTo a s A up l a.mine.places.l.length with
    | none => none
    | some m => if m = l then some m else roundsS a s A up n m
def startBad (a : XAir) (ps : List Int) (A : List Bool) (i : Nat) : Option Int := if fixB a A i = true ∧ ps.getD i 0 ≠ 0 then some 12 else none
def startErr (a : XAir) (s : XSetting) (ps : List Int) (A : List Bool) : Int :=
  if airErr a ≠ 0 then airErr a else if fitB a s = false then 21 else if ps.length ≠ a.mine.places.l.length then 11
  else if (ps.findSome? presBad).isSome = true then 1 else ((List.range a.mine.places.l.length).findSome? (startBad a ps A)).getD 0
def relaxS (a : XAir) (s : XSetting) (A : List Bool) (up : Bool) (ps : List Int) : Int × List Int :=
  if startErr a s ps A ≠ 0 then (startErr a s ps A, []) else match roundsS a s A up 200 ps with
    | none => (2, [])
    | some l => (0, l)
def solveS (a : XAir) (s : XSetting) (A : List Bool) : Int × List Int × List Int :=
  let p := relaxS a s A false (List.replicate a.mine.places.l.length 0)
  if p.1 ≠ 0 then (p.1, [], []) else
    let q := relaxS a s A true p.2
    if q.1 ≠ 0 then (q.1, [], []) else
      let r := relaxS a s A false q.2
      if r.1 ≠ 0 then (r.1, [], []) else (0, r.2, q.2)

structure StartOk (a : XAir) (s : XSetting) (ps : List Int) (A : List Bool) : Prop where
  h0 : airErr a = 0
  hf : fitB a s = true
  hl : ps.length = a.mine.places.l.length
  hp : PresOk ps
  fix : ∀ i : Nat, i < a.mine.places.l.length → fixB a A i = true → ps.getD i 0 = 0
theorem startErr_iff {a : XAir} {s : XSetting} {ps : List Int} {A : List Bool} : startErr a s ps A = 0 ↔ StartOk a s ps A := by
  constructor
  · intro h
    unfold startErr at h
    split at h
    · rename_i h1; exact absurd h h1
    rename_i h1
    split at h
    · cases h
    rename_i h2
    split at h
    · cases h
    rename_i h3
    split at h
    · cases h
    rename_i h4
    refine ⟨by omega, by simpa using h2, by omega, presOk_of (by simpa using h4), fun i hi hf => ?_⟩
    have hn : (List.range a.mine.places.l.length).findSome? (startBad a ps A) = none := by
      cases e : (List.range a.mine.places.l.length).findSome? (startBad a ps A) with
      | none => rfl
      | some v =>
        obtain ⟨j, _, hj⟩ := List.exists_of_findSome?_eq_some e
        unfold startBad at hj
        split at hj
        · cases hj; rw [e] at h; cases h
        · cases hj
    rw [List.findSome?_eq_none_iff] at hn
    have := hn i (List.mem_range.2 hi)
    unfold startBad at this
    split at this
    · cases this
    · rename_i h5
      exact Decidable.not_not.1 fun h6 => h5 ⟨hf, h6⟩
  · intro h
    rw [startErr, if_neg (by rw [h.h0]; decide), if_neg (by rw [h.hf]; decide), if_neg (by rw [h.hl]; simp), if_neg (by rw [presOk_none h.hp]; simp), List.findSome?_eq_none_iff.2 (fun i hi => show startBad a ps A i = none from if_neg (fun h' => h'.2 (h.fix i (List.mem_range.1 hi) h'.1)))]
    rfl

theorem nextAt_pres {a : XAir} {s : XSetting} {up : Bool} {l : List Int} {k : Nat} {v : Int} (h : PresOk l) (hv : nextAt a s up l k = some v) : -70368744177664 ≤ v ∧ v ≤ 70368744177664 := by
  obtain ⟨m, m0, m1, mv, _, _⟩ := (first_nextS (room_in (h.get k)).1 hv).yes rfl
  rw [mv]
  exact sgn_in (h.get k) ⟨m0, m1⟩
structure Swept (a : XAir) (s : XSetting) (A : List Bool) (up : Bool) (l : List Int) (k : Nat) (m : List Int) : Prop where
  to : sweepTo a s A up l k = some m
  len : m.length = l.length
  pres : PresOk m
  rest : ∀ j : Nat, k ≤ j → m[j]? = l[j]?
theorem Swept.zero {a : XAir} {s : XSetting} {A : List Bool} {up : Bool} {l : List Int} (h : PresOk l) : Swept a s A up l 0 l := ⟨rfl, rfl, h, fun _ _ => rfl⟩
theorem Swept.skip {a : XAir} {s : XSetting} {A : List Bool} {up : Bool} {l m : List Int} {k : Nat} (h : Swept a s A up l k m) (hf : fixB a A k = true) : Swept a s A up l (k + 1) m :=
  ⟨by rw [sweepTo, h.to, Option.bind_some, if_pos hf], h.len, h.pres, fun j hj => h.rest j (by omega)⟩
theorem Swept.fail {a : XAir} {s : XSetting} {A : List Bool} {up : Bool} {l m : List Int} {k : Nat} (h : Swept a s A up l k m) (hf : ¬ fixB a A k = true) (hn : nextAt a s up m k = none) : ∀ n, k + 1 ≤ n → sweepTo a s A up l n = none := by
  intro n hn2
  induction n with
  | zero => omega
  | succ n ih =>
    rcases Nat.lt_or_ge k n with h1 | h1
    · rw [sweepTo, ih (by omega)]; rfl
    · obtain rfl : n = k := by omega
      rw [sweepTo, h.to, Option.bind_some, if_neg hf, hn]; rfl
theorem Swept.next {a : XAir} {s : XSetting} {A : List Bool} {up : Bool} {l m : List Int} {k : Nat} (h : Swept a s A up l k m) (hf : ¬ fixB a A k = true) {v : Int} (hv : nextAt a s up m k = some v) : Swept a s A up l (k + 1) (m.set k v) :=
  ⟨by rw [sweepTo, h.to, Option.bind_some, if_neg hf, hv]; rfl, by rw [List.length_set]; exact h.len, h.pres.set _ (nextAt_pres h.pres hv), fun j hj => by rw [List.getElem?_set_ne (by omega)]; exact h.rest j (by omega)⟩
theorem Swept.flag {a : XAir} {s : XSetting} {A : List Bool} {up : Bool} {l m : List Int} {k : Nat} (h : Swept a s A up l k m) (hk : k < l.length) (v : Int) : decide (m.set k v ≠ l) = (decide (m ≠ l) || decide (v ≠ m.getD k 0)) := by
  have hlen := h.len
  have hg := get_D (l := m) (k := k) 0 (by omega)
  by_cases h1 : v = m.getD k 0
  · rw [h1, set_self]; simp
  · have h2 : m.set k v ≠ l := fun e => by
      have h3 := h.rest k (Nat.le_refl _)
      rw [← e, List.getElem?_set_self (by omega), hg] at h3
      exact h1 (Option.some.inj h3).symm
    rw [decide_eq_true h2, decide_eq_true h1, Bool.or_true]
theorem rounds_next {a : XAir} {s : XSetting} {A : List Bool} {up : Bool} {n : Nat} {l m : List Int} (hs : sweepTo a s A up l a.mine.places.l.length = some m) (hne : m ≠ l) : roundsS a s A up (n + 1) l = roundsS a s A up n m := by
  rw [roundsS, hs]; exact if_neg hne
theorem rounds_done {a : XAir} {s : XSetting} {A : List Bool} {up : Bool} {n : Nat} {l : List Int} (hs : sweepTo a s A up l a.mine.places.l.length = some l) : roundsS a s A up (n + 1) l = some l := by
  rw [roundsS, hs]; exact if_pos rfl
theorem rounds_fail {a : XAir} {s : XSetting} {A : List Bool} {up : Bool} {n : Nat} {l : List Int} (hs : sweepTo a s A up l a.mine.places.l.length = none) : roundsS a s A up (n + 1) l = none := by
  rw [roundsS, hs]

theorem sweepTo_swept {a : XAir} {s : XSetting} {A : List Bool} {up : Bool} {l : List Int} (hl : PresOk l) : ∀ {k : Nat} {m : List Int}, sweepTo a s A up l k = some m → Swept a s A up l k m
  | 0, m, h => by cases h; exact .zero hl
  | k + 1, m, h => by
    have h' := h
    rw [sweepTo, Option.bind_eq_some_iff] at h'
    obtain ⟨m1, h1, h2⟩ := h'
    have ih := sweepTo_swept hl h1
    split at h2
    · rename_i hf
      cases h2
      exact ih.skip hf
    · rename_i hf
      obtain ⟨v, hv, rfl⟩ := Option.map_eq_some_iff.1 h2
      exact ih.next hf hv
theorem roundsS_some {a : XAir} {s : XSetting} {A : List Bool} {up : Bool} : ∀ {n : Nat} {l m : List Int}, PresOk l → roundsS a s A up n l = some m → m.length = l.length ∧ PresOk m ∧ sweepTo a s A up m a.mine.places.l.length = some m
  | 0, l, m, _, h => by cases h
  | n + 1, l, m, hl, h => by
    rw [roundsS] at h
    split at h
    · cases h
    · rename_i m1 h1
      have hs := sweepTo_swept hl h1
      split at h
      · rename_i e
        cases h
        subst e
        exact ⟨rfl, hl, h1⟩
      · obtain ⟨k1, k2, k3⟩ := roundsS_some hs.pres h
        exact ⟨k1.trans hs.len, k2, k3⟩
theorem relaxS_ok {a : XAir} {s : XSetting} {A : List Bool} {up : Bool} {ps : List Int} (h : (relaxS a s A up ps).1 = 0) : StartOk a s ps A ∧ roundsS a s A up 200 ps = some (relaxS a s A up ps).2 := by
  unfold relaxS at h ⊢
  split at h
  · rename_i h1; exact absurd h h1
  · rename_i h1
    rw [if_neg h1]
    refine ⟨startErr_iff.1 (by omega), ?_⟩
    split at h
    · cases h
    · rename_i l e; rw [e]
end Go.Proofs.Ytlgjgigciapkfaa
end
section
/-
  The reference's raising and lowering. By an AI agent; no person has read it.
-/
set_option linter.unusedSimpArgs false
set_option linter.unusedVariables false
namespace Go.Proofs.Ytlgjgigciapkfaa
open Go.Aw Go
set_option maxRecDepth 20000
attribute [local irreducible] CJ LJ DJ Tri YV Gives seqK blockK loopK retK RV mergeK OwL.L

section
variable {A9 B9 : Prop}
theorem yazaa (a : A9) (h : A9 → B9 := by exact LJ_q (yv_index_ow tb ((⟨o26, m⟩ : OwL Int)) _ rfl rfl ((show _ = Value.slice _ _ _ from rfl).trans (by simp only [OwL.val, hml, w3])) rfl (by assumption) (i := i) (by first | rfl | omega | (simp; omega)) (by first | omega | (dsimp only; omega) | (dsimp only; rw [List.length_set]; omega))) rfl) : B9 := h a
theorem yazab (h : B9 := by exact ⟨OwL.nil, by rw [hrn]; rfl, OwL.nil_ok, by rw [hrn], by rw [nil_L, List.nil_append], rfl⟩) : B9 := h
theorem yazac (a : A9) (h : A9 → B9 := by exact LJ_q (yv_load1_ow tb (p) rfl rfl rfl (by repeat (first | apply OSeg.cons | exact OSeg.here | exact OSeg.last | exact OSeg.at (by assumption) | apply OSeg.app)) (by assumption) (fun _ => rfl) (by assumption) (by rfl)) rfl) : B9 := h a
theorem yazad (a : A9) (h : A9 → B9 := by exact LJ_q (yv_load1_ow tb ((⟨o26, m⟩ : OwL Int)) rfl rfl rfl (by repeat (first | apply OSeg.cons | exact OSeg.here | exact OSeg.last | exact OSeg.at (by assumption) | apply OSeg.app)) (by assumption) (fun _ => rfl) (by assumption) (by rfl)) rfl) : B9 := h a
theorem yazae (a : A9) (h : A9 → B9 := by exact LJ_g0 (gives_store1_ow tb ((⟨o26, m⟩ : OwL Int)) (u) rfl rfl rfl rfl (by repeat (first | apply OSeg.cons | exact OSeg.here | exact OSeg.last | exact OSeg.at (by assumption) | apply OSeg.app)) (by assumption) (fun _ => rfl) (by assumption) (by decide) (by rfl) (by rfl))) : B9 := h a
theorem yazaf (h : B9 := by exact loopK_mk ⟨(i + 1, m.set i u), by dsimp only; omega, q2.next hfi hv, OwL.len_ok icell_len q3 (by simp)⟩ (by repeat (first | exact Off.refl | apply Off.upd rfl | apply Off.havoc rfl | apply Off.updL rfl | apply Off.left rfl)) ⟨rfl, by dsimp only; rw [hfl]; rfl, trivial⟩ (by repeat (first | exact zs0 _ | exact zs1 _ | apply zs2 | apply zs3 | apply zs4 | apply zs5)) (allR_self _) (by dsimp only; omega)) : B9 := h
end
theorem ref12check_tri (a : XAir) (s : XSetting) (ps : Arr Int) (A : List Bool) (L : List Blk) (R : List Sl) (hm : AirR a R) (hs : SetR s R) (hps : InR (isl ps) R) (hA : airErr a = 0 → AiryIs a.mine A) :
    Tri Try.prog 179 [a.val, s.val, ps.val].toArray L R (fun v L' R' => v = .int .i64 (startErr a s ps.l A) ∧ L = L' ∧ R = R') := by
  have hmp := hm.places
  refine Tri_len Try.call179 hps fun hpn => ?_
  refine Tri_len Try.call179 hmp fun hmpn => ?_
  refine tri_enter 49 Try.call179 Try.func179 rfl rfl rfl ?_
  refine qae ?_
  refine qax ?_
  intro b3
  refine qax ?_
  intro b4
  refine qad ?_
  refine qaw ?_
  refine qa8 ?_
  refine q_l rfl (ref09Check_tri a _ _ hm) ?_
  refine qad ?_
  refine qam ?_
  refine qaa ?_
  refine qbq ?_
  refine qaf ?_
  refine q_c (fun hc0 => ?_) (fun hc0 => ?_)
  ·
   refine qae ?_
   refine qaa ?_
   refine qad ?_
   refine qbh ?_
   refine q_i (L' := L) (R' := R) ?_
   exact ⟨by rw [startErr, if_pos hc0], rfl, rfl⟩
  have h0 : airErr a = 0 := by omega
  have hok := airOk_of h0
  have hAA := hA h0
  refine qbo ?_
  refine qa8 ?_
  refine qbe ?_
  refine q_l rfl (ref09Right_tri a s _ _ hm hs) ?_
  refine qb4 ?_
  refine qaf ?_
  refine q_c (fun hc1 => ?_) (fun hc1 => ?_)
  ·
   refine qae ?_
   refine qad ?_
   refine qbh ?_
   refine q_i (L' := L) (R' := R) ?_
   exact ⟨by rw [startErr, if_neg hc0, if_pos (by simpa [rightB, h0] using hc1)], rfl, rfl⟩
  have hf0 : fitB a s = true := by simpa [rightB, h0] using hc1
  have hff : ¬ fitB a s = false := by rw [hf0]; decide
  refine qbo ?_
  refine qbm ?_
  refine qag ?_
  refine qab ?_
  refine qab ?_
  refine qac ?_
  refine qag ?_
  refine qbq ?_
  refine qaf ?_
  refine q_c (fun hc2 => ?_) (fun hc2 => ?_)
  ·
   refine qae ?_
   refine qad ?_
   refine qbh ?_
   refine q_i (L' := L) (R' := R) ?_
   exact ⟨by rw [startErr, if_neg hc0, if_neg hff, if_pos (by omega)], rfl, rfl⟩
  have hln : ps.l.length = a.mine.places.l.length := by omega
  refine qbo ?_
  refine qbm ?_
  refine q_l rfl (ranged_tri ps _ _ hps) ?_
  refine qb4 ?_
  refine qaf ?_
  refine q_c (fun hc3 => ?_) (fun hc3 => ?_)
  ·
   refine qae ?_
   refine qad ?_
   refine qbh ?_
   refine q_i (L' := L) (R' := R) ?_
   exact ⟨by rw [startErr, if_neg hc0, if_neg hff, if_neg (by omega), if_pos (by simp_all [Option.isSome_iff_ne_none])], rfl, rfl⟩
  have hr : ¬ (ps.l.findSome? presBad).isSome = true := by simp_all
  refine qbv ?_
  refine qab ?_
  refine qbe ?_
  refine LJ_call rfl (fixed_tri a.mine _ _ hm.mineR hok.mine) rfl ?_
  rintro v L' R' ⟨p, A2, rfl, hpk, hA2, hpl, rfl, rfl⟩
  obtain rfl : A = A2 := hAA.unique hA2
  have hfx : p.l.length = a.mine.places.l.length := by rw [hpl]; exact fixS_length a.mine A
  have hck : startErr a s ps.l A = ((List.range ps.l.length).findSome? (startBad a ps.l A)).getD 0 := by rw [startErr, if_neg hc0, if_neg hff, if_neg (by omega), if_neg hr, hln]
  refine qc4 ?_
  refine qco ?_
  refine CJ_turn fun c w hst => ⟨_, _, hst.perm List.perm_append_comm, ?_⟩
  refine qay ?_
  refine qad ?_
  refine qa2 ?_
  refine CJ_forget [(2, Value.slice _ _ _), (8, Value.slice _ _ _), (9, Value.int _ _)] (by repeat' (first | exact trivial | refine And.intro rfl ?_)) fun tq0 => ?_
  refine q_s [6, 9, 32, 33, 34, 35, 36, 37, 38, 39, 40, 41, 42, 43, 44, 45, 46, 47, 48] (fun g : FSR (startBad a ps.l A) (ps.l.length) => [(9, .int .i64 ((g.1 : Nat) : Int))]) (fun g => (ps.l.length) - g.1) ⟨0, FSR_zero _ _⟩ ?_
  rintro ⟨k0, hk0, hp0⟩ junk
  try dsimp only
  refine qbi ?_
  refine qaa ?_
  refine qbm ?_
  refine qag ?_
  refine qaj ?_
  refine qaf ?_
  refine q_c (fun hc4 => ?_) (fun hc4 => ?_)
  ·
   have hpg : p.l[k0]? = some (fixB a A k0) := by rw [hpl]; exact fixS_get (by omega)
   have hsg := get_D (l := ps.l) (k := k0) 0 (by omega)
   refine qbb ?_
   refine qbm ?_
   refine qaa ?_
   refine LJ_q (yv_index_ow tb (p) _ rfl rfl rfl rfl (by assumption) (i := k0) (by first | rfl | omega | (simp; omega)) (by first | omega | (dsimp only; omega) | (dsimp only; rw [List.length_set]; omega))) rfl ?_
   refine yazac ?_
   refine qah ?_
   apply LJ_and (G := [_, _, _, _, _]) (j := 4) (cj := 42) rfl rfl (by rfl) rfl (show _ = Value.bool _ from rfl) rfl
   ·
    intro hg5
    replace hg5 := qb hg5
    refine qbm ?_
    refine qaa ?_
    refine LJ_q (by first | exact yv_index_ro tb rfl rfl rfl rfl (by first | assumption | exact zr (by simp)) (i := k0) (by first | rfl | omega | (simp; omega)) (by omega) | exact yv_index tb rfl rfl rfl rfl (i := k0) (by first | rfl | omega | (simp; omega)) (by omega)) rfl ?_
    refine qa7 ?_
    refine qbq ?_
    exact qai
   intro junk5
   refine qaf ?_
   refine q_c (fun hc5 => ?_) (fun hc5 => ?_)
   ·
    have hnb : startBad a ps.l A k0 = some 12 := if_pos (by simpa using hc5)
    refine qae ?_
    refine qad ?_
    refine qbt ?_
    refine q_i (L' := L) (R' := R) ?_
    exact ⟨by rw [hck, FSR_some hp0 (by omega) hnb]; rfl, rfl, rfl⟩
   have hnb : startBad a ps.l A k0 = none := if_neg (fun ⟨h1, h2⟩ => by
   rcases hc5 with ⟨h3, h4⟩ | h3
   · rw [fixB, h3, h4] at h1; cases h1
   · exact h3 h2)
   refine qbj ?_
   refine qaa ?_
   refine qar ?_
   refine qad ?_
   refine qav ?_
   exact q_k ⟨k0 + 1, FSR_next hp0 (by omega) (hnb)⟩
  have hn0 := FSR_none hp0 (by omega)
  refine qbk ?_
  refine qad ?_
  refine qa0 ?_
  refine q_i (L' := L) (R' := R) ?_
  exact ⟨by rw [hck, hn0]; rfl, rfl, rfl⟩

abbrev nextV (x : Option Int) : Value := .tuple #[.int .i64 (x.getD 0), .bool x.isSome]
theorem room_ge {ps : List Int} (h : PresOk ps) (up : Bool) (k : Nat) : 0 ≤ room up (ps.getD k 0) := (room_in (h.get k)).1
theorem upL {a : XAir} {s : XSetting} {o : Ow} {l : List Int} {k : Nat} {A : List Blk} {R : List Sl} {vl : Value} (hvl : vl = (⟨o, l⟩ : OwL Int).val) (h : HypsR a s l k R) (hin : InB ((⟨o, l⟩ : OwL Int).L 3 icell) A) (hok : (⟨o, l⟩ : OwL Int).ok 1 icell) :
    Tri Try.prog 180 [a.val, s.val, vl, .int .i64 (k : Int)].toArray A R (fun w L' R' => w = nextV (nextAt a s true l k) ∧ A = L' ∧ R = R') := by
  subst hvl
  refine Tri.lend1 hin hok ((up_tri a s (⟨o, l⟩ : OwL Int).arr k [] _ ⟨airR_mono h.air fun r hr => inR_self (.tail _ hr), setR_mono h.set fun r hr => inR_self (.tail _ hr), h.ok, h.fit, h.len, h.pres, h.v⟩ (inR_self (.head _))).mono ?_)
  rintro v L' R' ⟨z, ok, rfl, hF, rfl, rfl⟩
  obtain ⟨rfl, rfl⟩ := first_next (room_ge h.pres true (Int.toNat k)) hF
  exact ⟨rfl, rfl, rfl⟩

theorem downL {a : XAir} {s : XSetting} {o : Ow} {l : List Int} {k : Nat} {A : List Blk} {R : List Sl} {vl : Value} (hvl : vl = (⟨o, l⟩ : OwL Int).val) (h : HypsR a s l k R) (hin : InB ((⟨o, l⟩ : OwL Int).L 3 icell) A) (hok : (⟨o, l⟩ : OwL Int).ok 1 icell) :
    Tri Try.prog 181 [a.val, s.val, vl, .int .i64 (k : Int)].toArray A R (fun w L' R' => w = nextV (nextAt a s false l k) ∧ A = L' ∧ R = R') := by
  subst hvl
  refine Tri.lend1 hin hok ((down_tri a s (⟨o, l⟩ : OwL Int).arr k [] _ ⟨airR_mono h.air fun r hr => inR_self (.tail _ hr), setR_mono h.set fun r hr => inR_self (.tail _ hr), h.ok, h.fit, h.len, h.pres, h.v⟩ (inR_self (.head _))).mono ?_)
  rintro v L' R' ⟨z, ok, rfl, hF, rfl, rfl⟩
  obtain ⟨rfl, rfl⟩ := first_next (room_ge h.pres false (Int.toNat k)) hF
  exact ⟨rfl, rfl, rfl⟩


theorem ref12relax_tri (a : XAir) (s : XSetting) (ps : Arr Int) (up : Bool) (A : List Bool) (L : List Blk) (R : List Sl) (hm : AirR a R) (hs : SetR s R) (hps : InR (isl ps) R) (hA : airErr a = 0 → AiryIs a.mine A) :
    Tri Try.prog 159 [a.val, s.val, ps.val, .bool up].toArray L R (fun w L' R' => ∃ p : OwL Int, w = .tuple #[p.val, .int .i64 (relaxS a s A up ps.l).1] ∧ p.ok 1 icell ∧ p.l = (relaxS a s A up ps.l).2 ∧ p.L 3 icell ++ L = L' ∧ R = R') := by
  have hmp := hm.places
  refine tri_enter 79 Try.call159 Try.func159 rfl rfl rfl ?_
  refine qae ?_
  refine qax ?_
  intro b4
  refine qax ?_
  intro b5
  refine qc4 ?_
  refine qad ?_
  refine qaw ?_
  refine qa8 ?_
  refine qbe ?_
  refine qbm ?_
  refine q_l rfl (ref12check_tri a s ps A _ _ hm hs hps hA) ?_
  refine qad ?_
  refine qam ?_
  refine qaa ?_
  refine qbq ?_
  refine qaf ?_
  refine q_c (fun hc0 => ?_) (fun hc0 => ?_)
  ·
   refine qae ?_
   refine qaa ?_
   refine qc4 ?_
   refine qad ?_
   refine qbh ?_
   refine q_r (L' := L) (R' := R) (res2 rfl (rv_tmp (show _ = Value.slice _ _ _ from rfl)) (rv_tmp (show _ = Value.int _ _ from rfl))) ?_
   exact ⟨OwL.nil, by rw [relaxS, if_pos hc0]; rfl, OwL.nil_ok, by rw [relaxS, if_pos hc0], by rw [nil_L, List.nil_append], rfl⟩
  have hso := startErr_iff.1 (show startErr a s ps.l A = 0 by omega)
  have hok := airOk_of hso.h0
  have hfo := fitOk_of hso.hf
  have hAA := hA hso.h0
  have hln := hso.hl
  have hnp := hok.mine.places
  have hrx : relaxS a s A up ps.l = match roundsS a s A up 200 ps.l with
    | none => (2, [])
    | some l => (0, l) := by rw [relaxS, if_neg hc0] <;> rfl
  refine qbv ?_
  refine qbm ?_
  refine LJ_g (gives_copy (f := icell) (xs := ps) tb rfl rfl rfl (by decide) rfl rfl (hps) (fun _ => rfl) (by omega)) rfl ?_
  rintro v L' R' ⟨o26, rfl, hok26, rfl, rfl⟩
  refine qc4 ?_
  refine qam ?_
  refine qab ?_
  refine qbe ?_
  refine LJ_call rfl (fixed_tri a.mine _ _ hm.mineR hok.mine) rfl ?_
  rintro v L' R' ⟨p, A2, rfl, hpk, hA2, hpl, rfl, rfl⟩
  obtain rfl : A = A2 := hAA.unique hA2
  have hfx : p.l.length = a.mine.places.l.length := by rw [hpl]; exact fixS_length a.mine A
  refine qc4 ?_
  refine qco ?_
  refine CJ_turn fun c w hst => ⟨_, _, hst.perm List.perm_append_comm, ?_⟩
  refine qay ?_
  refine qad ?_
  refine qa2 ?_
  refine CJ_forget [(3, Value.bool _), (4, Value.pointer _), (5, Value.pointer _), (11, Value.slice _ _ _), (12, Value.slice _ _ _), (13, Value.int _ _)] (by repeat' (first | exact trivial | refine And.intro rfl ?_)) fun tq0 => ?_
  refine q_p [8, 9, 13, 14, 15, 16, 17, 30, 31, 32, 33, 34, 35, 36, 37, 38, 39, 40, 41, 42, 43, 44, 45, 46, 47, 48, 49, 50, 51, 52, 53, 54, 55, 56, 57, 58, 59, 60, 61, 62, 63, 64, 65, 66, 67, 68, 69, 70, 71, 72, 73, 74, 75, 76, 77, 78] ((⟨fun q => [(13, .int .i64 ((q.1.1 : Nat) : Int))], fun q => p.L 4 blc ++ ((⟨o26, q.1.2⟩ : OwL Int).L 3 icell ++ (⟨b5, s.cells, 40⟩ :: ⟨b4, a.cells, 30⟩ :: L)), fun _ => R, fun q => 200 - q.1.1⟩ : Head {q : Nat × List Int // q.1 ≤ 200 ∧ roundsS a s A up 200 ps.l = roundsS a s A up (200 - q.1) q.2 ∧ q.2.length = ps.l.length ∧ PresOk q.2 ∧ (⟨o26, q.2⟩ : OwL Int).ok 1 icell})) (⟨(0, ps.l), by dsimp only; omega, rfl, rfl, hso.hp, hok26⟩) ?_
  rintro ⟨⟨n, l⟩, w1, w2, w3, w4, w5⟩ junk
  try dsimp only
  dsimp only at w1 w2 w3 w4 w5
  refine qbi ?_
  refine qaa ?_
  refine qaj ?_
  refine qaf ?_
  refine q_c (fun hc1 => ?_) (fun hc1 => ?_)
  ·
   have e200 : 200 - n = (200 - (n + 1)) + 1 := by omega
   rw [e200] at w2
   refine qbb ?_
   refine qaz ?_
   refine qaw ?_
   refine qad ?_
   refine qa2 ?_
   refine CJ_forgetW [8, 9, 13, 14, 15, 16, 17, 30, 31, 32, 33, 34, 35, 36, 37, 38, 39, 40, 41, 42, 43, 44, 45, 46, 47, 48, 49, 50, 51, 52, 53, 54, 55, 56, 57, 58, 59, 60, 61, 62, 63, 64, 65, 66, 67, 68, 69, 70, 71, 72, 73, 74, 75, 76, 77, 78] (by repeat (first | apply Off.upd rfl | apply Off.havoc rfl | refine Off.updL (t' := havoc _ _ _) rfl ?_ | exact Off.refl)) [(13, Value.int _ _), (14, Value.bool _), (15, Value.int _ _)] (by repeat' (first | exact trivial | refine And.intro rfl ?_)) fun tq1 => ?_
   refine CJ_loop [8, 9, 14, 15, 16, 17, 34, 35, 36, 37, 38, 39, 40, 41, 42, 43, 44, 45, 46, 47, 48, 49, 50, 51, 52, 53, 54, 55, 56, 57, 58, 59, 60, 61, 62, 63, 64, 65, 66, 67, 68, 69, 70, 71, 72, 73, 74, 75] ((⟨fun q => [(15, .int .i64 ((q.1.1 : Nat) : Int)), (14, .bool (decide (q.1.2 ≠ l)))], fun q => p.L 4 blc ++ ((⟨o26, q.1.2⟩ : OwL Int).L 3 icell ++ (⟨b5, s.cells, 40⟩ :: ⟨b4, a.cells, 30⟩ :: L)), fun _ => R, fun q => ps.l.length - q.1.1⟩ : Head {q : Nat × List Int // q.1 ≤ ps.l.length ∧ Swept a s A up l q.1 q.2 ∧ (⟨o26, q.2⟩ : OwL Int).ok 1 icell})) (⟨(0, l), by dsimp only; omega, .zero w4, w5⟩) ⟨rfl, by simp; rfl, trivial⟩ (by repeat (first | exact zs0 _ | exact zs1 _ | apply zs2 | apply zs3 | apply zs4 | apply zs5)) (allR_self _) ?_
   rintro ⟨⟨i, m⟩, q1, q2, q3⟩ junk
   try dsimp only
   dsimp only at q1 q2 q3
   have hml := q2.len
   refine qbi ?_
   refine qaa ?_
   refine qbm ?_
   refine qag ?_
   refine qaj ?_
   refine qaf ?_
   refine q_c (fun hc2 => ?_) (fun hc2 => ?_)
   ·
    obtain ⟨fb, hfb⟩ : ∃ fb, fb = fixB a A i := ⟨_, rfl⟩
    have hpg : p.l[i]? = some fb := by rw [hpl, hfb]; exact fixS_get (by omega)
    have hmg := get_D (l := m) (k := i) 0 (by omega)
    refine CJ_skip (seqK_normal (CJ_seq (CJ_block (CJ_seq (CJ_seq (CJ_region ?_))))))
    refine qbm ?_
    refine qaa ?_
    refine LJ_q (yv_index_ow tb (p) _ rfl rfl rfl rfl (by assumption) (i := i) (by first | rfl | omega | (simp; omega)) (by first | omega | (dsimp only; omega) | (dsimp only; rw [List.length_set]; omega))) rfl ?_
    refine yazac ?_
    refine qaf ?_
    refine q_c (fun hc3 => ?_) (fun hc3 => ?_)
    ·
     have hfi : fixB a A i = true := hfb ▸ hc3
     refine CJ_exit (seqK_exit (blockK_exit (seqK_normal (CJ_region ?_))))
     refine qaa ?_
     refine qar ?_
     refine qad ?_
     refine qav ?_
     exact q_k ⟨(i + 1, m), by dsimp only; omega, q2.skip hfi, q3⟩
    have hfi : ¬ fixB a A i = true := by rw [← hfb, hc3]; decide
    have hH : HypsR a s m i R := ⟨hm, hs, hok, hfo, by omega, q2.pres, by omega⟩
    refine qbv ?_
    refine qad ?_
    refine qaz ?_
    refine qaw ?_
    refine qah ?_
    refine qaf ?_
    refine q_c (fun hc4 => ?_) (fun hc4 => ?_)
    ·
     have hup : up = true := hc4
     refine qay ?_
     refine qa8 ?_
     refine qbe ?_
     refine qbm ?_
     refine qaa ?_
     refine q_l rfl (upL (o := o26) (l := m) ((show _ = Value.slice _ _ _ from rfl).trans (by simp only [OwL.val, hml, w3])) hH (by repeat (first | exact inB_here | apply inB_cons | apply inB_app)) q3) ?_
     refine LJ_q (yv_move rfl) rfl ?_
     refine qbs ?_
     refine qbs ?_
     refine qad ?_
     refine qaz ?_
     refine qaw ?_
     refine qah ?_
     refine qb4 ?_
     refine qaf ?_
     refine q_c (fun hc5 => ?_) (fun hc5 => ?_)
     ·
      have hv : nextAt a s up m i = none := by rw [hup]; simpa using hc5
      have hrn : relaxS a s A up ps.l = (2, []) := by rw [hrx, w2, rounds_fail (q2.fail hfi hv _ (by omega))]
      refine qae ?_
      refine qc4 ?_
      refine qad ?_
      refine LJ_nil (seqK_normal (CJ_ret (seqK_ret (blockK_ret (seqK_ret (loopK_ret (blockK_ret (seqK_ret (blockK_ret (seqK_ret (loopK_ret (blockK_ret (seqK_ret ?_)))))))))))))
      refine q_r (L' := L) (R' := R) (res2 rfl (rv_tmp (show _ = Value.slice _ _ _ from rfl)) (rv_tmp (show _ = Value.int _ _ from rfl))) ?_
      exact yazab
     obtain ⟨u, hv'⟩ := Option.isSome_iff_exists.1 hc5
     have hv : nextAt a s up m i = some u := by rw [hup]; exact hv'
     have hfl := q2.flag (k := i) (by omega) u
     refine qcl ?_
     rw [hv']
     refine qay ?_
     refine qah ?_
     refine qah ?_
     apply LJ_or (G := [_, _, _, _, _, _]) (j := 1) (cj := 64) rfl rfl (by rfl) rfl (show _ = Value.bool _ from rfl) rfl
     ·
      intro hg2
      replace hg2 := qb hg2
      refine qaa ?_
      refine qbm ?_
      refine qaa ?_
      refine yazaa ?_
      refine yazad ?_
      refine qbq ?_
      exact qai
     intro junk2
     refine qaz ?_
     refine LJ_nil (seqK_normal (CJ_region ?_))
     refine qbm ?_
     refine qaa ?_
     refine qaa ?_
     refine yazaa ?_
     refine yazae ?_
     rintro v L' R' ⟨rfl, rfl⟩
     refine qcs ?_
     refine qaa ?_
     refine qar ?_
     refine qad ?_
     refine qav ?_
     exact yazaf
    have hup : up = false := by simpa using hc4
    refine qay ?_
    refine qa8 ?_
    refine qbe ?_
    refine qbm ?_
    refine qaa ?_
    refine q_l rfl (downL (o := o26) (l := m) ((show _ = Value.slice _ _ _ from rfl).trans (by simp only [OwL.val, hml, w3])) hH (by repeat (first | exact inB_here | apply inB_cons | apply inB_app)) q3) ?_
    refine LJ_q (yv_move rfl) rfl ?_
    refine qbs ?_
    refine qbs ?_
    refine qad ?_
    refine qaz ?_
    refine qaw ?_
    refine qah ?_
    refine qb4 ?_
    refine qaf ?_
    refine q_c (fun hc5 => ?_) (fun hc5 => ?_)
    ·
     have hv : nextAt a s up m i = none := by rw [hup]; simpa using hc5
     have hrn : relaxS a s A up ps.l = (2, []) := by rw [hrx, w2, rounds_fail (q2.fail hfi hv _ (by omega))]
     refine qae ?_
     refine qc4 ?_
     refine qad ?_
     refine LJ_nil (seqK_normal (CJ_ret (seqK_ret (blockK_ret (seqK_ret (loopK_ret (blockK_ret (seqK_ret (blockK_ret (seqK_ret (loopK_ret (blockK_ret (seqK_ret ?_)))))))))))))
     refine q_r (L' := L) (R' := R) (res2 rfl (rv_tmp (show _ = Value.slice _ _ _ from rfl)) (rv_tmp (show _ = Value.int _ _ from rfl))) ?_
     exact yazab
    obtain ⟨u, hv'⟩ := Option.isSome_iff_exists.1 hc5
    have hv : nextAt a s up m i = some u := by rw [hup]; exact hv'
    have hfl := q2.flag (k := i) (by omega) u
    refine qcl ?_
    rw [hv']
    refine qay ?_
    refine qah ?_
    refine qah ?_
    apply LJ_or (G := [_, _, _, _, _, _]) (j := 1) (cj := 64) rfl rfl (by rfl) rfl (show _ = Value.bool _ from rfl) rfl
    ·
     intro hg2
     replace hg2 := qb hg2
     refine qaa ?_
     refine qbm ?_
     refine qaa ?_
     refine yazaa ?_
     refine yazad ?_
     refine qbq ?_
     exact qai
    intro junk2
    refine qaz ?_
    refine LJ_nil (seqK_normal (CJ_region ?_))
    refine qbm ?_
    refine qaa ?_
    refine qaa ?_
    refine yazaa ?_
    refine yazae ?_
    rintro v L' R' ⟨rfl, rfl⟩
    refine qcs ?_
    refine qaa ?_
    refine qar ?_
    refine qad ?_
    refine qav ?_
    exact yazaf
   obtain rfl : i = ps.l.length := by omega
   have hsw := q2.to
   rw [hln] at hsw
   refine qbk ?_
   refine qah ?_
   refine qb4 ?_
   refine qaf ?_
   refine q_c (fun hc6 => ?_) (fun hc6 => ?_)
   ·
    have hme : m = l := by simpa using hc6
    have hrn : relaxS a s A up ps.l = (0, m) := by rw [hrx, w2, hme, rounds_done (by rw [← hme] at hsw ⊢; exact hsw)]
    refine qae ?_
    refine qbm ?_
    refine qc4 ?_
    refine qad ?_
    refine qbt ?_
    refine q_r (L' := (⟨o26, m⟩ : OwL Int).L 3 icell ++ L) (R' := R) (res2 rfl (rv_tmp (show _ = Value.slice _ _ _ from rfl)) (rv_tmp (show _ = Value.int _ _ from rfl))) ?_
    exact ⟨⟨o26, m⟩, by rw [hrn]; simp only [OwL.val, hml, w3], q3, by rw [hrn], rfl, rfl⟩
   have hme : m ≠ l := by simpa using hc6
   refine qbj ?_
   refine qaa ?_
   refine qar ?_
   refine qad ?_
   refine qav ?_
   exact q_k ⟨(n + 1, m), by dsimp only; omega, w2.trans (rounds_next hsw hme), hml.trans w3, q2.pres, q3⟩
  obtain rfl : n = 200 := by omega
  have hrn : relaxS a s A up ps.l = (2, []) := by rw [hrx, w2]; rfl
  refine qbk ?_
  refine qc4 ?_
  refine qad ?_
  refine qa0 ?_
  refine q_r (L' := L) (R' := R) (res2 rfl (rv_tmp (show _ = Value.slice _ _ _ from rfl)) (rv_tmp (show _ = Value.int _ _ from rfl))) ?_
  exact yazab

theorem ref12rise_tri (a : XAir) (s : XSetting) (ps : Arr Int) (A : List Bool) (L : List Blk) (R : List Sl) (hm : AirR a R) (hs : SetR s R) (hps : InR (isl ps) R) (hA : airErr a = 0 → AiryIs a.mine A) :
    Tri Try.prog 133 [a.val, s.val, ps.val].toArray L R (fun w L' R' => ∃ p : OwL Int, w = .tuple #[p.val, .int .i64 (relaxS a s A true ps.l).1] ∧ p.ok 1 icell ∧ p.l = (relaxS a s A true ps.l).2 ∧ p.L 3 icell ++ L = L' ∧ R = R') := by
  refine tri_enter 14 Try.call133 Try.func133 rfl rfl rfl ?_
  refine qae ?_
  refine qax ?_
  intro b3
  refine qax ?_
  intro b4
  refine qc4 ?_
  refine qad ?_
  refine qam ?_
  refine qa8 ?_
  refine qbe ?_
  refine qbm ?_
  refine LJ_call rfl (ref12relax_tri a s ps true A _ _ hm hs hps hA) rfl ?_
  rintro v L' R' ⟨p, rfl, hpk, hpl, rfl, rfl⟩
  refine qbs ?_
  refine qbs ?_
  refine qc4 ?_
  refine qad ?_
  refine qa0 ?_
  refine q_r (L' := p.L 3 icell ++ L) (R' := R) (res2 rfl (rv_tmp (show _ = Value.slice _ _ _ from rfl)) (rv_tmp (show _ = Value.int _ _ from rfl))) ?_
  exact ⟨p, rfl, hpk, hpl, rfl, rfl⟩

theorem ref12fall_tri (a : XAir) (s : XSetting) (ps : Arr Int) (A : List Bool) (L : List Blk) (R : List Sl) (hm : AirR a R) (hs : SetR s R) (hps : InR (isl ps) R) (hA : airErr a = 0 → AiryIs a.mine A) :
    Tri Try.prog 132 [a.val, s.val, ps.val].toArray L R (fun w L' R' => ∃ p : OwL Int, w = .tuple #[p.val, .int .i64 (relaxS a s A false ps.l).1] ∧ p.ok 1 icell ∧ p.l = (relaxS a s A false ps.l).2 ∧ p.L 3 icell ++ L = L' ∧ R = R') := by
  refine tri_enter 14 Try.call132 Try.func132 rfl rfl rfl ?_
  refine qae ?_
  refine qax ?_
  intro b3
  refine qax ?_
  intro b4
  refine qc4 ?_
  refine qad ?_
  refine qam ?_
  refine qa8 ?_
  refine qbe ?_
  refine qbm ?_
  refine LJ_call rfl (ref12relax_tri a s ps false A _ _ hm hs hps hA) rfl ?_
  rintro v L' R' ⟨p, rfl, hpk, hpl, rfl, rfl⟩
  refine qbs ?_
  refine qbs ?_
  refine qc4 ?_
  refine qad ?_
  refine qa0 ?_
  refine q_r (L' := p.L 3 icell ++ L) (R' := R) (res2 rfl (rv_tmp (show _ = Value.slice _ _ _ from rfl)) (rv_tmp (show _ = Value.int _ _ from rfl))) ?_
  exact ⟨p, rfl, hpk, hpl, rfl, rfl⟩

end Go.Proofs.Ytlgjgigciapkfaa
end
section
/-
  The reference's bounds. By an AI agent; no person has read it.
-/
set_option linter.unusedSimpArgs false
set_option linter.unusedVariables false
namespace Go.Proofs.Ytlgjgigciapkfaa
open Go.Aw Go
set_option maxRecDepth 20000
attribute [local irreducible] CJ LJ DJ Tri YV Gives seqK blockK loopK retK RV mergeK OwL.L

section
variable {A9 B9 : Prop}
theorem ya0aa (h : B9 := by exact ⟨OwL.nil, OwL.nil, by rw [hsv]; rfl, OwL.nil_ok, OwL.nil_ok, by rw [hsv], by rw [hsv], by rw [nil_L, List.nil_append, List.nil_append], rfl⟩) : B9 := h
end
theorem inB_made {α : Type} {f : α → List Value} {z : List Value} {b n : Nat} {T : TypeId} {x : α} {A : List Blk} (hz : z = f x) : InB ((⟨.own b n [], List.replicate n x⟩ : OwL α).L T f) (⟨b, zrep z n, T⟩ :: A) := by
  rw [made_ow hz A]; exact inB_here
theorem fallL {a : XAir} {s : XSetting} {q : OwL Int} {A : List Bool} {L : List Blk} {R : List Sl} {vl : Value} (hvl : vl = q.val) (hm : AirR a R) (hs : SetR s R) (hA : airErr a = 0 → AiryIs a.mine A) (hin : InB (q.L 3 icell) L) (hok : q.ok 1 icell) :
    Tri Try.prog 132 [a.val, s.val, vl].toArray L R (fun w L' R' => ∃ p : OwL Int, w = .tuple #[p.val, .int .i64 (relaxS a s A false q.l).1] ∧ p.ok 1 icell ∧ p.l = (relaxS a s A false q.l).2 ∧ p.L 3 icell ++ L = L' ∧ R = R') := by
  subst hvl
  have h2 := Tri.lend (S := [isl q.arr]) (Post := fun v L' => ∃ p : OwL Int, v = .tuple #[p.val, .int .i64 (relaxS a s A false q.l).1] ∧ p.ok 1 icell ∧ p.l = (relaxS a s A false q.l).2 ∧ p.L 3 icell ++ [] = L') (Spl.rest (L := L)) (fun w G hh s hs => by
    rw [List.mem_singleton.1 hs]
    exact lend_rep hh hin hok (fun _ => rfl) (by decide) (fun s hs => by cases hs)) ((ref12fall_tri a s q.arr A [] _ (airR_mono hm fun r h => inR_self (.tail _ h)) (setR_mono hs fun r h => inR_self (.tail _ h)) (inR_self (.head _)) hA).mono fun v L' R' ⟨p, a1, a2, a3, a4, a5⟩ => ⟨⟨p, a1, a2, a3, a4⟩, a5⟩)
  exact Tri.turn h2 fun v L'' R' ⟨L', e, ⟨p, a1, a2, a3, a4⟩, a5⟩ => ⟨_, R', by rw [← e, ← a4, List.append_nil]; exact List.perm_append_comm, fun r hr => inR_self hr, p, a1, a2, a3, rfl, a5⟩


theorem ref12solve_tri (a : XAir) (s : XSetting) (A : List Bool) (L : List Blk) (R : List Sl) (hm : AirR a R) (hs : SetR s R) (hA : airErr a = 0 → AiryIs a.mine A) (hnp : a.mine.places.l.length ≤ 64) :
    Tri Try.prog 89 [a.val, s.val].toArray L R (fun w L' R' => ∃ lo hi : OwL Int, w = .tuple #[.agg #[lo.val, hi.val], .int .i64 (solveS a s A).1] ∧ lo.ok 1 icell ∧ hi.ok 1 icell ∧ lo.l = (solveS a s A).2.1 ∧ hi.l = (solveS a s A).2.2 ∧ lo.L 3 icell ++ (hi.L 3 icell ++ L) = L' ∧ R = R') := by
  have hmp := hm.places
  have hzok : ∀ b, (⟨.own b a.mine.places.l.length [], List.replicate a.mine.places.l.length 0⟩ : OwL Int).ok 1 icell := fun b => made_ok (fun _ => rfl) (by simp only [maxLen]; omega)
  refine tri_enter 50 Try.call89 Try.func89 rfl rfl rfl ?_
  refine qae ?_
  refine qax ?_
  intro b2
  refine qax ?_
  intro b3
  refine qaq ?_
  intro b4
  refine qad ?_
  refine qa4 ?_
  refine CJ_drawn tb [0, 1, 2, 3, 4, 5, 6, 7, 8, 9, 10, 11, 12] ([Blk.mk b3 _ _, Blk.mk b2 _ _]) mixed (by kernel_rfl) (by repeat (first | exact zs0 _ | exact zs1 _ | apply zs2 | apply zs3 | apply zs4 | apply zs5)) ?_
  refine qbc ?_
  refine qbd ?_
  refine qal ?_
  refine qal ?_
  refine qat ?_
  refine DJ_q (yv_len tb rfl rfl rfl) rfl rfl rfl ?_
  refine DJ_g (gives_makeSlice tb rfl rfl rfl rfl rfl rfl rfl (by omega) (by omega)) rfl rfl rfl ?_
  rintro v L' R' ⟨b17, rfl, rfl, hR17⟩
  replace hR17 := hR17.symm; subst hR17
  refine qa1 ?_
  refine DJ_call rfl (fallL (q := ⟨.own b17 a.mine.places.l.length [], List.replicate a.mine.places.l.length 0⟩) (rep_val (α := Int)).symm hm hs hA (inB_made (f := icell) (x := 0) rfl) (hzok b17)) rfl rfl ?_
  rintro v L' R' ⟨p, rfl, hpk, hpl, rfl, rfl⟩
  refine qas ?_
  replace hpl : p.l = (relaxS a s A false (List.replicate a.mine.places.l.length 0)).2 := hpl
  refine DJ_q (yv_move rfl) rfl rfl rfl ?_
  refine DJ_q (yv_extract rfl rfl) rfl rfl rfl ?_
  refine DJ_q (yv_extract rfl rfl) rfl rfl rfl ?_
  refine DJ_q (yv_assign (show _ = Value.slice _ _ _ from rfl)) rfl rfl rfl ?_
  refine qcg ?_
  refine DJ_nil (seqK_normal (CJ_seq (CJ_seq ?_)))
  refine CJ_frz1 (A := []) (wd := 1) [] (fun _ => rfl) (by decide) hpk (fun s hs => by cases hs) ?_
  refine CJ_L (by simp only [List.nil_append]; rfl) ?_
  have hm1 : AirR a (isl p.arr :: R) := airR_mono hm fun r h => inR_self (.tail _ h)
  have hs1 : SetR s (isl p.arr :: R) := setR_mono hs fun r h => inR_self (.tail _ h)
  obtain ⟨x, hx⟩ : ∃ x, x = relaxS a s A false (List.replicate a.mine.places.l.length 0) := ⟨_, rfl⟩
  rw [← hx] at hpl ⊢
  refine qay ?_
  refine qaa ?_
  refine qbq ?_
  refine qaf ?_
  refine q_c (fun hc0 => ?_) (fun hc0 => ?_)
  ·
   refine qae ?_
   refine qck ?_
   refine qaa ?_
   refine qak ?_
   refine qad ?_
   refine qbh ?_
   refine retK_ret (L' := L) (R' := R) (res2 rfl (rv_cell (row := [_, _]) tb rfl rfl rfl (by repeat (first | exact zi0 | apply zi1 | apply zi2)) (by rfl) (by rfl)) (rv_tmp (show _ = Value.int _ _ from rfl))) ?hp ?hL ?hR
   case hp =>
    have hsv : solveS a s A = (x.1, [], []) := by rw [solveS]; dsimp only; rw [← hx, if_pos hc0]
    exact ya0aa
   case hL => exact (by repeat (first | exact zs0 _ | exact zs1 _ | apply zs2 | apply zs3 | apply zs4 | apply zs5))
   case hR => exact fun r h => inR_self (by simp [h])
  refine qbv ?_
  refine qa8 ?_
  refine qbe ?_
  refine qbm ?_
  refine LJ_call rfl (ref12rise_tri a s p.arr A _ _ hm1 hs1 (inR_self (.head _)) hA) rfl ?_
  rintro v L' R' ⟨q, rfl, hqk, hql, rfl, rfl⟩
  replace hql : q.l = (relaxS a s A true p.l).2 := hql
  obtain ⟨y, hy⟩ : ∃ y, y = relaxS a s A true p.l := ⟨_, rfl⟩
  rw [← hy] at hql ⊢
  have hxy : y = relaxS a s A true x.2 := by rw [hy, hpl]
  refine LJ_q (yv_move rfl) rfl ?_
  refine qbs ?_
  refine qbs ?_
  refine qc4 ?_
  refine qad ?_
  refine qaw ?_
  refine qaa ?_
  refine qbq ?_
  refine qaf ?_
  refine q_c (fun hc1 => ?_) (fun hc1 => ?_)
  ·
   refine qae ?_
   refine qck ?_
   refine qaa ?_
   refine qak ?_
   refine qad ?_
   refine qbh ?_
   refine retK_ret (L' := L) (R' := R) (res2 rfl (rv_cell (row := [_, _]) tb rfl rfl rfl (by repeat (first | exact zi0 | apply zi1 | apply zi2)) (by rfl) (by rfl)) (rv_tmp (show _ = Value.int _ _ from rfl))) ?hp ?hL ?hR
   case hp =>
    have hsv : solveS a s A = (y.1, [], []) := by rw [solveS]; dsimp only; rw [← hx, if_neg hc0, ← hxy, if_pos hc1]
    exact ya0aa
   case hL => exact (by repeat (first | exact zs0 _ | exact zs1 _ | apply zs2 | apply zs3 | apply zs4 | apply zs5))
   case hR => exact fun r h => inR_self (by simp [h])
  refine qbv ?_
  refine qa8 ?_
  refine qbe ?_
  refine qbm ?_
  refine LJ_call rfl (fallL (q := q) rfl hm1 hs1 hA (by repeat (first | exact inB_here | apply inB_cons | apply inB_app)) hqk) rfl ?_
  rintro v L' R' ⟨u, rfl, huk, hul, rfl, rfl⟩
  obtain ⟨z, hz⟩ : ∃ z, z = relaxS a s A false q.l := ⟨_, rfl⟩
  rw [← hz] at hul ⊢
  have hyz : z = relaxS a s A false y.2 := by rw [hz, hql]
  refine LJ_q (yv_move rfl) rfl ?_
  refine qbs ?_
  refine qbs ?_
  refine qc4 ?_
  refine qad ?_
  refine qaw ?_
  refine qaa ?_
  refine qbq ?_
  refine qaf ?_
  refine q_c (fun hc2 => ?_) (fun hc2 => ?_)
  ·
   refine qae ?_
   refine qck ?_
   refine qaa ?_
   refine qak ?_
   refine qad ?_
   refine qbh ?_
   refine retK_ret (L' := L) (R' := R) (res2 rfl (rv_cell (row := [_, _]) tb rfl rfl rfl (by repeat (first | exact zi0 | apply zi1 | apply zi2)) (by rfl) (by rfl)) (rv_tmp (show _ = Value.int _ _ from rfl))) ?hp ?hL ?hR
   case hp =>
    have hsv : solveS a s A = (z.1, [], []) := by rw [solveS]; dsimp only; rw [← hx, if_neg hc0, ← hxy, if_neg hc1, ← hyz, if_pos hc2]
    exact ya0aa
   case hL => exact (by repeat (first | exact zs0 _ | exact zs1 _ | apply zs2 | apply zs3 | apply zs4 | apply zs5))
   case hR => exact fun r h => inR_self (by simp [h])
  refine qbv ?_
  refine qbm ?_
  refine qbm ?_
  refine LJ_q (yv_build (qs := [(0, (Value.slice _ _ _).cells.toList), (1, (Value.slice _ _ _).cells.toList)]) (out := [_, _]) tb rfl rfl rfl rfl) rfl ?_
  refine qak ?_
  refine qad ?_
  refine qa0 ?_
  refine retK_ret (L' := u.L 3 icell ++ (q.L 3 icell ++ L)) (R' := R) (res2 rfl (rv_cell (row := [_, _]) tb rfl rfl rfl (by repeat (first | exact zi0 | apply zi1 | apply zi2)) (by rfl) (by rfl)) (rv_tmp (show _ = Value.int _ _ from rfl))) ?hp ?hL ?hR
  case hp =>
   have hsv : solveS a s A = (0, z.2, y.2) := by rw [solveS]; dsimp only; rw [← hx, if_neg hc0, ← hxy, if_neg hc1, ← hyz, if_neg hc2]
   exact ⟨u, q, by rw [hsv]; rfl, huk, hqk, by rw [hsv]; exact hul, by rw [hsv]; exact hql, rfl, rfl⟩
  case hL => exact (by repeat (first | exact zs0 _ | exact zs1 _ | apply zs2 | apply zs3 | apply zs4 | apply zs5))
  case hR => exact fun r h => inR_self (by simp [h])

end Go.Proofs.Ytlgjgigciapkfaa
end
section
/-
  The program's raising and lowering. By an AI agent; no person has read it.
-/
set_option linter.unusedSimpArgs false
set_option linter.unusedVariables false
namespace Go.Proofs.Ytlgjgigciapkfaa
open Go.Aw Go
set_option maxRecDepth 20000
attribute [local irreducible] CJ LJ DJ Tri YV Gives seqK blockK loopK retK RV mergeK OwL.L

end Go.Proofs.Ytlgjgigciapkfaa
end
