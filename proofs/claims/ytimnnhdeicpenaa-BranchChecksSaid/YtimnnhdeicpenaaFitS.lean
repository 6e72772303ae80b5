/-
  Wider knowledge gives wider spans; a lift that is chosen so that a state fits. By an AI agent; no person has read it.
-/
import Derived.Test.YtimnnhdeicpenaaDraw2
set_option linter.unusedSimpArgs false
set_option linter.unusedVariables false
namespace Go.Proofs.Ytimnnhdeicpenaa
open Go.Aw Go

/-- x lies in y -/
def SubS (x y : XSpan) : Prop := y.low ≤ x.low ∧ x.high ≤ y.high
theorem SubS.refl (x : XSpan) : SubS x x := ⟨Int.le_refl _, Int.le_refl _⟩
theorem SubS.trans {x y z : XSpan} (h : SubS x y) (k : SubS y z) : SubS x z := ⟨Int.le_trans k.1 h.1, Int.le_trans h.2 k.2⟩

theorem sq_nonneg (q : Int) : 0 ≤ q * q := by
  rcases Int.le_total 0 q with h | h
  · exact Int.mul_nonneg h h
  · have := Int.mul_nonneg (show 0 ≤ -q by omega) (show 0 ≤ -q by omega)
    rwa [Int.neg_mul_neg] at this
theorem mul_sq_mono {a b q : Int} (h : a ≤ b) : a * q * q ≤ b * q * q := by
  rw [Int.mul_assoc, Int.mul_assoc]
  exact Int.mul_le_mul_of_nonneg_right h (sq_nonneg q)

theorem baseS_sub {r r' l l' : XSpan} (h : SubS r r') (k : SubS l l') (q : Int) : SubS (baseS r l q) (baseS r' l' q) := by
  have h1 := mul_sq_mono (q := q) h.1
  have h2 := mul_sq_mono (q := q) h.2
  have h3 := k.1
  have h4 := k.2
  unfold baseS SubS
  split <;> dsimp only <;> omega

theorem minTo_le {l : List Int} : ∀ {k i : Nat}, i < k → minTo l k ≤ l.getD i 0 ∧ l.getD i 0 ≤ maxTo l k
  | 0, i, h => absurd h (by omega)
  | k + 1, i, h => by
    simp only [minTo, maxTo]
    rcases Nat.lt_or_eq_of_le (Nat.le_of_lt_succ h) with h' | h'
    · have := minTo_le (l := l) h'; omega
    · subst h'; omega

/-- of two states of a door the second says less, or the same -/
def DoorLess (d : XDoor) (s t : Int) : Prop := t = s ∨ (t = -1 ∧ -1 ≤ s ∧ s < d.rests.l.length)
def FanLess (s t : Int) : Prop := t = s ∨ (t = -1 ∧ -1 ≤ s ∧ s ≤ 2)

theorem restS_less {d : XDoor} {s t : Int} (h : DoorLess d s t) : SubS (restS d s) (restS d t) := by
  rcases h with h | ⟨h1, h2, h3⟩
  · rw [h]; exact .refl _
  · rw [h1]
    by_cases hs : s = -1
    · rw [hs]; exact .refl _
    · have := minTo_le (l := d.rests.l) (k := d.rests.l.length) (i := s.toNat) (by omega)
      unfold restS
      rw [if_neg (by omega), if_neg hs, if_neg (by omega), if_pos rfl]
      exact this

theorem stateS_less {f : XFan} {s t : Int} (h : FanLess s t) (q : Int) : SubS (stateS f s q) (stateS f t q) := by
  rcases h with h | ⟨h1, h2, h3⟩
  · rw [h]; exact .refl _
  · rw [h1]
    have key : ∀ b : Bool, SubS (alongS f.curve.l b q) (stateS f (-1) q) := fun b => by
      unfold stateS SubS
      rw [if_neg (by decide), if_neg (by decide), if_pos rfl]
      cases b <;> dsimp only <;> omega
    rw [stateS]
    split
    · exact key _
    · split
      · exact key _
      · split
        · rename_i h
          unfold stateS
          rw [if_neg (by decide), if_neg (by decide), if_pos rfl]
          exact .refl _
        · unfold stateS SubS
          rw [if_neg (by decide), if_neg (by decide), if_pos rfl]
          dsimp only; omega

/-- a setting that says less than another one, or the same -/
structure SetLess (a : XAir) (s t : XSetting) : Prop where
  fan : ∀ k, k < a.fans.l.length → FanLess (s.fans.l.getD k 0) (t.fans.l.getD k 0)
  door : ∀ k, k < a.doors.l.length → DoorLess (a.doors.l.getD k default) (s.doors.l.getD k 0) (t.doors.l.getD k 0)

theorem restTo_less {a : XAir} {s t : XSetting} (h : SetLess a s t) (r : Int) : ∀ k, k ≤ a.doors.l.length → SubS (restTo a s r k) (restTo a t r k)
  | 0, _ => .refl _
  | k + 1, hk => by
    have ih := restTo_less h r k (by omega)
    have hd := restS_less (h.door k (by omega))
    unfold SubS at *
    simp only [restTo]
    split
    · dsimp only; omega
    · exact ih
theorem innerTo_less {a : XAir} {s t : XSetting} (h : SetLess a s t) (r q : Int) : ∀ k, k ≤ a.fans.l.length → SubS (innerTo a s r q k) (innerTo a t r q k)
  | 0, _ => baseS_sub (restTo_less h r _ (Nat.le_refl _)) (.refl _) q
  | k + 1, hk => by
    have ih := innerTo_less h r q k (by omega)
    have hd := stateS_less (f := a.fans.l.getD k default) (h.fan k (by omega)) q
    unfold SubS at *
    simp only [innerTo]
    split
    · dsimp only; omega
    · exact ih
theorem innerS_less {a : XAir} {s t : XSetting} (h : SetLess a s t) (r q : Int) : SubS (innerS a s r q) (innerS a t r q) := innerTo_less h r q _ (Nat.le_refl _)

/-! ### The drawn lifts -/

def dSum (doors : List XDoor) (sd : List Int) (r : Int) : Nat → Int
  | 0 => 0
  | k + 1 => if (doors.getD k default).road = r then dSum doors sd r k + (restS (doors.getD k default) (sd.getD k 0)).low else dSum doors sd r k
def fSum (fans : List XFan) (sf : List Int) (r q : Int) : Nat → Int
  | 0 => 0
  | k + 1 => if (fans.getD k default).road = r then fSum fans sf r q k + (stateS (fans.getD k default) (sf.getD k 0) q).low else fSum fans sf r q k

theorem restS_made {d : XDoor} {road : Int} (hd : MadeDoor road d) {s : Int} (hs : 0 ≤ s ∧ s < d.rests.l.length) : (restS d s).low = (restS d s).high ∧ 0 ≤ (restS d s).low ∧ (restS d s).low ≤ 900 := by
  have hl := hd.len
  have := hd.rest s.toNat _ (get_D 0 (by omega))
  unfold restS
  rw [if_neg (by omega), if_neg (by omega)]
  dsimp only; omega

theorem curveS_made {l : List XPoint} (h : MadeCurve l) (q : Int) : 0 ≤ (curveS l q).low ∧ (curveS l q).low ≤ (curveS l q).high ∧ (curveS l q).high ≤ 3000 := by
  cases l with
  | nil => simp [curveS]
  | cons p rest =>
    have h0 := h.ok.pt 0 p rfl
    have ht := h.top
    simp only [List.getD_cons_zero] at ht
    unfold curveS
    dsimp only
    split
    · dsimp only; omega
    · have := curveGo_bounds rest p q h.ok (by omega)
      omega
theorem alongS_made {l : List XPoint} (h : MadeCurve l) (back : Bool) (q : Int) : -3000 ≤ (alongS l back q).low ∧ (alongS l back q).low ≤ (alongS l back q).high ∧ (alongS l back q).high ≤ 3000 := by
  have h1 := curveS_made h q
  have h2 := curveS_made h (-q)
  unfold alongS negS
  split <;> first | omega | (dsimp only; omega)
theorem stateS_made {f : XFan} (h : MadeCurve f.curve.l) (s q : Int) : -3000 ≤ (stateS f s q).low ∧ (stateS f s q).low ≤ (stateS f s q).high ∧ (stateS f s q).high ≤ 3000 := by
  have h1 := alongS_made h f.back q
  have h2 := alongS_made h (!f.back) q
  have h3 := alongS_made h false q
  have h4 := alongS_made h true q
  unfold stateS
  split
  · omega
  · split
    · omega
    · split <;> dsimp only <;> omega

theorem dSum_bounds {n : Nat} {m : Int} {doors : List XDoor} {sd : List Int} (h : DoorsD n m doors sd) (r : Int) : ∀ k, k ≤ doors.length → 0 ≤ dSum doors sd r k ∧ dSum doors sd r k ≤ 900 * (k : Int)
  | 0, _ => by simp [dSum]
  | k + 1, hk => by
    have ih := dSum_bounds h r k (by omega)
    have hl := h.len
    have hg := get_D (l := doors) (k := k) default (by omega)
    have hb := restS_made (h.door _ (List.mem_of_getElem? hg)).made (h.st k _ _ hg (get_D 0 (by omega)))
    simp only [dSum]
    split <;> omega
theorem fSum_bounds {n : Nat} {m : Int} {fans : List XFan} {sf : List Int} (h : FansD n m fans sf) (r q : Int) : ∀ k, k ≤ fans.length → -3000 * (k : Int) ≤ fSum fans sf r q k ∧ fSum fans sf r q k ≤ 3000 * (k : Int)
  | 0, _ => by simp [fSum]
  | k + 1, hk => by
    have ih := fSum_bounds h r q k (by omega)
    have hg := get_D (l := fans) (k := k) default (by omega)
    have hb := stateS_made (h.fan _ (List.mem_of_getElem? hg)).curve (sf.getD k 0) q
    simp only [fSum]
    split <;> omega

theorem FanD.ok {n : Nat} {f : XFan} (h : FanD n f) : FanOk f := ⟨h.road.1, h.curve.len.1, by have := h.curve.len; omega, h.curve.ok⟩
theorem DoorD.ok {n : Nat} {d : XDoor} (h : DoorD n d) : DoorOk d := ⟨h.road.1, by have := h.made.len; omega, fun i x hx => by have := h.made.rest i x hx; omega, h.made.falls⟩

/-- the lift of a road with which its flow q fits to the difference d -/
def liftOf (r : XRoad) (e dS fS d q : Int) : Int := (r.rest.low + e + dS) * max q (-q) * q - d - fS
/-- r' is r with a lift with which the state fits -/
def Fitted (dS fS d q : Int) (r r' : XRoad) : Prop :=
  ∃ e u v : Int, (0 ≤ e ∧ e ≤ r.rest.high - r.rest.low) ∧ (0 ≤ u ∧ u ≤ 29) ∧ (0 ≤ v ∧ v ≤ 29) ∧ r' = { r with lift := ⟨liftOf r e dS fS d q - u, liftOf r e dS fS d q + v⟩ }

theorem lift_bounds {R q : Int} (hR : 0 ≤ R ∧ R ≤ 2000) (hq : -600 ≤ q ∧ q ≤ 600) : (0 ≤ R * max q (-q) ∧ R * max q (-q) ≤ 1200000) ∧ -720000000 ≤ R * max q (-q) * q ∧ R * max q (-q) * q ≤ 720000000 := by
  have hm : 0 ≤ max q (-q) ∧ max q (-q) ≤ 600 := by omega
  generalize max q (-q) = m at *
  have h1 := Int.mul_nonneg hR.1 hm.1
  have h2 := Int.mul_le_mul hR.2 hm.2 hm.1 (by omega)
  generalize R * m = z at *
  refine ⟨by omega, ?_⟩
  rcases Int.le_total 0 q with h | h
  · have h3 := Int.mul_nonneg h1 h
    have h4 := Int.mul_le_mul (show z ≤ 1200000 by omega) hq.2 h (by omega)
    omega
  · have h3 := Int.mul_nonneg h1 (show 0 ≤ -q by omega)
    have h4 := Int.mul_le_mul (show z ≤ 1200000 by omega) (show -q ≤ 600 by omega) (by omega) (by omega)
    rw [Int.mul_neg] at h3 h4
    omega

theorem liftOf_base {R q : Int} : R * max q (-q) * q = if q < 0 then -(R * q * q) else R * q * q := by
  split
  · rw [show max q (-q) = -q by omega, Int.mul_neg, Int.neg_mul]
  · rw [show max q (-q) = q by omega]

/-- in a state to which all lifts are fitted each open road fits -/
theorem fitted_inner {a : XAir} {s : XSetting} {n : Nat} {m m' : Int} (hF : FansD n m a.fans.l s.fans.l) (hD : DoorsD n m' a.doors.l s.doors.l) {i : Nat} {r0 : XRoad} {d q : Int} (hr0 : r0.rest.low ≤ r0.rest.high)
    (hfit : Fitted (dSum a.doors.l s.doors.l i a.doors.l.length) (fSum a.fans.l s.fans.l i q a.fans.l.length) d q r0 (a.mine.roads.l.getD i default)) :
    (innerS a s i q).low ≤ d ∧ d ≤ (innerS a s i q).high := by
  obtain ⟨e, u, v, he, hu, hv, hr⟩ := hfit
  have hrest : (a.mine.roads.l.getD i default).rest = r0.rest := by rw [hr]
  have hlift : (a.mine.roads.l.getD i default).lift = ⟨liftOf r0 e (dSum a.doors.l s.doors.l i a.doors.l.length) (fSum a.fans.l s.fans.l i q a.fans.l.length) d q - u, liftOf r0 e (dSum a.doors.l s.doors.l i a.doors.l.length) (fSum a.fans.l s.fans.l i q a.fans.l.length) d q + v⟩ := by rw [hr]
  have hdo : ∀ k, k ≤ a.doors.l.length → restTo a s i k = ⟨r0.rest.low + dSum a.doors.l s.doors.l i k, r0.rest.high + dSum a.doors.l s.doors.l i k⟩ := by
    intro k
    induction k with
    | zero => intro _; simp only [restTo, dSum, Int.toNat_natCast, hrest, Int.add_zero]
    | succ k ih =>
      intro hk
      have hg := get_D (l := a.doors.l) (k := k) default (by omega)
      have hl := hD.len
      have hb := restS_made (hD.door _ (List.mem_of_getElem? hg)).made (hD.st k _ _ hg (get_D 0 (by omega)))
      simp only [restTo, dSum, ih (by omega)]
      split
      · rw [← hb.1]; simp only [Int.add_assoc]
      · rfl
  have hfa : ∀ k, k ≤ a.fans.l.length → (innerTo a s i q k).low + fSum a.fans.l s.fans.l i q k ≤ (innerTo a s i q 0).low ∧ (innerTo a s i q k).high + fSum a.fans.l s.fans.l i q k = (innerTo a s i q 0).high := by
    intro k
    induction k with
    | zero => intro _; simp only [fSum]; omega
    | succ k ih =>
      intro hk
      have ih := ih (by omega)
      have hg := get_D (l := a.fans.l) (k := k) default (by omega)
      have hb := stateS_made (hF.fan _ (List.mem_of_getElem? hg)).curve (s.fans.l.getD k 0) q
      rw [innerTo.eq_2, fSum.eq_2]
      split
      · dsimp only; omega
      · exact ih
  have h1 := hfa _ (Nat.le_refl _)
  have h0 : innerTo a s i q 0 = baseS ⟨r0.rest.low + dSum a.doors.l s.doors.l i a.doors.l.length, r0.rest.high + dSum a.doors.l s.doors.l i a.doors.l.length⟩ (a.mine.roads.l.getD i default).lift q := by
    rw [innerTo, hdo _ (Nat.le_refl _), Int.toNat_natCast]
  rw [h0, hlift] at h1
  unfold innerS
  generalize innerTo a s i q a.fans.l.length = I at *
  generalize fSum a.fans.l s.fans.l i q a.fans.l.length = fS at *
  generalize dSum a.doors.l s.doors.l i a.doors.l.length = dS at *
  unfold liftOf at h1
  rw [liftOf_base] at h1
  have k1 := mul_sq_mono (q := q) (show r0.rest.low + dS ≤ r0.rest.low + e + dS by omega)
  have k2 := mul_sq_mono (q := q) (show r0.rest.low + e + dS ≤ r0.rest.high + dS by omega)
  unfold baseS at h1
  dsimp only at h1
  by_cases hq : q < 0
  · rw [if_pos hq, if_pos hq] at h1
    dsimp only at h1
    omega
  · rw [if_neg hq, if_neg hq] at h1
    dsimp only at h1
    omega
end Go.Proofs.Ytimnnhdeicpenaa
