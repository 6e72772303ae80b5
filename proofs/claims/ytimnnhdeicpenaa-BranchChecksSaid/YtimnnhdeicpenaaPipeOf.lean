/-
  The pipe of a road: what it holds, and that its difference of pressure is the reference's. By an AI agent; no person has read it.
-/
import Derived.Test.YtimnnhdeicpenaaRefFits
set_option linter.unusedSimpArgs false
set_option linter.unusedVariables false
namespace Go.Proofs.Ytimnnhdeicpenaa
open Go.Aw Go

/-- the fans of a road that do not stand, among the first k ones -/
def blowsTo (a : XAir) (s : XSetting) (r : Int) : Nat → List XBlow
  | 0 => []
  | k + 1 => if s.fans.l.getD k 0 ≠ 0 ∧ (a.fans.l.getD k default).road = r then blowsTo a s r k ++ [⟨a.fans.l.getD k default, s.fans.l.getD k 0⟩] else blowsTo a s r k

structure PipeIs (a : XAir) (s : XSetting) (r : Int) (p : XPipe) : Prop where
  road : p.road = { a.mine.roads.l.getD r.toNat default with rest := restTo a s r a.doors.l.length }
  num : p.num = r
  fans : p.fans.l = blowsTo a s r a.fans.l.length

def subS (q : Int) (s : XSpan) (b : XBlow) : XSpan := ⟨s.low - (stateS b.fan b.state q).high, s.high - (stateS b.fan b.state q).low⟩

theorem dropTo_fold (p : XPipe) (q : Int) : ∀ k, k ≤ p.fans.l.length → dropTo p q k = (p.fans.l.take k).foldl (subS q) (dropTo p q 0)
  | 0, _ => by simp
  | k + 1, hk => by
    have hx := get_D (l := p.fans.l) (k := k) default (by omega)
    have e : p.fans.l.take (k + 1) = p.fans.l.take k ++ [p.fans.l.getD k default] := by
      rw [List.take_add_one, hx]; rfl
    rw [e, List.foldl_append, ← dropTo_fold p q k (by omega)]
    rfl

theorem stateS_0 (f : XFan) (q : Int) : stateS f 0 q = ⟨0, 0⟩ := by
  rw [stateS, if_neg (by decide), if_neg (by decide), if_neg (by decide)]

theorem innerTo_fold (a : XAir) (s : XSetting) (r q : Int) : ∀ k, innerTo a s r q k = (blowsTo a s r k).foldl (subS q) (innerTo a s r q 0)
  | 0 => rfl
  | k + 1 => by
    have ih := innerTo_fold a s r q k
    rw [innerTo.eq_2, blowsTo.eq_2]
    by_cases hr : (a.fans.l.getD k default).road = r
    · by_cases h0 : s.fans.l.getD k 0 = 0
      · rw [if_pos hr, if_neg (fun h => h.1 h0), h0, stateS_0, ← ih]
        simp only [Int.sub_zero]
      · rw [if_pos hr, if_pos ⟨h0, hr⟩, List.foldl_append, ← ih]
        rfl
    · rw [if_neg hr, if_neg (fun h => hr h.2), ← ih]

theorem dropP_eq {a : XAir} {s : XSetting} {r : Int} {p : XPipe} (h : PipeIs a s r p) (q : Int) : dropP p q = innerS a s r q := by
  have e0 : dropTo p q 0 = innerTo a s r q 0 := by
    by_cases hq : q < 0
    · rw [dropTo_neg hq, innerTo_neg hq, h.road, Int.neg_mul, Int.neg_mul, Int.mul_assoc, Int.mul_assoc]
    · rw [dropTo_pos hq, innerTo_pos hq, h.road, Int.mul_assoc, Int.mul_assoc]
  rw [dropP, dropTo_fold p q _ (Nat.le_refl _), List.take_length, e0, h.fans, innerS, innerTo_fold a s r q a.fans.l.length]

theorem blowsTo_mem {a : XAir} {s : XSetting} {r : Int} : ∀ (k : Nat), k ≤ a.fans.l.length → ∀ b ∈ blowsTo a s r k, ∃ i : Nat, a.fans.l[i]? = some b.fan
  | 0, _, b, hb => by simp [blowsTo] at hb
  | k + 1, hk, b, hb => by
    rw [blowsTo] at hb
    split at hb
    · rcases List.mem_append.1 hb with h | h
      · exact blowsTo_mem k (by omega) b h
      · rw [List.mem_singleton.1 h]; exact ⟨k, get_D default (by omega)⟩
    · exact blowsTo_mem k (by omega) b hb

theorem blowsTo_length {a : XAir} {s : XSetting} {r : Int} : ∀ (k : Nat), (blowsTo a s r k).length ≤ k
  | 0 => by simp [blowsTo]
  | k + 1 => by
    have := blowsTo_length (a := a) (s := s) (r := r) k
    rw [blowsTo]
    split
    · simp; omega
    · omega

theorem pipeOk_of {a : XAir} {s : XSetting} {r : Int} {p : XPipe} (ha : AirOk a) (hr : 0 ≤ r ∧ r < a.mine.roads.l.length) (h : PipeIs a s r p) : PipeOk p := by
  have hro := ha.mine.road r.toNat _ (get_D default (by omega))
  have hrb := restTo_bounds (s := s) ha hr a.doors.l.length (Nat.le_refl _)
  have hnd := ha.ndoors
  have hnf := ha.nfans
  have hl := blowsTo_length (a := a) (s := s) (r := r) a.fans.l.length
  refine ⟨?_, ?_, ?_, fun i b hb => ?_⟩
  · rw [h.road]; dsimp only; omega
  · rw [h.road]; exact hro.lift
  · rw [h.fans]; omega
  · rw [h.fans] at hb
    obtain ⟨j, hj⟩ := blowsTo_mem a.fans.l.length (Nat.le_refl _) b (List.mem_of_getElem? hb)
    exact (ha.fan j _ hj).1

/-! ### The searches find what rises -/

/-- f rises strictly on the numbers that the searches look at -/
def Rises (f : Int → Int) : Prop := ∀ x y : Int, -1048577 ≤ x → x < y → y ≤ 1048577 → f x < f y

theorem lowS_spec {f : Int → Int} {pr : Int} : ∀ (n : Nat) (lo hi : Int), (hi - lo).toNat = n → lo ≤ hi → lo ≤ lowS f pr lo hi ∧ lowS f pr lo hi ≤ hi
  | n, lo, hi, hn, hle => by
    by_cases h : lo < hi
    · have he := half_eq (x := hi - lo + 1) (by omega)
      by_cases hf : f (lo + (hi - lo + 1).tdiv 2) ≤ pr
      · rw [lowS_le h hf]
        have := lowS_spec (f := f) (pr := pr) _ (lo + (hi - lo + 1).tdiv 2) hi rfl (by omega)
        omega
      · rw [lowS_gt h hf]
        have := lowS_spec (f := f) (pr := pr) _ lo (lo + (hi - lo + 1).tdiv 2 - 1) rfl (by omega)
        omega
    · rw [lowS_end h]; omega
termination_by n => n
decreasing_by all_goals (have := half_eq (x := hi - lo + 1) (by omega); omega)
end Go.Proofs.Ytimnnhdeicpenaa
