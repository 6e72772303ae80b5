/-
  Statements about chapter 9: doors. By an AI agent; no person has read it.
-/
import Derived.Test.YtimnnhdeicpenaaLaw9b
import Derived.Test.YtimnnhdeicpenaaMades
import Derived.Test.YtimnnhdeicpenaaWide
set_option linter.unusedSimpArgs false
set_option linter.unusedVariables false
namespace Go.Proofs.Ytimnnhdeicpenaa
open Go.Aw Go
set_option maxRecDepth 20000
attribute [local irreducible] CJ LJ DJ Tri YV Gives seqK blockK loopK retK RV mergeK OwL.L

/-- a made air with one more door, its k'th -/
structure DoorA (a : XAir) (k : Nat) (d : XDoor) : Prop where
  err : airErr a = 0
  len : a.doors.l.length = k + 1
  get : a.doors.l[k]? = some d
  small : k ≤ 2 ∧ a.fans.l.length ≤ 2
  made : MadeDoor d.road d
  road : 0 ≤ d.road ∧ d.road < a.mine.roads.l.length

theorem doorA_of {a : XAir} {s : XSetting} {x : XState} {d : XDoor} {y : Arr XDoor} (h : MadeA a s x) (hd : MadeDoor d.road d) (hr : 0 ≤ d.road ∧ d.road < a.mine.roads.l.length) (hy : y.l = a.doors.l ++ [d]) : DoorA ⟨a.mine, a.fans, y⟩ a.doors.l.length d := by
  have hok := airOk_of h.err
  have h1 : mineErr a.mine = 0 := by
    have := h.err
    unfold airErr at this
    split at this
    · rename_i h1; exact absurd this h1
    · rename_i h1; simpa using h1
  have hok2 : DoorOk d := ⟨hr.1, by have := hd.len; omega, fun i v hv => by have := hd.rest i v hv; omega, hd.falls⟩
  have hnd := h.ndoors
  have hnf := h.nfans
  refine ⟨airErr_zero h1 (by show a.fans.l.length ≤ 8; omega) (fun f hf => ?_) (by show y.l.length ≤ 16; rw [hy]; simp; omega) (fun e he => ?_), by show y.l.length = _; rw [hy]; simp, by show y.l[_]? = _; rw [hy]; simp, ⟨by omega, hnf⟩, hd, hr⟩
  · obtain ⟨i, hi⟩ := List.mem_iff_getElem?.1 hf
    exact hok.fan i f hi
  · have he' : e ∈ a.doors.l ++ [d] := hy ▸ he
    rcases List.mem_append.1 he' with h2 | h2
    · obtain ⟨i, hi⟩ := List.mem_iff_getElem?.1 h2
      exact ⟨⟨(hok.door i e hi).1, (h.rests e h2).other⟩, (hok.door i e hi).2⟩
    · rw [List.mem_singleton.1 h2]
      exact ⟨⟨hok2, hd.other⟩, hr.2⟩

theorem CJ_doorA {P n code t R} {Q : TPost} {A : List Blk} {m : MadeO} {cb : Blk} {o : Ow} {d : XDoor} {b1 b2 b3 : Nat} {T1 T2 T3 : TypeId} {X2 X3 : List Value} (hm : m.Ok) (hM : MadeA m.a m.t m.x) (hok : (⟨o, m.doors.l ++ [d]⟩ : OwL XDoor).ok 3 XDoor.cells)
    (hd : MadeDoor d.road d) (hr : 0 ≤ d.road ∧ d.road < m.a.mine.roads.l.length) (hf : ∀ f ∈ m.fans.l, InR f.sl R) (hd2 : ∀ d ∈ m.doors.l, InR d.sl R) (hd3 : InR d.sl R)
    (h : ∀ a k R', DoorA a k d → AirR a R' → (∀ r ∈ R, InR r R') → CJ P n code t (⟨b1, a.cells, T1⟩ :: (A ++ (cb :: []))) R' Q) :
    CJ P n code t (⟨b3, X3, T3⟩ :: ⟨b2, X2, T2⟩ :: ⟨b1, [m.places.val, m.roads.val, m.fans.val, (⟨o, m.doors.l ++ [d]⟩ : OwL XDoor).val], T1⟩ :: (A ++ MadeO.L { m with doors := ⟨o, m.doors.l ++ [d]⟩ } cb)) R Q := by
  refine CJ_weak (L' := ⟨b1, [m.places.val, m.roads.val, m.fans.val, (⟨o, m.doors.l ++ [d]⟩ : OwL XDoor).val], T1⟩ :: (A ++ MadeO.L { m with doors := ⟨o, m.doors.l ++ [d]⟩ } cb)) (.cons _ (.cons _ (List.Sublist.refl _))) (allR_self _) ?_
  have hm2 : MadeO.Ok { m with doors := ⟨o, m.doors.l ++ [d]⟩ } := ⟨hm.places, hm.roads, hm.fans, hok, hm.tf, hm.td, hm.pres, hm.flows⟩
  refine CJ_frzMade (A := _ :: A) hm2 hf (fun e he => ?_) fun R' h1 h2 h3 h4 => ?_
  · rcases List.mem_append.1 he with h' | h'
    · exact hd2 e h'
    · rw [List.mem_singleton.1 h']; exact hd3
  · exact h ⟨m.a.mine, m.a.fans, (⟨o, m.doors.l ++ [d]⟩ : OwL XDoor).arr⟩ m.a.doors.l.length R' (doorA_of hM hd hr rfl) h1 h4

/-- an own slice of numbers, behind a variable that holds it, is frozen under a letter of its own -/
theorem CJ_frzI {P n code t L R} {Q : TPost} (Z A : List Blk) {b : Nat} {T TI : TypeId} {X : Value} {o : Ow} {l l' : List Int} (hok : (⟨o, l'⟩ : OwL Int).ok 1 icell) (e1 : l'.length = l.length)
    (h : ∀ y : Arr Int, y.l = l' → CJ P n code t (Z ++ (⟨b, [X, y.val], T⟩ :: (A ++ L))) (isl y :: R) Q) :
    CJ P n code t (Z ++ (⟨b, [X, (⟨o, l⟩ : OwL Int).val], T⟩ :: (A ++ ((⟨o, l'⟩ : OwL Int).L TI icell ++ L)))) R Q := by
  have v1 : (⟨o, l⟩ : OwL Int).val = (⟨o, l'⟩ : OwL Int).val := by simp only [OwL.val, e1]
  have e : ∀ (x : Blk) (Y : List Blk), Z ++ (x :: (A ++ Y)) = (Z ++ (x :: A)) ++ Y := fun x Y => by simp
  rw [v1, e]
  refine CJ_frz1 (wd := 1) [] (fun _ => rfl) (by decide) hok (fun s hs => by cases hs) ?_
  rw [← e]
  exact h (⟨o, l'⟩ : OwL Int).arr rfl

theorem getD_setI {l : List Int} {k i : Nat} {v : Int} (hk : k < l.length) : (l.set k v).getD i 0 = if i = k then v else l.getD i 0 := by
  rw [List.getD_eq_getElem?_getD, List.getElem?_set, List.getD_eq_getElem?_getD]
  split
  · rename_i h; subst h; simp [hk]
  · rename_i h; rw [if_neg (fun e => h e.symm)]

theorem doors_fit {a : XAir} {f l : List Int} (h : AnySet a a.fans.l.length a.doors.l.length f l) {k : Nat} {d : XDoor} (hd : a.doors.l[k]? = some d) {v : Int} (hv : -1 ≤ v ∧ v < d.rests.l.length) {y z : Arr Int} (hy : y.l = f) (hz : z.l = l.set k v) : fitB a ⟨y, z⟩ = true := by
  subst hy
  have hl := h.ld
  have hk := (List.getElem?_eq_some_iff.1 hd).1
  refine fitB_true ⟨h.lf, by show z.l.length = _; rw [hz]; simpa using hl, h.fan, fun i w e hw he => ?_⟩
  rw [show (⟨y, z⟩ : XSetting).doors.l = l.set k v from hz, List.getElem?_set] at hw
  split at hw
  · rename_i h1
    subst h1
    rw [if_pos (by omega)] at hw
    cases hw
    rw [hd] at he
    cases he
    exact hv
  · exact h.door i w e hw he

/-- what holds of the three settings -/
structure DoorsF (a : XAir) (s t u : XSetting) (r : Int) : Prop where
  flow : ∀ p, (0 < (flowS a s r p).low → (flowS a s r p).low ≤ (flowS a t r p).low) ∧ ((flowS a s r p).high < 0 → (flowS a t r p).high ≤ (flowS a s r p).high) ∧
    (flowS a u r p).low ≤ (flowS a s r p).low ∧ (flowS a u r p).low ≤ (flowS a t r p).low ∧ (flowS a s r p).high ≤ (flowS a u r p).high ∧ (flowS a t r p).high ≤ (flowS a u r p).high
  drop : ∀ q, Within (dropS a s r q) (dropS a u r q)

theorem doorsF {a : XAir} {k : Nat} {d : XDoor} (hD : DoorA a k d) {f l : List Int} (h : AnySet a a.fans.l.length a.doors.l.length f l) {tf ys yt yu : Arr Int} (hf : tf.l = f) {n : Int} (hn : 0 ≤ n ∧ n < (d.rests.l.length : Int) - 1)
    (hs : ys.l = l.set k n) (ht : yt.l = ys.l.set k (n + 1)) (hu : yu.l = ys.l.set k (-1)) : DoorsF a ⟨tf, ys⟩ ⟨tf, yt⟩ ⟨tf, yu⟩ d.road := by
  have hae := airOk_of hD.err
  have ht' : yt.l = l.set k (n + 1) := by rw [ht, hs, List.set_set]
  have hu' : yu.l = l.set k (-1) := by rw [hu, hs, List.set_set]
  have hl := h.ld
  have hk := (List.getElem?_eq_some_iff.1 hD.get).1
  have hr := hD.road
  have r1 := rightB_true hD.err (doors_fit h hD.get (v := n) (by omega) hf hs)
  have r2 := rightB_true hD.err (doors_fit h hD.get (v := n + 1) (by omega) hf ht')
  have r3 := rightB_true hD.err (doors_fit h hD.get (v := -1) (by omega) hf hu')
  have hdk : a.doors.l.getD k default = d := getD_some hD.get
  have get : ∀ (i : Nat) (v : Int) (z : Arr Int), z.l = l.set k v → z.l.getD i 0 = if i = k then v else l.getD i 0 := fun i v z hz => by rw [hz, getD_setI (by omega)]
  have hrest : ∀ i, i < d.rests.l.length → d.rests.l.getD i 0 = d.rests.l.getD i 0 := fun _ _ => rfl
  have w1 : ∀ i, i < a.doors.l.length → Within (restS (a.doors.l.getD i default) (ys.l.getD i 0)) (restS (a.doors.l.getD i default) (yu.l.getD i 0)) := fun i hi => by
    rw [get i n ys hs, get i (-1) yu hu']
    by_cases e : i = k
    · rw [if_pos e, if_pos e, e, hdk]; exact restS_unknown (by omega)
    · rw [if_neg e, if_neg e]; exact Within.refl _
  have w2 : ∀ i, i < a.doors.l.length → Within (restS (a.doors.l.getD i default) (yt.l.getD i 0)) (restS (a.doors.l.getD i default) (yu.l.getD i 0)) := fun i hi => by
    rw [get i (n + 1) yt ht', get i (-1) yu hu']
    by_cases e : i = k
    · rw [if_pos e, if_pos e, e, hdk]; exact restS_unknown (by omega)
    · rw [if_neg e, if_neg e]; exact Within.refl _
  have w3 : ∀ i, i < a.doors.l.length → (restS (a.doors.l.getD i default) (yt.l.getD i 0)).high ≤ (restS (a.doors.l.getD i default) (ys.l.getD i 0)).high := fun i hi => by
    rw [get i (n + 1) yt ht', get i n ys hs]
    by_cases e : i = k
    · rw [if_pos e, if_pos e, e, hdk, restS_known (by omega), restS_known (by omega)]
      have := fallsB_lt hD.made.falls (k := n.toNat) (by omega)
      rw [show (n + 1).toNat = n.toNat + 1 from by omega]
      dsimp only
      omega
    · rw [if_neg e, if_neg e]; exact Int.le_refl _
  have wi1 : ∀ q, Within (innerS a ⟨tf, ys⟩ d.road q) (innerS a ⟨tf, yu⟩ d.road q) := fun q => innerS_within rfl rfl (Within.refl _) (Within.refl _) w1 fun _ _ => Within.refl _
  have wi2 : ∀ q, Within (innerS a ⟨tf, yt⟩ d.road q) (innerS a ⟨tf, yu⟩ d.road q) := fun q => innerS_within rfl rfl (Within.refl _) (Within.refl _) w2 fun _ _ => Within.refl _
  cases ho : (a.mine.roads.l.getD d.road.toNat default).closed with
  | true =>
    have o1 : openB a ⟨tf, ys⟩ d.road = false := by rw [openB_eq r1 hr, ho]; rfl
    have o2 : openB a ⟨tf, yt⟩ d.road = false := by rw [openB_eq r2 hr, ho]; rfl
    have o3 : openB a ⟨tf, yu⟩ d.road = false := by rw [openB_eq r3 hr, ho]; rfl
    refine ⟨fun p => ?_, fun q => ?_⟩
    · rw [flowS_shut o1, flowS_shut o2, flowS_shut o3]
      exact ⟨fun _ => Int.le_refl _, fun _ => Int.le_refl _, Int.le_refl _, Int.le_refl _, Int.le_refl _, Int.le_refl _⟩
    · rw [dropS_shut o1, dropS_shut o3]; exact Within.refl _
  | false =>
    have o1 : openB a ⟨tf, ys⟩ d.road = true := by rw [openB_eq r1 hr, ho]; rfl
    have o2 : openB a ⟨tf, yt⟩ d.road = true := by rw [openB_eq r2 hr, ho]; rfl
    have o3 : openB a ⟨tf, yu⟩ d.road = true := by rw [openB_eq r3 hr, ho]; rfl
    refine ⟨fun p => ?_, fun q => ?_⟩
    · rw [flowS_open o1, flowS_open o2, flowS_open o3]
      have l1 := flowLow_is (s := ⟨tf, ys⟩) hae hr p
      have l2 := flowLow_is (s := ⟨tf, yt⟩) hae hr p
      have l3 := flowLow_is (s := ⟨tf, yu⟩) hae hr p
      have h1 := flowHigh_is (s := ⟨tf, ys⟩) hae hr p
      have h2 := flowHigh_is (s := ⟨tf, yt⟩) hae hr p
      have h3 := flowHigh_is (s := ⟨tf, yu⟩) hae hr p
      exact ⟨low_less (fun q hq _ => innerS_less_pos (s := ⟨tf, ys⟩) (t := ⟨tf, yt⟩) rfl w3 hq) l1 l2, high_less (fun q hq _ => innerS_less_neg (s := ⟨tf, ys⟩) (t := ⟨tf, yt⟩) rfl w3 hq) h1 h2,
        low_within (fun q _ _ => (wi1 q).hi) l1 l3, low_within (fun q _ _ => (wi2 q).hi) l2 l3, high_within (fun q _ _ => (wi1 q).lo) h1 h3, high_within (fun q _ _ => (wi2 q).lo) h2 h3⟩
    · unfold dropS
      rw [o1, o3]
      split
      · exact Within.refl _
      · exact wi1 q

theorem branchDoors_law (y : Arr Int) (door state pr flow : Int) (R : List Sl) (hy : CodesR y R) (h1 : I64 door) (h2 : I64 state) (h3 : I64 pr) (h4 : I64 flow) :
    Tri Try.prog 9 [y.val, .int .i64 door, .int .i64 state, .int .i64 pr, .int .i64 flow].toArray [] R (fun v L' R' => v = .bool true ∧ [] = L' ∧ R = R') := by
  refine tri_enter 204 Try.call9 Try.func9 rfl rfl rfl ?_
  refine CJ_seq (CJ_region ?_)
  refine LJ_q (yv_assign (show _ = Value.bool _ from rfl)) rfl ?_
  refine LJ_nil (seqK_normal (CJ_seq (CJ_region ?_)))
  refine LJ_q (yv_move (show _ = Value.slice _ _ _ from rfl)) rfl ?_
  refine LJ_call rfl (new_tri y _ _ hy) rfl ?_
  rintro v L' R' ⟨c, rfl, hx, rfl, rfl⟩
  refine LJ_q (yv_assign (show _ = Value.pointer _ from rfl)) rfl ?_
  refine LJ_nil (seqK_normal (CJ_seq (CJ_region ?_)))
  refine LJ_q (yv_move (show _ = Value.pointer _ from rfl)) rfl ?_
  refine LJ_call rfl (made1 (.consL .nil) hx (Nat.zero_le _)) rfl ?_
  rintro v L' R' ⟨m, k1, S, rfl, hm, hMA, hif, hid, hk1, rfl, rfl⟩
  simp only [List.append_assoc, List.cons_append, List.nil_append]
  refine LJ_q (yv_move rfl) rfl ?_
  refine LJ_q (yv_extract rfl rfl) rfl ?_
  refine LJ_q (yv_extract rfl rfl) rfl ?_
  refine LJ_q (yv_extract rfl rfl) rfl ?_
  refine LJ_alloc tb rfl rfl ?_
  intro b12
  refine LJ_alloc tb rfl rfl ?_
  intro b13
  refine LJ_alloc tb rfl rfl ?_
  intro b14
  refine LJ_storeW tb rfl rfl rfl rfl (by repeat (first | apply zu0 | apply zu1 | apply zu2)) (by rfl) (by rfl) ?_
  refine LJ_storeW tb rfl rfl rfl rfl (by repeat (first | apply zu0 | apply zu1 | apply zu2)) (by rfl) (by rfl) ?_
  refine LJ_storeW tb rfl rfl rfl rfl (by repeat (first | apply zu0 | apply zu1 | apply zu2)) (by rfl) (by rfl) ?_
  refine LJ_nil (seqK_normal (CJ_seq (CJ_seq ?_)))
  have hnr := hMA.nroads
  have hnr3 : m.roads.l.length = m.a.mine.roads.l.length := rfl
  have hnd := hMA.ndoors
  have hnd3 : m.doors.l.length = m.a.doors.l.length := rfl
  have hxS : CodesR (codes300 y) (S ++ bsl (codes300 y) :: R) := hx.mono fun r hr => inR_self (by simp only [List.mem_append]; exact .inr hr)
  refine CJ_region ?_
  refine LJ_q (yv_field tb rfl rfl rfl) rfl ?_
  refine LJ_q (yv_field tb rfl rfl rfl) rfl ?_
  refine LJ_q (yv_load1 tb rfl rfl rfl (by repeat (first | exact zi0 | apply zi1 | apply zi2)) (by rfl)) rfl ?_
  refine LJ_q (yv_len tb rfl rfl rfl) rfl ?_
  refine LJ_q (yv_eql rfl rfl) rfl ?_
  refine LJ_nil (seqK_normal ?_)
  refine CJ_cond (show _ = Value.bool _ from rfl) (fun hc0 => ?_) (fun hc0 => ?_)
  ·
   try simp only [zb1, zb2, zb3, zb4, zb5, zb6, zb7, zb8] at hc0
   refine CJ_seq (CJ_region ?_)
   refine LJ_call rfl (awake_tri _ _) rfl ?_
   rintro v L' R' ⟨rfl, rfl, rfl⟩
   refine LJ_q (yv_assign (show _ = Value.bool _ from rfl)) rfl ?_
   refine LJ_nil (seqK_normal (CJ_ret (seqK_ret ?_)))
   refine retK_ret (L' := []) (R' := R) (res1 rfl (rv_tmp (show _ = Value.bool _ from rfl))) ?hp ?hL ?hR
   case hp => exact ⟨rfl, rfl, rfl⟩
   case hL => exact List.nil_sublist _
   case hR => exact fun r hr => inR_self (by simp [hr])
  ·
   try simp only [zb1, zb2, zb3, zb4, zb5, zb6, zb7, zb8] at hc0
   refine CJ_skip (seqK_normal (CJ_seq ?_))
   refine CJ_drawn2 tb [] [0, 1, 2, 3, 4, 5, 6, 7, 8, 9, 10] [11, 12, 13] ([Blk.mk b12 _ _]) _ mixed (by kernel_rfl) (by repeat (first | exact zs0 _ | exact zs1 _ | apply zs2 | apply zs3 | apply zs4 | apply zs5)) (List.nil_sublist _) ?_
   refine DJ3_q (yv_field tb rfl rfl rfl) rfl rfl rfl rfl ?_
   refine DJ3_q (yv_load1 tb rfl rfl rfl (by repeat (first | exact zi0 | apply zi1 | apply zi2)) (by rfl)) rfl rfl rfl rfl ?_
   refine DJ3_q (yv_move (show _ = Value.pointer _ from rfl)) rfl rfl rfl rfl ?_
   refine DJ3_q (yv_move (show _ = Value.int _ _ from rfl)) rfl rfl rfl rfl ?_
   refine DJ3_q (yv_field tb rfl rfl rfl) rfl rfl rfl rfl ?_
   refine DJ3_q (yv_field tb rfl rfl rfl) rfl rfl rfl rfl ?_
   refine DJ3_q (yv_load1 tb rfl rfl rfl (by repeat (first | exact zi0 | apply zi1 | apply zi2)) (by rfl)) rfl rfl rfl rfl ?_
   refine DJ3_q (yv_len tb rfl rfl rfl) rfl rfl rfl rfl ?_
   refine DJ3_call rfl (mod_tri _ _ _ _ h1 (by omega)) rfl rfl ?_
   rintro v L' R' ⟨rfl, rfl, rfl⟩
   refine ⟨(by repeat (first | exact zs0 _ | exact zs1 _ | apply zs2 | apply zs3 | apply zs4 | apply zs5)), (by first | exact allR_self _ | exact (fun r h => inR_self (by simp [h]))), ?_⟩
   refine DJ3_call rfl (door1 (by repeat (first | apply USeg.here | apply USeg.cons | apply USeg.app)) hxS hk1) rfl rfl ?_
   rintro v L' R' ⟨d, k2, rfl, hd, hk2, rfl, rfl⟩
   refine ⟨(by repeat (first | exact zs0 _ | exact zs1 _ | apply zs2 | apply zs3 | apply zs4 | apply zs5)), (by first | exact allR_self _ | exact (fun r h => inR_self (by simp [h]))), ?_⟩
   refine DJ3_g (gives_buildSlice (qs := [(0, (Value.agg _).cells.toList)]) (out := [_, _, _]) tb rfl rfl rfl rfl rfl rfl rfl) rfl rfl rfl ?_
   rintro v L' R' ⟨b52, rfl, rfl, hR52⟩
   replace hR52 := hR52.symm; subst hR52
   refine ⟨(by repeat (first | exact zs0 _ | exact zs1 _ | apply zs2 | apply zs3 | apply zs4 | apply zs5)), allR_self _, ?_⟩
   refine DJ3_phase ?_
   refine DJ_g (gives_append1 (f := XDoor.cells) (p := m.doors) (a := d) tb rfl rfl rfl rfl (hm.doors) (by repeat (first | apply OSeg.cons | exact OSeg.here | exact OSeg.last | exact OSeg.at (by assumption) | apply OSeg.app)) (shown_own (by repeat (first | exact zi0 | apply zi1 | apply zi2)) rfl rfl) rfl (by first | omega | (simp only [List.length_cons, List.length_nil, List.length_append]; omega))) rfl rfl rfl ?_
   rintro v L' R' ⟨o53, rfl, hok53, rfl, rfl⟩
   refine ⟨(by repeat (first | exact zs0 _ | exact zs1 _ | apply zs2 | apply zs3 | apply zs4 | apply zs5)), allR_self _, ?_⟩
   refine DJ_q (yv_field tb rfl rfl rfl) rfl rfl rfl ?_
   refine DJ_store1 (v := Value.slice _ _ _) rfl rfl rfl rfl (by repeat (first | apply zu0 | apply zu1 | apply zu2)) (by first | exact icell_fit (by omega) | rfl) (by first | exact icell_set | rfl) (by rfl) (by repeat (first | exact zs0 _ | exact zs1 _ | apply zs2 | apply zs3 | apply zs4 | apply zs5)) ?_
   refine DJ_nil (seqK_normal (CJ_seq ?_))
   have hkb := modS_bounds (k := door) (n := (m.roads.arr.l.length : Int)) (by show (1 : Int) ≤ ((m.roads.l.length : Nat) : Int); omega)
   have hdr := hd.road
   have hkr : 0 ≤ d.road ∧ d.road < m.a.mine.roads.l.length := by rw [hdr]; exact hkb
   refine CJ_weak (.cons _ (List.Sublist.refl _)) (allR_self _) ?_
   refine CJ_doorA (A := []) hm hMA hok53 ?hdm hkr ?hf ?hd (inR_self (.head _)) fun a k R1 hDA hA hR1 => ?_
   case hdm => rw [hdr]; exact hd
   case hf => exact fun f hf => (hif f hf).mono fun r hr => inR_self (by simp [hr])
   case hd => exact fun f hf => (hid f hf).mono fun r hr => inR_self (by simp [hr])
   refine CJ_L (by simp only [List.cons_append, List.nil_append]; rfl) ?_
   have hx1 : CodesR (codes300 y) R1 := hxS.mono fun r hr => hR1 r (.tail _ hr)
   have hae := airOk_of hDA.err
   have hdl := hDA.len
   obtain ⟨hk2', hfl⟩ := hDA.small
   have hdg := hDA.get
   have hrd := hDA.road
   have hdm := hDA.made
   have hdm2 := hdm.len
   refine CJ_region ?_
   refine LJ_q (yv_move (show _ = Value.pointer _ from rfl)) rfl ?_
   refine LJ_q (yv_loadN (row := [_, _, _, _]) tb rfl rfl rfl (by repeat (first | exact zi0 | apply zi1 | apply zi2)) (by rfl) (by rfl)) rfl ?_
   refine LJ_call rfl (setting1 (a := a) (.consB (.consL .nil)) hx1 hk2 hA.doors (by omega) (by omega) hae.rests) rfl ?_
   rintro v L' R' ⟨tf2, td2, k3, rfl, ⟨ht1, ht2⟩, hAS, hk3, rfl, rfl⟩
   simp only [List.append_assoc, List.cons_append, List.nil_append]
   refine LJ_alloc tb rfl rfl ?_
   intro b15
   refine LJ_storeW tb rfl rfl rfl rfl (by repeat (first | apply zu0 | apply zu1 | apply zu2)) (by rfl) (by rfl) ?_
   refine LJ_nil (seqK_normal (CJ_seq ?_))
   refine CJ_frz1 (A := [_, _, _]) (wd := 1) [] (fun _ => rfl) (by decide) ht1 (fun s hs => by cases hs) ?_
   refine CJ_L (by simp only [List.cons_append, List.nil_append]; rfl) ?_
   obtain ⟨tf, htf⟩ : ∃ tf : Arr Int, tf = tf2.arr := ⟨_, rfl⟩
   rw [show tf2.val = tf.val from by rw [htf]; rfl, ← htf]
   have htl : td2.l.length = k + 1 := by have := hAS.ld; omega
   have hA1 : AirR a (tf.sl 1 icell [] :: R1) := airR_mono hA fun r hr => inR_self (.tail _ hr)
   have hdo := hA1.doors
   refine CJ_drawn tb [0, 1, 2, 3, 4, 5, 6, 7, 8, 9, 10, 11, 12, 13, 14] _ mixed (by kernel_rfl) (List.Sublist.refl _) ?_
   refine DJ_q (yv_field tb rfl rfl rfl) rfl rfl rfl ?_
   refine DJ_q (yv_load1 tb rfl rfl rfl (by repeat (first | exact zi0 | apply zi1 | apply zi2)) (by rfl)) rfl rfl rfl ?_
   refine DJ_q (yv_len tb rfl rfl rfl) rfl rfl rfl ?_
   refine DJ_q (by first | exact yv_sub64 rfl rfl (by omega) (by omega) | exact yv_sub rfl rfl) rfl rfl rfl ?_
   refine DJ_q (yv_field tb rfl rfl rfl) rfl rfl rfl ?_
   refine DJ_q (yv_load1 tb rfl rfl rfl (by repeat (first | exact zi0 | apply zi1 | apply zi2)) (by rfl)) rfl rfl rfl ?_
   refine DJ_q (yv_field tb rfl rfl rfl) rfl rfl rfl ?_
   refine DJ_q (yv_load1 tb rfl rfl rfl (by repeat (first | exact zi0 | apply zi1 | apply zi2)) (by rfl)) rfl rfl rfl ?_
   refine DJ_q (yv_len tb rfl rfl rfl) rfl rfl rfl ?_
   refine DJ_q (by first | exact yv_sub64 rfl rfl (by omega) (by omega) | exact yv_sub rfl rfl) rfl rfl rfl ?_
   refine DJ_q (by first | exact yv_index_ro tb rfl rfl rfl rfl (by first | assumption | exact zr (by simp)) (i := k) (by first | rfl | omega | (simp; omega)) (by omega) | exact yv_index tb rfl rfl rfl rfl (i := k) (by first | rfl | omega | (simp; omega)) (by omega)) rfl rfl rfl ?_
   refine DJ_q (yv_field_eo tb rfl rfl rfl) rfl rfl rfl ?_
   refine DJ_q (by first | exact yv_load1_ro tb rfl rfl rfl (by first | assumption | exact zr (by simp)) (by assumption) (by rfl) | exact yv_load1 tb rfl rfl rfl (by repeat (first | exact zi0 | apply zi1 | apply zi2)) (by rfl) | exact yv_load1 tb rfl rfl rfl (by repeat (first | exact zi0 | apply zi1 | apply zi2)) (icell_get (by assumption)) | exact yv_load1 tb rfl rfl rfl (by repeat (first | exact zi0 | apply zi1 | apply zi2)) (rcell_get (fun _ => rfl) (by assumption) rfl)) rfl rfl rfl ?_
   refine DJ_q (yv_assign (show _ = Value.int _ _ from rfl)) rfl rfl rfl ?_
   refine DJ_q (yv_assign (show _ = Value.int _ _ from rfl)) rfl rfl rfl ?_
   refine DJ_nil (seqK_normal (CJ_seq ?_))
   rw [show (a.doors.l.length : Int) - 1 = (k : Int) from by omega]
   refine CJ_region ?_
   refine LJ_q (yv_move (show _ = Value.int _ _ from rfl)) rfl ?_
   refine LJ_q (yv_field tb rfl rfl rfl) rfl ?_
   refine LJ_q (yv_load1 tb rfl rfl rfl (by repeat (first | exact zi0 | apply zi1 | apply zi2)) (by rfl)) rfl ?_
   refine LJ_q (yv_move (show _ = Value.int _ _ from rfl)) rfl ?_
   refine LJ_q (by first | exact yv_index_ro tb rfl rfl rfl rfl (by first | assumption | exact zr (by simp)) (i := k) (by first | rfl | omega | (simp; omega)) (by omega) | exact yv_index tb rfl rfl rfl rfl (i := k) (by first | rfl | omega | (simp; omega)) (by omega)) rfl ?_
   refine LJ_q (yv_field_eo tb rfl rfl rfl) rfl ?_
   refine LJ_q (by first | exact yv_load1_ro tb rfl rfl rfl (by first | assumption | exact zr (by simp)) (by assumption) (by rfl) | exact yv_load1 tb rfl rfl rfl (by repeat (first | exact zi0 | apply zi1 | apply zi2)) (by rfl) | exact yv_load1 tb rfl rfl rfl (by repeat (first | exact zi0 | apply zi1 | apply zi2)) (icell_get (by assumption)) | exact yv_load1 tb rfl rfl rfl (by repeat (first | exact zi0 | apply zi1 | apply zi2)) (rcell_get (fun _ => rfl) (by assumption) rfl)) rfl ?_
   refine LJ_q (yv_len tb rfl rfl rfl) rfl ?_
   refine LJ_q (by first | exact yv_sub64 rfl rfl (by omega) (by omega) | exact yv_sub rfl rfl) rfl ?_
   refine LJ_call rfl (mod_tri _ _ _ _ h2 (by omega)) rfl ?_
   rintro v L' R' ⟨rfl, rfl, rfl⟩
   refine LJ_q (yv_assign (show _ = Value.int _ _ from rfl)) rfl ?_
   refine LJ_nil (seqK_normal (CJ_seq ?_))
   have hnb := modS_bounds (k := state) (n := (d.rests.l.length : Int) - 1) (by omega)
   obtain ⟨n, hn⟩ : ∃ n, n = modS state ((d.rests.l.length : Int) - 1) := ⟨_, rfl⟩
   rw [← hn] at hnb ⊢
   have htg := get_D (l := td2.l) (k := k) 0 (by omega)
   refine CJ_region ?_
   refine LJ_q (yv_field tb rfl rfl rfl) rfl ?_
   refine LJ_q (yv_load1 tb rfl rfl rfl (by repeat (first | exact zi0 | apply zi1 | apply zi2)) (by rfl)) rfl ?_
   refine LJ_q (yv_move (show _ = Value.int _ _ from rfl)) rfl ?_
   refine LJ_q (yv_move (show _ = Value.int _ _ from rfl)) rfl ?_
   refine LJ_q (yv_index_ow tb (td2) _ rfl rfl rfl rfl (by assumption) (i := k) (by first | rfl | omega | (simp; omega)) (by first | omega | (dsimp only; omega) | (dsimp only; rw [List.length_set]; omega))) rfl ?_
   refine LJ_g0 (gives_store1_ow tb (td2) (n) rfl rfl rfl rfl (by repeat (first | apply OSeg.cons | exact OSeg.here | exact OSeg.last | exact OSeg.at (by assumption) | apply OSeg.app)) (by assumption) (fun _ => rfl) (by assumption) (by decide) (by rfl) (by rfl)) ?_
   rintro v L' R' ⟨rfl, rfl⟩
   refine LJ_nil (seqK_normal (CJ_seq ?_))
   refine CJ_frzI [] [_, _] (OwL.len_ok icell_len ht2 (by simp)) (by simp) fun ys hys => ?_
   refine CJ_L (by simp only [List.cons_append, List.nil_append]; rfl) ?_
   have hyl : ys.l.length = k + 1 := by rw [hys]; simp; exact htl
   have hysR : InR (isl ys) (isl ys :: tf.sl 1 icell [] :: R1) := inR_self (.head _)
   refine CJ_drawn tb [0, 1, 2, 3, 4, 5, 6, 7] ([Blk.mk b15 _ _]) mixed (by kernel_rfl) (by repeat (first | exact zs0 _ | exact zs1 _ | apply zs2 | apply zs3 | apply zs4 | apply zs5)) ?_
   refine DJ_q (yv_field tb rfl rfl rfl) rfl rfl rfl ?_
   refine DJ_q (yv_load1 tb rfl rfl rfl (by repeat (first | exact zi0 | apply zi1 | apply zi2)) (by rfl)) rfl rfl rfl ?_
   refine DJ_q (yv_field tb rfl rfl rfl) rfl rfl rfl ?_
   refine DJ_q (yv_load1 tb rfl rfl rfl (by repeat (first | exact zi0 | apply zi1 | apply zi2)) (by rfl)) rfl rfl rfl ?_
   refine DJ_g (gives_copy (f := icell) (xs := ys) tb rfl rfl rfl (by decide) rfl rfl (hysR) (fun _ => rfl) (by omega)) rfl rfl rfl ?_
   rintro v L' R' ⟨o90, rfl, hok90, rfl, rfl⟩
   refine ⟨(by repeat (first | exact zs0 _ | exact zs1 _ | apply zs2 | apply zs3 | apply zs4 | apply zs5)), allR_self _, ?_⟩
   refine DJ_q (yv_build (qs := [(0, (Value.slice _ _ _).cells.toList), (1, (Value.slice _ _ _).cells.toList)]) (out := [_, _]) tb rfl rfl rfl rfl) rfl rfl rfl ?_
   refine DJ_alloc rfl rfl ?_
   intro b19
   refine DJ_storeW rfl rfl rfl rfl (by repeat (first | apply zu0 | apply zu1 | apply zu2)) (by rfl) (by rfl) (by repeat (first | exact zs0 _ | exact zs1 _ | apply zs2 | apply zs3 | apply zs4 | apply zs5)) ?_
   refine DJ_nil (seqK_normal (CJ_seq ?_))
   have hyg := get_D (l := ys.l) (k := k) 0 (by omega)
   refine CJ_region ?_
   refine LJ_q (yv_field tb rfl rfl rfl) rfl ?_
   refine LJ_q (yv_load1 tb rfl rfl rfl (by repeat (first | exact zi0 | apply zi1 | apply zi2)) (by rfl)) rfl ?_
   refine LJ_q (yv_move (show _ = Value.int _ _ from rfl)) rfl ?_
   refine LJ_q (yv_move (show _ = Value.int _ _ from rfl)) rfl ?_
   refine LJ_q (by first | exact yv_add64 rfl rfl (by omega) (by omega) | exact yv_addU rfl rfl (by omega) (by omega) | exact yv_add rfl rfl) rfl ?_
   refine LJ_q (yv_index_ow tb ((⟨o90, ys.l⟩ : OwL Int)) _ rfl rfl rfl rfl (by assumption) (i := k) (by first | rfl | omega | (simp; omega)) (by first | omega | (dsimp only; omega) | (dsimp only; rw [List.length_set]; omega))) rfl ?_
   refine LJ_g0 (gives_store1_ow tb ((⟨o90, ys.l⟩ : OwL Int)) ((n + 1)) rfl rfl rfl rfl (by repeat (first | apply OSeg.cons | exact OSeg.here | exact OSeg.last | exact OSeg.at (by assumption) | apply OSeg.app)) (by assumption) (fun _ => rfl) (by assumption) (by decide) (by rfl) (by rfl)) ?_
   rintro v L' R' ⟨rfl, rfl⟩
   refine LJ_nil (seqK_normal (CJ_seq ?_))
   refine CJ_drawn tb [0, 1, 2, 3, 4, 5, 6, 7] ([Blk.mk b15 _ _]) mixed (by kernel_rfl) (by repeat (first | exact zs0 _ | exact zs1 _ | apply zs2 | apply zs3 | apply zs4 | apply zs5)) ?_
   refine DJ_q (yv_field tb rfl rfl rfl) rfl rfl rfl ?_
   refine DJ_q (yv_load1 tb rfl rfl rfl (by repeat (first | exact zi0 | apply zi1 | apply zi2)) (by rfl)) rfl rfl rfl ?_
   refine DJ_q (yv_field tb rfl rfl rfl) rfl rfl rfl ?_
   refine DJ_q (yv_load1 tb rfl rfl rfl (by repeat (first | exact zi0 | apply zi1 | apply zi2)) (by rfl)) rfl rfl rfl ?_
   refine DJ_g (gives_copy (f := icell) (xs := ys) tb rfl rfl rfl (by decide) rfl rfl (hysR) (fun _ => rfl) (by omega)) rfl rfl rfl ?_
   rintro v L' R' ⟨o102, rfl, hok102, rfl, rfl⟩
   refine ⟨(by repeat (first | exact zs0 _ | exact zs1 _ | apply zs2 | apply zs3 | apply zs4 | apply zs5)), allR_self _, ?_⟩
   refine DJ_q (yv_build (qs := [(0, (Value.slice _ _ _).cells.toList), (1, (Value.slice _ _ _).cells.toList)]) (out := [_, _]) tb rfl rfl rfl rfl) rfl rfl rfl ?_
   refine DJ_alloc rfl rfl ?_
   intro b20
   refine DJ_storeW rfl rfl rfl rfl (by repeat (first | apply zu0 | apply zu1 | apply zu2)) (by rfl) (by rfl) (by repeat (first | exact zs0 _ | exact zs1 _ | apply zs2 | apply zs3 | apply zs4 | apply zs5)) ?_
   refine DJ_nil (seqK_normal (CJ_seq ?_))
   have hyg2 := get_D (l := ys.l) (k := k) 0 (by omega)
   refine CJ_region ?_
   refine LJ_q (yv_field tb rfl rfl rfl) rfl ?_
   refine LJ_q (yv_load1 tb rfl rfl rfl (by repeat (first | exact zi0 | apply zi1 | apply zi2)) (by rfl)) rfl ?_
   refine LJ_q (yv_move (show _ = Value.int _ _ from rfl)) rfl ?_
   refine LJ_q (yv_index_ow tb ((⟨o102, ys.l⟩ : OwL Int)) _ rfl rfl rfl rfl (by assumption) (i := k) (by first | rfl | omega | (simp; omega)) (by first | omega | (dsimp only; omega) | (dsimp only; rw [List.length_set]; omega))) rfl ?_
   refine LJ_g0 (gives_store1_ow tb ((⟨o102, ys.l⟩ : OwL Int)) ((-1)) rfl rfl rfl rfl (by repeat (first | apply OSeg.cons | exact OSeg.here | exact OSeg.last | exact OSeg.at (by assumption) | apply OSeg.app)) (by assumption) (fun _ => rfl) (by assumption) (by decide) (by rfl) (by rfl)) ?_
   rintro v L' R' ⟨rfl, rfl⟩
   refine LJ_nil (seqK_normal (CJ_seq (CJ_region ?_)))
   refine LJ_q (yv_move (show _ = Value.int _ _ from rfl)) rfl ?_
   refine LJ_call rfl (mod_tri _ _ _ _ h3 (by omega)) rfl ?_
   rintro v L' R' ⟨rfl, rfl, rfl⟩
   have hp := modS_bounds (k := pr) (n := 200000) (by omega)
   refine LJ_q (by first | exact yv_sub64 rfl rfl (by omega) (by omega) | exact yv_sub rfl rfl) rfl ?_
   refine LJ_q (yv_assign (show _ = Value.int _ _ from rfl)) rfl ?_
   refine LJ_nil (seqK_normal (CJ_seq ?_))
   refine CJ_frzI [] [] (OwL.len_ok icell_len hok102 (by simp)) (by simp) fun yu hyu => ?_
   refine CJ_L (by simp only [List.cons_append, List.nil_append]; rfl) ?_
   refine CJ_frzI [_] [] (OwL.len_ok icell_len hok90 (by simp)) (by simp) fun yt hyt => ?_
   refine CJ_L (by simp only [List.cons_append, List.nil_append]; rfl) ?_
   obtain ⟨p, hpp⟩ : ∃ p, p = modS pr 200000 - 100000 := ⟨_, rfl⟩
   rw [← hpp]
   have hAr : AirR a (isl yt :: isl yu :: isl ys :: tf.sl 1 icell [] :: R1) := airR_mono hA1 fun r hr => inR_self (.tail _ (.tail _ (.tail _ hr)))
   have hS : SetR ⟨tf, ys⟩ (isl yt :: isl yu :: isl ys :: tf.sl 1 icell [] :: R1) := ⟨inR_self (.tail _ (.tail _ (.tail _ (.head _)))), inR_self (.tail _ (.tail _ (.head _)))⟩
   have hT : SetR ⟨tf, yt⟩ (isl yt :: isl yu :: isl ys :: tf.sl 1 icell [] :: R1) := ⟨inR_self (.tail _ (.tail _ (.tail _ (.head _)))), inR_self (.head _)⟩
   have hU : SetR ⟨tf, yu⟩ (isl yt :: isl yu :: isl ys :: tf.sl 1 icell [] :: R1) := ⟨inR_self (.tail _ (.tail _ (.tail _ (.head _)))), inR_self (.tail _ (.head _))⟩
   have htfl : tf.l = tf2.l := by rw [htf]
   have hDF := doorsF hDA hAS htfl hnb hys hyt hyu
   refine CJ_drawn tb [0, 1, 2, 3, 5, 6, 7, 8, 10, 11, 12, 13, 4, 9, 14, 15, 16, 17, 18, 19, 20] _ mixed (by kernel_rfl) (List.Sublist.refl _) ?_
   refine DJ_q (yv_loadN (row := [_, _, _, _]) tb rfl rfl rfl (by repeat (first | exact zi0 | apply zi1 | apply zi2)) (by rfl) (by rfl)) rfl rfl rfl ?_
   refine DJ_q (yv_loadN (row := [_, _]) tb rfl rfl rfl (by repeat (first | exact zi0 | apply zi1 | apply zi2)) (by rfl) (by rfl)) rfl rfl rfl ?_
   refine DJ_q (yv_move (show _ = Value.int _ _ from rfl)) rfl rfl rfl ?_
   refine DJ_q (yv_move (show _ = Value.int _ _ from rfl)) rfl rfl rfl ?_
   refine DJ_q (yv_loadN (row := [_, _, _, _]) tb rfl rfl rfl (by repeat (first | exact zi0 | apply zi1 | apply zi2)) (by rfl) (by rfl)) rfl rfl rfl ?_
   refine DJ_q (yv_loadN (row := [_, _]) tb rfl rfl rfl (by repeat (first | exact zi0 | apply zi1 | apply zi2)) (by rfl) (by rfl)) rfl rfl rfl ?_
   refine DJ_q (yv_move (show _ = Value.int _ _ from rfl)) rfl rfl rfl ?_
   refine DJ_q (yv_move (show _ = Value.int _ _ from rfl)) rfl rfl rfl ?_
   refine DJ_q (yv_loadN (row := [_, _, _, _]) tb rfl rfl rfl (by repeat (first | exact zi0 | apply zi1 | apply zi2)) (by rfl) (by rfl)) rfl rfl rfl ?_
   refine DJ_q (yv_loadN (row := [_, _]) tb rfl rfl rfl (by repeat (first | exact zi0 | apply zi1 | apply zi2)) (by rfl) (by rfl)) rfl rfl rfl ?_
   refine DJ_q (yv_move (show _ = Value.int _ _ from rfl)) rfl rfl rfl ?_
   refine DJ_q (yv_move (show _ = Value.int _ _ from rfl)) rfl rfl rfl ?_
   refine DJ_call rfl (branchFlow_tri a ⟨tf, ys⟩ d.road p _ _ hAr hS) rfl rfl ?_
   rintro v L' R' ⟨rfl, rfl, rfl⟩
   refine ⟨(by repeat (first | exact zs0 _ | exact zs1 _ | apply zs2 | apply zs3 | apply zs4 | apply zs5)), (by first | exact allR_self _ | exact (fun r h => inR_self (by simp [h]))), ?_⟩
   refine DJ_call rfl (branchFlow_tri a ⟨tf, yt⟩ d.road p _ _ hAr hT) rfl rfl ?_
   rintro v L' R' ⟨rfl, rfl, rfl⟩
   refine ⟨(by repeat (first | exact zs0 _ | exact zs1 _ | apply zs2 | apply zs3 | apply zs4 | apply zs5)), (by first | exact allR_self _ | exact (fun r h => inR_self (by simp [h]))), ?_⟩
   refine DJ_call rfl (branchFlow_tri a ⟨tf, yu⟩ d.road p _ _ hAr hU) rfl rfl ?_
   rintro v L' R' ⟨rfl, rfl, rfl⟩
   refine ⟨(by repeat (first | exact zs0 _ | exact zs1 _ | apply zs2 | apply zs3 | apply zs4 | apply zs5)), (by first | exact allR_self _ | exact (fun r h => inR_self (by simp [h]))), ?_⟩
   refine DJ_alloc rfl rfl ?_
   intro b22
   refine DJ_alloc rfl rfl ?_
   intro b23
   refine DJ_alloc rfl rfl ?_
   intro b24
   refine DJ_storeW rfl rfl rfl rfl (by repeat (first | apply zu0 | apply zu1 | apply zu2)) (by rfl) (by rfl) (by repeat (first | exact zs0 _ | exact zs1 _ | apply zs2 | apply zs3 | apply zs4 | apply zs5)) ?_
   refine DJ_storeW rfl rfl rfl rfl (by repeat (first | apply zu0 | apply zu1 | apply zu2)) (by rfl) (by rfl) (by repeat (first | exact zs0 _ | exact zs1 _ | apply zs2 | apply zs3 | apply zs4 | apply zs5)) ?_
   refine DJ_storeW rfl rfl rfl rfl (by repeat (first | apply zu0 | apply zu1 | apply zu2)) (by rfl) (by rfl) (by repeat (first | exact zs0 _ | exact zs1 _ | apply zs2 | apply zs3 | apply zs4 | apply zs5)) ?_
   refine DJ_nil (seqK_normal (CJ_seq (CJ_seq ?_)))
   obtain ⟨f1, f2, f3, f4, f5, f6⟩ := hDF.flow p
   refine CJ_region ?_
   refine LJ_q (yv_field tb rfl rfl rfl) rfl ?_
   refine LJ_q (yv_load1 tb rfl rfl rfl (by repeat (first | exact zi0 | apply zi1 | apply zi2)) (by rfl)) rfl ?_
   refine LJ_q (yv_gtr rfl rfl) rfl ?_
   refine LJ_q (yv_move (show _ = Value.bool _ from rfl)) rfl ?_
   apply LJ_and (G := [_, _, _, _, _]) (j := 3) (cj := 129) rfl rfl (by rfl) rfl (show _ = Value.bool _ from rfl) rfl
   ·
    intro hg4
    try simp only [zb1, zb2, zb3, zb4, zb5, zb6, zb7, zb8] at hg4
    refine LJ_q (yv_field tb rfl rfl rfl) rfl ?_
    refine LJ_q (yv_load1 tb rfl rfl rfl (by repeat (first | exact zi0 | apply zi1 | apply zi2)) (by rfl)) rfl ?_
    refine LJ_q (yv_field tb rfl rfl rfl) rfl ?_
    refine LJ_q (yv_load1 tb rfl rfl rfl (by repeat (first | exact zi0 | apply zi1 | apply zi2)) (by rfl)) rfl ?_
    refine LJ_q (yv_lss rfl rfl) rfl ?_
    exact LJ_merge_end (show _ = Value.bool _ from rfl) (by repeat (first | exact Off.refl | apply Off.upd rfl | apply Off.havoc rfl | apply Off.updL rfl | apply Off.left rfl)) (by repeat (first | exact zs0 _ | exact zs1 _ | apply zs2 | apply zs3 | apply zs4 | apply zs5)) (by first | exact allR_self _ | exact fun r h => inR_self (by simp [h]))
   intro junk4
   refine LJ_q (yv_move (show _ = Value.bool _ from rfl)) rfl ?_
   apply LJ_or (G := [_, _, _, _, _, _, _, _, _, _]) (j := 10) (cj := 136) rfl rfl (by rfl) rfl (show _ = Value.bool _ from rfl) rfl
   ·
    intro hg11
    try simp only [zb1, zb2, zb3, zb4, zb5, zb6, zb7, zb8] at hg11
    refine LJ_q (yv_field tb rfl rfl rfl) rfl ?_
    refine LJ_q (yv_load1 tb rfl rfl rfl (by repeat (first | exact zi0 | apply zi1 | apply zi2)) (by rfl)) rfl ?_
    refine LJ_q (yv_lss rfl rfl) rfl ?_
    refine LJ_q (yv_move (show _ = Value.bool _ from rfl)) rfl ?_
    apply LJ_and (G := [_, _, _, _, _]) (j := 14) (cj := 140) rfl rfl (by rfl) rfl (show _ = Value.bool _ from rfl) rfl
    ·
     intro hg15
     try simp only [zb1, zb2, zb3, zb4, zb5, zb6, zb7, zb8] at hg15
     refine LJ_q (yv_field tb rfl rfl rfl) rfl ?_
     refine LJ_q (yv_load1 tb rfl rfl rfl (by repeat (first | exact zi0 | apply zi1 | apply zi2)) (by rfl)) rfl ?_
     refine LJ_q (yv_field tb rfl rfl rfl) rfl ?_
     refine LJ_q (yv_load1 tb rfl rfl rfl (by repeat (first | exact zi0 | apply zi1 | apply zi2)) (by rfl)) rfl ?_
     refine LJ_q (yv_gtr rfl rfl) rfl ?_
     exact LJ_merge_end (show _ = Value.bool _ from rfl) (by repeat (first | exact Off.refl | apply Off.upd rfl | apply Off.havoc rfl | apply Off.updL rfl | apply Off.left rfl)) (by repeat (first | exact zs0 _ | exact zs1 _ | apply zs2 | apply zs3 | apply zs4 | apply zs5)) (by first | exact allR_self _ | exact fun r h => inR_self (by simp [h]))
    intro junk15
    exact LJ_merge_end (show _ = Value.bool _ from rfl) (by repeat (first | exact Off.refl | apply Off.upd rfl | apply Off.havoc rfl | apply Off.updL rfl | apply Off.left rfl)) (by repeat (first | exact zs0 _ | exact zs1 _ | apply zs2 | apply zs3 | apply zs4 | apply zs5)) (by first | exact allR_self _ | exact fun r h => inR_self (by simp [h]))
   intro junk11
   refine LJ_q (yv_move (show _ = Value.bool _ from rfl)) rfl ?_
   apply LJ_or (G := [_, _, _, _, _]) (j := 22) (cj := 148) rfl rfl (by rfl) rfl (show _ = Value.bool _ from rfl) rfl
   ·
    intro hg23
    try simp only [zb1, zb2, zb3, zb4, zb5, zb6, zb7, zb8] at hg23
    refine LJ_q (yv_field tb rfl rfl rfl) rfl ?_
    refine LJ_q (yv_load1 tb rfl rfl rfl (by repeat (first | exact zi0 | apply zi1 | apply zi2)) (by rfl)) rfl ?_
    refine LJ_q (yv_field tb rfl rfl rfl) rfl ?_
    refine LJ_q (yv_load1 tb rfl rfl rfl (by repeat (first | exact zi0 | apply zi1 | apply zi2)) (by rfl)) rfl ?_
    refine LJ_q (yv_gtr rfl rfl) rfl ?_
    exact LJ_merge_end (show _ = Value.bool _ from rfl) (by repeat (first | exact Off.refl | apply Off.upd rfl | apply Off.havoc rfl | apply Off.updL rfl | apply Off.left rfl)) (by repeat (first | exact zs0 _ | exact zs1 _ | apply zs2 | apply zs3 | apply zs4 | apply zs5)) (by first | exact allR_self _ | exact fun r h => inR_self (by simp [h]))
   intro junk23
   refine LJ_q (yv_move (show _ = Value.bool _ from rfl)) rfl ?_
   apply LJ_or (G := [_, _, _, _, _]) (j := 29) (cj := 155) rfl rfl (by rfl) rfl (show _ = Value.bool _ from rfl) rfl
   ·
    intro hg30
    try simp only [zb1, zb2, zb3, zb4, zb5, zb6, zb7, zb8] at hg30
    refine LJ_q (yv_field tb rfl rfl rfl) rfl ?_
    refine LJ_q (yv_load1 tb rfl rfl rfl (by repeat (first | exact zi0 | apply zi1 | apply zi2)) (by rfl)) rfl ?_
    refine LJ_q (yv_field tb rfl rfl rfl) rfl ?_
    refine LJ_q (yv_load1 tb rfl rfl rfl (by repeat (first | exact zi0 | apply zi1 | apply zi2)) (by rfl)) rfl ?_
    refine LJ_q (yv_gtr rfl rfl) rfl ?_
    exact LJ_merge_end (show _ = Value.bool _ from rfl) (by repeat (first | exact Off.refl | apply Off.upd rfl | apply Off.havoc rfl | apply Off.updL rfl | apply Off.left rfl)) (by repeat (first | exact zs0 _ | exact zs1 _ | apply zs2 | apply zs3 | apply zs4 | apply zs5)) (by first | exact allR_self _ | exact fun r h => inR_self (by simp [h]))
   intro junk30
   refine LJ_q (yv_move (show _ = Value.bool _ from rfl)) rfl ?_
   apply LJ_or (G := [_, _, _, _, _]) (j := 36) (cj := 162) rfl rfl (by rfl) rfl (show _ = Value.bool _ from rfl) rfl
   ·
    intro hg37
    try simp only [zb1, zb2, zb3, zb4, zb5, zb6, zb7, zb8] at hg37
    refine LJ_q (yv_field tb rfl rfl rfl) rfl ?_
    refine LJ_q (yv_load1 tb rfl rfl rfl (by repeat (first | exact zi0 | apply zi1 | apply zi2)) (by rfl)) rfl ?_
    refine LJ_q (yv_field tb rfl rfl rfl) rfl ?_
    refine LJ_q (yv_load1 tb rfl rfl rfl (by repeat (first | exact zi0 | apply zi1 | apply zi2)) (by rfl)) rfl ?_
    refine LJ_q (yv_lss rfl rfl) rfl ?_
    exact LJ_merge_end (show _ = Value.bool _ from rfl) (by repeat (first | exact Off.refl | apply Off.upd rfl | apply Off.havoc rfl | apply Off.updL rfl | apply Off.left rfl)) (by repeat (first | exact zs0 _ | exact zs1 _ | apply zs2 | apply zs3 | apply zs4 | apply zs5)) (by first | exact allR_self _ | exact fun r h => inR_self (by simp [h]))
   intro junk37
   refine LJ_q (yv_move (show _ = Value.bool _ from rfl)) rfl ?_
   apply LJ_or (G := [_, _, _, _, _]) (j := 43) (cj := 169) rfl rfl (by rfl) rfl (show _ = Value.bool _ from rfl) rfl
   ·
    intro hg44
    try simp only [zb1, zb2, zb3, zb4, zb5, zb6, zb7, zb8] at hg44
    refine LJ_q (yv_field tb rfl rfl rfl) rfl ?_
    refine LJ_q (yv_load1 tb rfl rfl rfl (by repeat (first | exact zi0 | apply zi1 | apply zi2)) (by rfl)) rfl ?_
    refine LJ_q (yv_field tb rfl rfl rfl) rfl ?_
    refine LJ_q (yv_load1 tb rfl rfl rfl (by repeat (first | exact zi0 | apply zi1 | apply zi2)) (by rfl)) rfl ?_
    refine LJ_q (yv_lss rfl rfl) rfl ?_
    exact LJ_merge_end (show _ = Value.bool _ from rfl) (by repeat (first | exact Off.refl | apply Off.upd rfl | apply Off.havoc rfl | apply Off.updL rfl | apply Off.left rfl)) (by repeat (first | exact zs0 _ | exact zs1 _ | apply zs2 | apply zs3 | apply zs4 | apply zs5)) (by first | exact allR_self _ | exact fun r h => inR_self (by simp [h]))
   intro junk44
   refine LJ_nil (seqK_normal ?_)
   refine CJ_cond (show _ = Value.bool _ from rfl) (fun hc1 => ?_) (fun hc1 => ?_)
   ·
    try simp only [zb1, zb2, zb3, zb4, zb5, zb6, zb7, zb8] at hc1
    (exfalso; omega)
   ·
    try simp only [zb1, zb2, zb3, zb4, zb5, zb6, zb7, zb8] at hc1
    refine CJ_skip (seqK_normal (CJ_seq (CJ_region ?_)))
    refine LJ_q (yv_move (show _ = Value.int _ _ from rfl)) rfl ?_
    refine LJ_call rfl (mod_tri _ _ _ _ h4 (by omega)) rfl ?_
    rintro v L' R' ⟨rfl, rfl, rfl⟩
    have hq := modS_bounds (k := flow) (n := 400) (by omega)
    refine LJ_q (by first | exact yv_sub64 rfl rfl (by omega) (by omega) | exact yv_sub rfl rfl) rfl ?_
    refine LJ_q (yv_assign (show _ = Value.int _ _ from rfl)) rfl ?_
    refine LJ_nil (seqK_normal (CJ_seq ?_))
    obtain ⟨q, hqq⟩ : ∃ q, q = modS flow 400 - 200 := ⟨_, rfl⟩
    rw [← hqq]
    have hW := hDF.drop q
    refine CJ_drawn tb [0, 1, 2, 3, 5, 6, 7, 8, 4, 9, 10, 11, 12, 13] _ mixed (by kernel_rfl) (List.Sublist.refl _) ?_
    refine DJ_q (yv_loadN (row := [_, _, _, _]) tb rfl rfl rfl (by repeat (first | exact zi0 | apply zi1 | apply zi2)) (by rfl) (by rfl)) rfl rfl rfl ?_
    refine DJ_q (yv_loadN (row := [_, _]) tb rfl rfl rfl (by repeat (first | exact zi0 | apply zi1 | apply zi2)) (by rfl) (by rfl)) rfl rfl rfl ?_
    refine DJ_q (yv_move (show _ = Value.int _ _ from rfl)) rfl rfl rfl ?_
    refine DJ_q (yv_move (show _ = Value.int _ _ from rfl)) rfl rfl rfl ?_
    refine DJ_q (yv_loadN (row := [_, _, _, _]) tb rfl rfl rfl (by repeat (first | exact zi0 | apply zi1 | apply zi2)) (by rfl) (by rfl)) rfl rfl rfl ?_
    refine DJ_q (yv_loadN (row := [_, _]) tb rfl rfl rfl (by repeat (first | exact zi0 | apply zi1 | apply zi2)) (by rfl) (by rfl)) rfl rfl rfl ?_
    refine DJ_q (yv_move (show _ = Value.int _ _ from rfl)) rfl rfl rfl ?_
    refine DJ_q (yv_move (show _ = Value.int _ _ from rfl)) rfl rfl rfl ?_
    refine DJ_call rfl (branchDrop_tri a ⟨tf, ys⟩ d.road q _ _ hAr hS) rfl rfl ?_
    rintro v L' R' ⟨rfl, rfl, rfl⟩
    refine ⟨(by repeat (first | exact zs0 _ | exact zs1 _ | apply zs2 | apply zs3 | apply zs4 | apply zs5)), (by first | exact allR_self _ | exact (fun r h => inR_self (by simp [h]))), ?_⟩
    refine DJ_call rfl (branchDrop_tri a ⟨tf, yu⟩ d.road q _ _ hAr hU) rfl rfl ?_
    rintro v L' R' ⟨rfl, rfl, rfl⟩
    refine ⟨(by repeat (first | exact zs0 _ | exact zs1 _ | apply zs2 | apply zs3 | apply zs4 | apply zs5)), (by first | exact allR_self _ | exact (fun r h => inR_self (by simp [h]))), ?_⟩
    refine DJ_alloc rfl rfl ?_
    intro b26
    refine DJ_alloc rfl rfl ?_
    intro b27
    refine DJ_storeW rfl rfl rfl rfl (by repeat (first | apply zu0 | apply zu1 | apply zu2)) (by rfl) (by rfl) (by repeat (first | exact zs0 _ | exact zs1 _ | apply zs2 | apply zs3 | apply zs4 | apply zs5)) ?_
    refine DJ_storeW rfl rfl rfl rfl (by repeat (first | apply zu0 | apply zu1 | apply zu2)) (by rfl) (by rfl) (by repeat (first | exact zs0 _ | exact zs1 _ | apply zs2 | apply zs3 | apply zs4 | apply zs5)) ?_
    refine DJ_nil (seqK_normal (CJ_seq (CJ_region ?_)))
    refine LJ_q (yv_field tb rfl rfl rfl) rfl ?_
    refine LJ_q (yv_load1 tb rfl rfl rfl (by repeat (first | exact zi0 | apply zi1 | apply zi2)) (by rfl)) rfl ?_
    refine LJ_q (yv_field tb rfl rfl rfl) rfl ?_
    refine LJ_q (yv_load1 tb rfl rfl rfl (by repeat (first | exact zi0 | apply zi1 | apply zi2)) (by rfl)) rfl ?_
    refine LJ_q (yv_leq rfl rfl) rfl ?_
    refine LJ_q (yv_move (show _ = Value.bool _ from rfl)) rfl ?_
    apply LJ_and (G := [_, _, _, _, _]) (j := 5) (cj := 194) rfl rfl (by rfl) rfl (show _ = Value.bool _ from rfl) rfl
    ·
     intro hg6
     try simp only [zb1, zb2, zb3, zb4, zb5, zb6, zb7, zb8] at hg6
     refine LJ_q (yv_field tb rfl rfl rfl) rfl ?_
     refine LJ_q (yv_load1 tb rfl rfl rfl (by repeat (first | exact zi0 | apply zi1 | apply zi2)) (by rfl)) rfl ?_
     refine LJ_q (yv_field tb rfl rfl rfl) rfl ?_
     refine LJ_q (yv_load1 tb rfl rfl rfl (by repeat (first | exact zi0 | apply zi1 | apply zi2)) (by rfl)) rfl ?_
     refine LJ_q (yv_geq rfl rfl) rfl ?_
     exact LJ_merge_end (show _ = Value.bool _ from rfl) (by repeat (first | exact Off.refl | apply Off.upd rfl | apply Off.havoc rfl | apply Off.updL rfl | apply Off.left rfl)) (by repeat (first | exact zs0 _ | exact zs1 _ | apply zs2 | apply zs3 | apply zs4 | apply zs5)) (by first | exact allR_self _ | exact fun r h => inR_self (by simp [h]))
    intro junk6
    refine LJ_q (yv_move (show _ = Value.bool _ from rfl)) rfl ?_
    apply LJ_and (G := [_]) (j := 12) (cj := 201) rfl rfl (by rfl) rfl (show _ = Value.bool _ from rfl) rfl
    ·
     intro hg13
     try simp only [zb1, zb2, zb3, zb4, zb5, zb6, zb7, zb8] at hg13
     refine LJ_call rfl (awake_tri _ _) rfl ?_
     rintro v L' R' ⟨rfl, rfl, rfl⟩
     exact LJ_merge_end (show _ = Value.bool _ from rfl) (by repeat (first | exact Off.refl | apply Off.upd rfl | apply Off.havoc rfl | apply Off.updL rfl | apply Off.left rfl)) (by repeat (first | exact zs0 _ | exact zs1 _ | apply zs2 | apply zs3 | apply zs4 | apply zs5)) (by first | exact allR_self _ | exact fun r h => inR_self (by simp [h]))
    intro junk13
    refine LJ_q (yv_assign (show _ = Value.bool _ from rfl)) rfl ?_
    refine LJ_nil (seqK_normal (CJ_ret ?_))
    refine retK_ret (L' := []) (R' := R) (res1 rfl (rv_tmp (show _ = Value.bool _ from rfl))) ?hp ?hL ?hR
    case hp =>
     refine ⟨?_, rfl, rfl⟩
     rw [decide_eq_true hW.lo, decide_eq_true hW.hi]
     rfl
    case hL => exact List.nil_sublist _
    case hR => exact fun r hr => (hR1 r (.tail _ (List.mem_append.2 (.inr (.tail _ hr))))).mono fun s hs => inR_self (by simp [hs])
end Go.Proofs.Ytimnnhdeicpenaa
