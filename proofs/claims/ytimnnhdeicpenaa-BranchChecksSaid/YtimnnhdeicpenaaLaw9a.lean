/-
  Statements about chapter 9: what they share. By an AI agent; no person has read it.
-/
import Derived.Test.YtimnnhdeicpenaaNew
set_option linter.unusedSimpArgs false
set_option linter.unusedVariables false
namespace Go.Proofs.Ytimnnhdeicpenaa
open Go.Aw Go
set_option maxRecDepth 20000
attribute [local irreducible] CJ LJ DJ Tri YV Gives seqK blockK loopK retK RV mergeK OwL.L

theorem spanEq : SpanEq Try.prog 57 :=
  spanEq_of (I := 3) (by kernel_rfl) (by kernel_rfl) (by kernel_rfl) (by kernel_rfl) (by kernel_rfl)

def awakeRoad : XRoad := ⟨0, 1, 1, 1, false, false, ⟨2, 2⟩, ⟨0, 0⟩⟩
abbrev awakeAir (b b' : Nat) : XAir := ⟨⟨⟨some ⟨b, 0, none⟩, 2, [⟨0, true⟩, ⟨0, true⟩]⟩, ⟨some ⟨b', 0, none⟩, 1, [awakeRoad]⟩⟩, ⟨none, 0, []⟩, ⟨none, 0, []⟩⟩
abbrev noSet : XSetting := ⟨⟨none, 0, []⟩, ⟨none, 0, []⟩⟩

theorem awake_right (b b' : Nat) : rightB (awakeAir b b') noSet = true := by rfl
theorem awake_drop (b b' : Nat) : dropS (awakeAir b b') noSet 0 10 = ⟨200, 200⟩ := by rfl
theorem awake_inner (b b' : Nat) (q : Int) : innerS (awakeAir b b') noSet 0 q = if q < 0 then ⟨-(2 * q * q) - 0, -(2 * q * q) - 0⟩ else ⟨2 * q * q - 0, 2 * q * q - 0⟩ := by rfl
theorem awake_flow (b b' : Nat) : flowS (awakeAir b b') noSet 0 199 = ⟨9, 10⟩ := by
  obtain ⟨ha, hf⟩ := right_of (awake_right b b')
  have hr : (0 : Int) ≤ 0 ∧ (0 : Int) < (awakeAir b b').mine.roads.l.length := ⟨by decide, by show (0 : Int) < 1; decide⟩
  have h1 := lowS_all (pr := 199) (rises_high (s := noSet) ha hr) _ (-1048577) 1048576 rfl (by omega) (by omega) (by omega)
  have h2 := highS_all (pr := 199) (rises_low (s := noSet) ha hr) _ (-1048576) 1048577 rfl (by omega) (by omega) (by omega)
  have e9 : (innerS (awakeAir b b') noSet 0 9) = ⟨162, 162⟩ := by rfl
  have e10 : (innerS (awakeAir b b') noSet 0 10) = ⟨200, 200⟩ := by rfl
  have ho : openB (awakeAir b b') noSet 0 = true := by rfl
  rw [flowS, if_neg (by rw [ho]; decide)]
  have l1 : flowLow (innerS (awakeAir b b') noSet 0) 199 = 9 := by
    unfold flowLow
    obtain ⟨a1, a2, a3, a4⟩ := h1
    generalize lowS (fun q => (innerS (awakeAir b b') noSet 0 q).high) 199 (-1048577) 1048576 = z at *
    rcases Int.lt_or_le z 9 with h | h
    · have := a4 9 h (by omega)
      simp only [e9] at this
      omega
    · rcases Int.lt_or_le 9 z with h' | h'
      · have := a3 10 (by omega) (by omega)
        simp only [e10] at this
        omega
      · omega
  have l2 : flowHigh (innerS (awakeAir b b') noSet 0) 199 = 10 := by
    unfold flowHigh
    obtain ⟨a1, a2, a3, a4⟩ := h2
    generalize highS (fun q => (innerS (awakeAir b b') noSet 0 q).low) 199 (-1048576) 1048577 = z at *
    rcases Int.lt_or_le z 10 with h | h
    · have := a4 9 (by omega) (by omega)
      simp only [e9] at this
      omega
    · rcases Int.lt_or_le 10 z with h' | h'
      · have := a3 10 (by omega) (by omega)
        simp only [e10] at this
        omega
      · omega
  rw [l1, l2]
theorem awake_fits (b b' c c' : Nat) : fitsS (awakeAir b b') noSet ⟨⟨some ⟨c, 0, none⟩, 2, [0, 0]⟩, ⟨some ⟨c', 0, none⟩, 1, [0]⟩⟩ = 0 := by rfl


theorem awake_tri (L : List Blk) (R : List Sl) : Tri Try.prog 16 ([] : List Value).toArray L R (fun v L' R' => v = .bool true ∧ L = L' ∧ R = R') := by
  refine tri_enter 38 Try.call16 Try.func16 rfl rfl rfl ?_
  refine CJ_seq (CJ_region ?_)
  refine LJ_q (yv_assign (show _ = Value.bool _ from rfl)) rfl ?_
  refine LJ_nil (seqK_normal (CJ_seq (CJ_region ?_)))
  refine LJ_q (yv_build (qs := [(1, (Value.bool _).cells.toList)]) (out := [_, _]) tb rfl rfl rfl rfl) rfl ?_
  refine LJ_q (yv_build (qs := [(1, (Value.bool _).cells.toList)]) (out := [_, _]) tb rfl rfl rfl rfl) rfl ?_
  refine LJ_g (gives_buildSlice (qs := [(0, (Value.agg _).cells.toList), (1, (Value.agg _).cells.toList)]) (out := [_, _, _, _]) tb rfl rfl rfl rfl rfl rfl rfl) rfl ?_
  rintro v L' R' ⟨b5, rfl, rfl, hR5⟩
  replace hR5 := hR5.symm; subst hR5
  refine LJ_q (yv_build (qs := [(0, (Value.int _ _).cells.toList), (1, (Value.int _ _).cells.toList)]) (out := [_, _]) tb rfl rfl rfl rfl) rfl ?_
  refine LJ_q (yv_build (qs := [(1, (Value.int _ _).cells.toList), (2, (Value.int _ _).cells.toList), (3, (Value.int _ _).cells.toList), (6, (Value.agg _).cells.toList)]) (out := [_, _, _, _, _, _, _, _, _, _]) tb rfl rfl rfl rfl) rfl ?_
  refine LJ_g (gives_buildSlice (qs := [(0, (Value.agg _).cells.toList)]) (out := [_, _, _, _, _, _, _, _, _, _]) tb rfl rfl rfl rfl rfl rfl rfl) rfl ?_
  rintro v L' R' ⟨b8, rfl, rfl, hR8⟩
  replace hR8 := hR8.symm; subst hR8
  refine LJ_q (yv_build (qs := [(0, (Value.slice _ _ _).cells.toList), (1, (Value.slice _ _ _).cells.toList)]) (out := [_, _]) tb rfl rfl rfl rfl) rfl ?_
  refine LJ_alloc tb rfl rfl ?_
  intro b1
  refine LJ_storeW tb rfl rfl rfl rfl (by repeat (first | apply zu0 | apply zu1 | apply zu2)) (by rfl) (by rfl) ?_
  refine LJ_nil (seqK_normal (CJ_seq (CJ_region ?_)))
  refine LJ_q (yv_loadN (row := [_, _]) tb rfl rfl rfl (by repeat (first | exact zi0 | apply zi1 | apply zi2)) (by rfl) (by rfl)) rfl ?_
  refine LJ_q (yv_build (qs := [(0, (Value.agg _).cells.toList)]) (out := [_, _, _, _]) tb rfl rfl rfl rfl) rfl ?_
  refine LJ_alloc tb rfl rfl ?_
  intro b2
  refine LJ_storeW tb rfl rfl rfl rfl (by repeat (first | apply zu0 | apply zu1 | apply zu2)) (by rfl) (by rfl) ?_
  refine LJ_nil (seqK_normal (CJ_seq ?_))
  refine CJ_frzB (A := [_, _]) (wd := 10) (len := 1) (cap := 1) (rows := [awakeRoad.cells]) (subs := []) rfl (by decide) (by decide) (fun r hr => by rw [List.mem_singleton.1 hr]; rfl) (by decide) rfl (fun s hs => by cases hs) ?_
  refine CJ_L (by simp only [List.cons_append, List.nil_append]; rfl) ?_
  refine CJ_frzB (A := [_, _]) (wd := 2) (len := 2) (cap := 2) (rows := [XPlace.cells ⟨0, true⟩, XPlace.cells ⟨0, true⟩]) (subs := []) rfl (by decide) (by decide) (fun r hr => by simp only [List.mem_cons, List.not_mem_nil, or_false] at hr; rcases hr with rfl | rfl <;> rfl) (by decide) rfl (fun s hs => by cases hs) ?_
  refine CJ_L (by simp only [List.cons_append, List.nil_append]; rfl) ?_
  refine CJ_nil 4 (CJ_nil 3 (CJ_nil 1 ?_))
  have hA : AirR (awakeAir b5 b8) (isl ⟨none, 0, []⟩ :: dsl ⟨none, 0, []⟩ :: fsl ⟨none, 0, []⟩ :: psl (awakeAir b5 b8).mine.places :: rsl (awakeAir b5 b8).mine.roads :: R) := ⟨inR_self (.tail _ (.tail _ (.tail _ (.head _)))), inR_self (.tail _ (.tail _ (.tail _ (.tail _ (.head _))))), inR_self (.tail _ (.tail _ (.head _))), inR_self (.tail _ (.head _))⟩
  have hS : SetR noSet (isl ⟨none, 0, []⟩ :: dsl ⟨none, 0, []⟩ :: fsl ⟨none, 0, []⟩ :: psl (awakeAir b5 b8).mine.places :: rsl (awakeAir b5 b8).mine.roads :: R) := ⟨inR_self (.head _), inR_self (.head _)⟩
  refine CJ_region ?_
  refine LJ_q (yv_loadN (row := [_, _, _, _]) tb rfl rfl rfl (by repeat (first | exact zi0 | apply zi1 | apply zi2)) (by rfl) (by rfl)) rfl ?_
  refine LJ_q (yv_build (qs := []) (out := [_, _]) tb rfl rfl rfl rfl) rfl ?_
  refine LJ_call rfl (right_tri (awakeAir b5 b8) noSet _ _ hA hS) rfl ?_
  rintro v L' R' ⟨rfl, rfl, rfl⟩
  refine LJ_q (yv_move (show _ = Value.bool _ from rfl)) rfl ?_
  apply LJ_and (G := [_, _, _, _, _]) (j := 3) (cj := 15) rfl rfl (by rfl) rfl (show _ = Value.bool _ from rfl) rfl
  ·
   intro hg4
   try simp only [zb1, zb2, zb3, zb4, zb5, zb6, zb7, zb8] at hg4
   refine LJ_q (yv_loadN (row := [_, _, _, _]) tb rfl rfl rfl (by repeat (first | exact zi0 | apply zi1 | apply zi2)) (by rfl) (by rfl)) rfl ?_
   refine LJ_q (yv_build (qs := []) (out := [_, _]) tb rfl rfl rfl rfl) rfl ?_
   refine LJ_call rfl (branchDrop_tri (awakeAir b5 b8) noSet 0 10 _ _ hA hS) rfl ?_
   rintro v L' R' ⟨rfl, rfl, rfl⟩
   refine LJ_q (yv_build (qs := [(0, (Value.int _ _).cells.toList), (1, (Value.int _ _).cells.toList)]) (out := [_, _]) tb rfl rfl rfl rfl) rfl ?_
   refine LJ_q (yv_eql_span spanEq rfl rfl) rfl ?_
   exact LJ_merge_end (show _ = Value.bool _ from rfl) (by repeat (first | exact Off.refl | apply Off.upd rfl | apply Off.havoc rfl | apply Off.updL rfl | apply Off.left rfl)) (by repeat (first | exact zs0 _ | exact zs1 _ | apply zs2 | apply zs3 | apply zs4 | apply zs5)) (by first | exact allR_self _ | exact fun r h => inR_self (by simp [h]))
  intro junk4
  refine LJ_q (yv_move (show _ = Value.bool _ from rfl)) rfl ?_
  apply LJ_and (G := [_, _, _, _, _]) (j := 10) (cj := 22) rfl rfl (by rfl) rfl (show _ = Value.bool _ from rfl) rfl
  ·
   intro hg11
   try simp only [zb1, zb2, zb3, zb4, zb5, zb6, zb7, zb8] at hg11
   refine LJ_q (yv_loadN (row := [_, _, _, _]) tb rfl rfl rfl (by repeat (first | exact zi0 | apply zi1 | apply zi2)) (by rfl) (by rfl)) rfl ?_
   refine LJ_q (yv_build (qs := []) (out := [_, _]) tb rfl rfl rfl rfl) rfl ?_
   refine LJ_call rfl (branchFlow_tri (awakeAir b5 b8) noSet 0 199 _ _ hA hS) rfl ?_
   rintro v L' R' ⟨rfl, rfl, rfl⟩
   refine LJ_q (yv_build (qs := [(0, (Value.int _ _).cells.toList), (1, (Value.int _ _).cells.toList)]) (out := [_, _]) tb rfl rfl rfl rfl) rfl ?_
   refine LJ_q (yv_eql_span spanEq rfl rfl) rfl ?_
   exact LJ_merge_end (show _ = Value.bool _ from rfl) (by repeat (first | exact Off.refl | apply Off.upd rfl | apply Off.havoc rfl | apply Off.updL rfl | apply Off.left rfl)) (by repeat (first | exact zs0 _ | exact zs1 _ | apply zs2 | apply zs3 | apply zs4 | apply zs5)) (by first | exact allR_self _ | exact fun r h => inR_self (by simp [h]))
  intro junk11
  refine LJ_q (yv_move (show _ = Value.bool _ from rfl)) rfl ?_
  apply LJ_and (G := [_, _, _, _, _, _, _]) (j := 17) (cj := 29) rfl rfl (by rfl) rfl (show _ = Value.bool _ from rfl) rfl
  ·
   intro hg18
   try simp only [zb1, zb2, zb3, zb4, zb5, zb6, zb7, zb8] at hg18
   refine LJ_q (yv_loadN (row := [_, _, _, _]) tb rfl rfl rfl (by repeat (first | exact zi0 | apply zi1 | apply zi2)) (by rfl) (by rfl)) rfl ?_
   refine LJ_q (yv_build (qs := []) (out := [_, _]) tb rfl rfl rfl rfl) rfl ?_
   refine LJ_g (gives_buildSlice (qs := [(0, (Value.int _ _).cells.toList), (1, (Value.int _ _).cells.toList)]) (out := [_, _]) tb rfl rfl rfl rfl rfl rfl rfl) rfl ?_
   rintro v L' R' ⟨b32, rfl, rfl, hR32⟩
   replace hR32 := hR32.symm; subst hR32
   refine LJ_g (gives_buildSlice (qs := [(0, (Value.int _ _).cells.toList)]) (out := [_]) tb rfl rfl rfl rfl rfl rfl rfl) rfl ?_
   rintro v L' R' ⟨b33, rfl, rfl, hR33⟩
   replace hR33 := hR33.symm; subst hR33
   refine LJ_q (yv_build (qs := [(0, (Value.slice _ _ _).cells.toList), (1, (Value.slice _ _ _).cells.toList)]) (out := [_, _]) tb rfl rfl rfl rfl) rfl ?_
   refine LJ_frz (wd := 1) (len := 1) (cap := 1) (rows := [icell 0]) (subs := []) rfl (by decide) (by decide) (fun r hr => by rw [List.mem_singleton.1 hr]; rfl) (by decide) rfl (fun s hs => by cases hs) ?_
   refine LJ_frz (wd := 1) (len := 2) (cap := 2) (rows := [icell 0, icell 0]) (subs := []) rfl (by decide) (by decide) (fun r hr => by simp only [List.mem_cons, List.not_mem_nil, or_false] at hr; rcases hr with rfl | rfl <;> rfl) (by decide) rfl (fun s hs => by cases hs) ?_
   refine LJ_call rfl (branchFits_tri (awakeAir b5 b8) noSet ⟨⟨some ⟨b32, 0, none⟩, 2, [0, 0]⟩, ⟨some ⟨b33, 0, none⟩, 1, [0]⟩⟩ _ _ ⟨hA.places.mono fun r h => inR_self (.tail _ (.tail _ h)), hA.roads.mono fun r h => inR_self (.tail _ (.tail _ h)), hA.fans.mono fun r h => inR_self (.tail _ (.tail _ h)), hA.doors.mono fun r h => inR_self (.tail _ (.tail _ h))⟩ ⟨hS.fans.mono fun r h => inR_self (.tail _ (.tail _ h)), hS.doors.mono fun r h => inR_self (.tail _ (.tail _ h))⟩ ⟨inR_self (.head _), inR_self (.tail _ (.head _))⟩) rfl ?_
   rintro v L' R' ⟨rfl, rfl, rfl⟩
   refine LJ_q (yv_eql rfl rfl) rfl ?_
   exact LJ_merge_end (show _ = Value.bool _ from rfl) (by repeat (first | exact Off.refl | apply Off.upd rfl | apply Off.havoc rfl | apply Off.updL rfl | apply Off.left rfl)) (by repeat (first | exact zs0 _ | exact zs1 _ | apply zs2 | apply zs3 | apply zs4 | apply zs5)) (by first | exact allR_self _ | exact fun r h => inR_self (by simp [h]))
  intro junk18
  refine LJ_q (yv_assign (show _ = Value.bool _ from rfl)) rfl ?_
  refine LJ_nil (seqK_normal (CJ_ret ?_))
  refine retK_ret (L' := L) (R' := R) (res1 rfl (rv_tmp (show _ = Value.bool _ from rfl))) ?hp ?hL ?hR
  case hp => exact ⟨by rw [awake_right, awake_drop, awake_flow]; rfl, rfl, rfl⟩
  case hL => exact (by repeat (first | exact zs0 _ | exact zs1 _ | apply zs2 | apply zs3 | apply zs4 | apply zs5))
  case hR => exact fun r h => inR_self (by simp [h])

theorem airR_mono {a : XAir} {R R' : List Sl} (h : AirR a R) (k : ∀ r ∈ R, InR r R') : AirR a R' := ⟨h.places.mono k, h.roads.mono k, h.fans.mono k, h.doors.mono k⟩
theorem setR_mono {s : XSetting} {R R' : List Sl} (h : SetR s R) (k : ∀ r ∈ R, InR r R') : SetR s R' := ⟨h.fans.mono k, h.doors.mono k⟩
theorem stateR_mono {x : XState} {R R' : List Sl} (h : StateR x R) (k : ∀ r ∈ R, InR r R') : StateR x R' := ⟨h.pres.mono k, h.flows.mono k⟩

/-- a made air is frozen -/
theorem CJ_frzMade {P n code t R} {Q : TPost} {A : List Blk} {m : MadeO} {cb : Blk} (hm : m.Ok) (hf : ∀ f ∈ m.fans.l, InR f.sl R) (hd : ∀ d ∈ m.doors.l, InR d.sl R)
    (h : ∀ R', AirR m.a R' → SetR m.t R' → StateR m.x R' → (∀ r ∈ R, InR r R') → CJ P n code t (A ++ (cb :: [])) R' Q) : CJ P n code t (A ++ m.L cb) R Q := by
  unfold MadeO.L
  refine CJ_frz1 [] icell_len (by decide) hm.pres (fun s hs => by cases hs) ?_
  refine CJ_frz1 [] (fun _ => rfl) (by decide : 0 < 2) hm.places (fun s hs => by cases hs) ?_
  refine CJ_frz1 [] icell_len (by decide) hm.flows (fun s hs => by cases hs) ?_
  refine CJ_frz1 (m.fans.l.map XFan.sl) (fun _ => rfl) (by decide : 0 < 4) hm.fans (fun s hs => by obtain ⟨y, hy, rfl⟩ := List.mem_map.1 hs; exact (hf y hy).mono fun r hr => inR_self (by simp [hr])) ?_
  refine CJ_frz1 (m.doors.l.map XDoor.sl) (fun _ => rfl) (by decide : 0 < 3) hm.doors (fun s hs => by obtain ⟨y, hy, rfl⟩ := List.mem_map.1 hs; exact (hd y hy).mono fun r hr => inR_self (by simp [hr])) ?_
  refine CJ_frz1 [] (fun _ => rfl) (by decide : 0 < 10) hm.roads (fun s hs => by cases hs) ?_
  have e : ∀ X : List Blk, A ++ (cb :: X) = (A ++ [cb]) ++ X := fun X => by simp
  rw [e]
  refine CJ_frz1 [] icell_len (by decide) hm.tf (fun s hs => by cases hs) ?_
  refine CJ_frz1 [] icell_len (by decide) hm.td (fun s hs => by cases hs) ?_
  rw [List.append_nil]
  refine h _ ⟨?_, ?_, ?_, ?_⟩ ⟨?_, ?_⟩ ⟨?_, ?_⟩ (fun r hr => inR_self (by simp [hr]))
  · exact inR_self (.tail _ (.tail _ (.tail _ (.tail _ (.tail _ (.tail _ (.head _)))))))
  · exact inR_self (.tail _ (.tail _ (.head _)))
  · exact inR_self (.tail _ (.tail _ (.tail _ (.tail _ (.head _)))))
  · exact inR_self (.tail _ (.tail _ (.tail _ (.head _))))
  · exact inR_self (.tail _ (.head _))
  · exact inR_self (.head _)
  · exact inR_self (.tail _ (.tail _ (.tail _ (.tail _ (.tail _ (.tail _ (.tail _ (.head _))))))))
  · exact inR_self (.tail _ (.tail _ (.tail _ (.tail _ (.tail _ (.head _))))))

/-- a drawn setting, at another place -/
theorem setting1 {c : Nat} {x : Arr Int} {k : Nat} {a : XAir} {L B : List Blk} {R : List Sl} (hu : Spl L B [cblk c x k]) (hx : CodesR x R) (hk : k ≤ x.l.length) (hd : InR (dsl a.doors) R) (h1 : a.fans.l.length ≤ 100) (h2 : a.doors.l.length ≤ 100) (h3 : ∀ (i : Nat) (d : XDoor), a.doors.l[i]? = some d → d.rests.l.length ≤ 100) :
    Tri Try.prog 21 [.pointer (some ⟨c, 0, none⟩), a.val].toArray L R
      (fun v L' R' => ∃ (tf td : OwL Int) (k' : Nat), v = .agg #[tf.val, td.val] ∧ (tf.ok 1 icell ∧ td.ok 1 icell) ∧ AnySet a a.fans.l.length a.doors.l.length tf.l td.l ∧ k' ≤ x.l.length ∧ B ++ (cblk c x k' :: (tf.L 3 icell ++ (td.L 3 icell ++ []))) = L' ∧ R = R') :=
  (Tri.spl hu (setting_tri c x k a R hx hk hd h1 h2 h3)).mono fun v L'' R' ⟨L', e, tf, td, k', a1, a2, a3, a4, a5, a6⟩ => ⟨tf, td, k', a1, a2, a3, a4, by rw [a5]; exact e, a6⟩

theorem small_tri (a : XAir) (L : List Blk) (R : List Sl) : Tri Try.prog 15 [a.val].toArray L R (fun v L' R' => ∃ b : Bool, v = .bool b ∧ L = L' ∧ R = R') := by
  refine tri_enter 27 Try.call15 Try.func15 rfl rfl rfl ?_
  refine CJ_seq (CJ_region ?_)
  refine LJ_boxN rfl rfl ?_
  intro b1
  refine LJ_q (yv_assign (show _ = Value.bool _ from rfl)) rfl ?_
  refine LJ_nil (seqK_normal (CJ_seq (CJ_region ?_)))
  refine LJ_q (yv_field tb rfl rfl rfl) rfl ?_
  refine LJ_q (yv_field tb rfl rfl rfl) rfl ?_
  refine LJ_q (yv_load1 tb rfl rfl rfl (by repeat (first | exact zi0 | apply zi1 | apply zi2)) (by rfl)) rfl ?_
  refine LJ_q (yv_len tb rfl rfl rfl) rfl ?_
  refine LJ_q (yv_leq rfl rfl) rfl ?_
  refine LJ_q (yv_move (show _ = Value.bool _ from rfl)) rfl ?_
  apply LJ_and (G := [_, _, _, _, _]) (j := 5) (cj := 8) rfl rfl (by rfl) rfl (show _ = Value.bool _ from rfl) rfl
  ·
   intro hg6
   try simp only [zb1, zb2, zb3, zb4, zb5, zb6, zb7, zb8] at hg6
   refine LJ_q (yv_field tb rfl rfl rfl) rfl ?_
   refine LJ_q (yv_field tb rfl rfl rfl) rfl ?_
   refine LJ_q (yv_load1 tb rfl rfl rfl (by repeat (first | exact zi0 | apply zi1 | apply zi2)) (by rfl)) rfl ?_
   refine LJ_q (yv_len tb rfl rfl rfl) rfl ?_
   refine LJ_q (yv_leq rfl rfl) rfl ?_
   exact LJ_merge_end (show _ = Value.bool _ from rfl) (by repeat (first | exact Off.refl | apply Off.upd rfl | apply Off.havoc rfl | apply Off.updL rfl | apply Off.left rfl)) (by repeat (first | exact zs0 _ | exact zs1 _ | apply zs2 | apply zs3 | apply zs4 | apply zs5)) (by first | exact allR_self _ | exact fun r h => inR_self (by simp [h]))
  intro junk6
  refine LJ_q (yv_move (show _ = Value.bool _ from rfl)) rfl ?_
  apply LJ_and (G := [_, _, _, _]) (j := 12) (cj := 15) rfl rfl (by rfl) rfl (show _ = Value.bool _ from rfl) rfl
  ·
   intro hg13
   try simp only [zb1, zb2, zb3, zb4, zb5, zb6, zb7, zb8] at hg13
   refine LJ_q (yv_field tb rfl rfl rfl) rfl ?_
   refine LJ_q (yv_load1 tb rfl rfl rfl (by repeat (first | exact zi0 | apply zi1 | apply zi2)) (by rfl)) rfl ?_
   refine LJ_q (yv_len tb rfl rfl rfl) rfl ?_
   refine LJ_q (yv_leq rfl rfl) rfl ?_
   exact LJ_merge_end (show _ = Value.bool _ from rfl) (by repeat (first | exact Off.refl | apply Off.upd rfl | apply Off.havoc rfl | apply Off.updL rfl | apply Off.left rfl)) (by repeat (first | exact zs0 _ | exact zs1 _ | apply zs2 | apply zs3 | apply zs4 | apply zs5)) (by first | exact allR_self _ | exact fun r h => inR_self (by simp [h]))
  intro junk13
  refine LJ_q (yv_move (show _ = Value.bool _ from rfl)) rfl ?_
  apply LJ_and (G := [_, _, _, _]) (j := 18) (cj := 21) rfl rfl (by rfl) rfl (show _ = Value.bool _ from rfl) rfl
  ·
   intro hg19
   try simp only [zb1, zb2, zb3, zb4, zb5, zb6, zb7, zb8] at hg19
   refine LJ_q (yv_field tb rfl rfl rfl) rfl ?_
   refine LJ_q (yv_load1 tb rfl rfl rfl (by repeat (first | exact zi0 | apply zi1 | apply zi2)) (by rfl)) rfl ?_
   refine LJ_q (yv_len tb rfl rfl rfl) rfl ?_
   refine LJ_q (yv_leq rfl rfl) rfl ?_
   exact LJ_merge_end (show _ = Value.bool _ from rfl) (by repeat (first | exact Off.refl | apply Off.upd rfl | apply Off.havoc rfl | apply Off.updL rfl | apply Off.left rfl)) (by repeat (first | exact zs0 _ | exact zs1 _ | apply zs2 | apply zs3 | apply zs4 | apply zs5)) (by first | exact allR_self _ | exact fun r h => inR_self (by simp [h]))
  intro junk19
  refine LJ_q (yv_assign (show _ = Value.bool _ from rfl)) rfl ?_
  refine LJ_nil (seqK_normal (CJ_ret ?_))
  refine retK_ret (L' := L) (R' := R) (res1 rfl (rv_tmp (show _ = Value.bool _ from rfl))) ?hp ?hL ?hR
  case hp => exact ⟨_, rfl, rfl, rfl⟩
  case hL => exact (by repeat (first | exact zs0 _ | exact zs1 _ | apply zs2 | apply zs3 | apply zs4 | apply zs5))
  case hR => exact allR_self _
end Go.Proofs.Ytimnnhdeicpenaa
