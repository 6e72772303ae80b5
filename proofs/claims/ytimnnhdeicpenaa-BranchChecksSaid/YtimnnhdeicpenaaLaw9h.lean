/-
  Statements about chapter 9: checks. By an AI agent; no person has read it.
-/
import Derived.Test.YtimnnhdeicpenaaLaw9b
import Derived.Test.YtimnnhdeicpenaaCopy
set_option linter.unusedSimpArgs false
set_option linter.unusedVariables false
namespace Go.Proofs.Ytimnnhdeicpenaa
open Go.Aw Go
set_option maxRecDepth 20000
attribute [local irreducible] CJ LJ DJ Tri YV Gives seqK blockK loopK retK RV mergeK OwL.L

theorem ok_cap {α : Type} {f : α → List Value} {wd : Nat} {p : OwL α} (h : p.ok wd f) : p.l.length ≤ p.o.cap := by
  obtain ⟨o, l⟩ := p
  cases o with
  | nil => exact Nat.le_of_eq h.1
  | own => exact h.2.1

structure WayOk (m : MadeO) (n : Nat) (R0 R : List Sl) : Prop where
  ok : m.Ok
  n : n ≤ m.places.l.length
  fans : ∀ f ∈ m.fans.l, InR f.sl R
  doors : ∀ d ∈ m.doors.l, InR d.sl R
  rest : ∀ r ∈ R0, InR r R

theorem branchChecks_law (y : Arr Int) (raw : XAir) (s : XSetting) (by_ : Int) (R : List Sl) (hy : CodesR y R) (hraw : AirR raw R) (hs : SetR s R) (h1 : I64 by_) :
    Tri Try.prog 3 [y.val, raw.val, s.val, .int .i64 by_].toArray [] R (fun v L' R' => v = .bool true ∧ [] = L' ∧ R = R') := by
  refine tri_enter 117 Try.call3 Try.func3 rfl rfl rfl ?_
  refine CJ_seq (CJ_region ?_)
  refine LJ_boxN rfl rfl ?_
  intro b5
  refine LJ_boxN rfl rfl ?_
  intro b6
  refine LJ_q (yv_assign (show _ = Value.bool _ from rfl)) rfl ?_
  refine LJ_nil (seqK_normal (CJ_seq (CJ_region ?_)))
  refine LJ_q (yv_move (show _ = Value.slice _ _ _ from rfl)) rfl ?_
  refine LJ_call rfl (new_tri y _ _ hy) rfl ?_
  rintro v L' R' ⟨c, rfl, hx, rfl, rfl⟩
  refine LJ_q (yv_assign (show _ = Value.pointer _ from rfl)) rfl ?_
  refine LJ_nil (seqK_normal (CJ_seq (CJ_region ?_)))
  refine LJ_q (yv_move (show _ = Value.pointer _ from rfl)) rfl ?_
  refine LJ_call rfl (made1 (.consL (.consB (.consB .nil))) hx (Nat.zero_le _)) rfl ?_
  rintro v L' R' ⟨m, k1, S, rfl, hm, hMA, hif, hid, hk1, rfl, rfl⟩
  simp only [List.append_assoc, List.cons_append, List.nil_append]
  refine LJ_q (yv_move rfl) rfl ?_
  refine LJ_q (yv_extract rfl rfl) rfl ?_
  refine LJ_q (yv_extract rfl rfl) rfl ?_
  refine LJ_q (yv_extract rfl rfl) rfl ?_
  refine LJ_alloc tb rfl rfl ?_
  intro b10
  refine LJ_alloc tb rfl rfl ?_
  intro b11
  refine LJ_alloc tb rfl rfl ?_
  intro b12
  refine LJ_storeW tb rfl rfl rfl rfl (by repeat (first | apply zu0 | apply zu1 | apply zu2)) (by rfl) (by rfl) ?_
  refine LJ_storeW tb rfl rfl rfl rfl (by repeat (first | apply zu0 | apply zu1 | apply zu2)) (by rfl) (by rfl) ?_
  refine LJ_storeW tb rfl rfl rfl rfl (by repeat (first | apply zu0 | apply zu1 | apply zu2)) (by rfl) (by rfl) ?_
  refine LJ_nil (seqK_normal (CJ_seq (CJ_seq ?_)))
  have hnp := hMA.nplaces
  have hnp2 : m.places.l.length = m.a.mine.places.l.length := rfl
  have hnf : m.fans.l.length ≤ 2 := hMA.nfans
  have hnd : m.doors.l.length ≤ 2 := hMA.ndoors
  have hcap := ok_cap hm.places
  have hfit := fitOk_of hMA.fit
  have htl : m.tf.l.length = m.fans.l.length := hfit.lf
  have htd : m.td.l.length = m.doors.l.length := hfit.ld
  have hxS : CodesR (codes300 y) (S ++ bsl (codes300 y) :: R) := hx.mono fun r hr => inR_self (by simp only [List.mem_append]; exact .inr hr)
  refine CJ_region ?_
  refine LJ_q (yv_move (show _ = Value.pointer _ from rfl)) rfl ?_
  refine LJ_call rfl (next1 (by repeat (first | apply USeg.here | apply USeg.cons | apply USeg.app)) hxS hk1 (by omega)) rfl ?_
  rintro v L' R' ⟨r1, k2, rfl, g1, g1', g1'', hk2, rfl, rfl⟩
  refine LJ_nil (seqK_normal ?_)
  refine CJ_joinS [23, 24, 25, 26, 27, 28, 29, 30, 31, 32, 33, 34, 35, 36, 37, 38, 39, 40, 41, 42, 43, 44, 45, 46, 47, 48, 49, 50, 51, 52, 53, 54, 55, 56, 57, 58, 59, 60, 61, 62, 63, 64, 65, 66, 67, 68, 69, 70] ((⟨fun g => [], fun g => ⟨b11, [g.1.1.tf.val, g.1.1.td.val], 33⟩ :: ⟨b10, [.slice g.1.1.places.o.addr g.1.2.1 g.1.1.places.o.cap, g.1.1.roads.val, g.1.1.fans.val, g.1.1.doors.val], 30⟩ :: ⟨b6, s.cells, 33⟩ :: ⟨b5, raw.cells, 30⟩ ::  (g.1.1.L (cblk c (codes300 y) g.1.2.2.1)), fun g => g.1.2.2.2, fun _ => 0⟩ : Head {g : MadeO × Nat × Nat × List Sl // WayOk g.1 g.2.1 (S ++ bsl (codes300 y) :: R) g.2.2.2})) ?_ ?_
  ·
   refine CJ_block (CJ_seq (CJ_region ?_))
   refine LJ_q (yv_eql rfl rfl) rfl ?_
   refine LJ_q (yv_assign (show _ = Value.bool _ from rfl)) rfl ?_
   refine LJ_nil (seqK_normal ?_)
   refine CJ_cond (show _ = Value.bool _ from rfl) (fun hc0 => ?_) (fun hc0 => ?_)
   ·
    try simp only [zb1, zb2, zb3, zb4, zb5, zb6, zb7, zb8] at hc0
    refine CJ_seq ?_
    refine CJ_drawn2 tb [] [0, 1, 2, 3, 4, 5, 6] [7, 8, 9] ([Blk.mk b10 _ _]) _ mixed (by kernel_rfl) (by repeat (first | exact zs0 _ | exact zs1 _ | apply zs2 | apply zs3 | apply zs4 | apply zs5)) (List.nil_sublist _) ?_
    refine DJ3_q (yv_field tb rfl rfl rfl) rfl rfl rfl rfl ?_
    refine DJ3_q (yv_load1 tb rfl rfl rfl (by repeat (first | exact zi0 | apply zi1 | apply zi2)) (by rfl)) rfl rfl rfl rfl ?_
    refine DJ3_q (yv_move (show _ = Value.int _ _ from rfl)) rfl rfl rfl rfl ?_
    refine DJ3_q (yv_move (show _ = Value.pointer _ from rfl)) rfl rfl rfl rfl ?_
    refine DJ3_call rfl (curve1 (by repeat (first | apply USeg.here | apply USeg.cons | apply USeg.app)) hxS hk2) rfl rfl ?_
    rintro v L' R' ⟨cu, k3, rfl, hcu, hk3, rfl, rfl⟩
    refine ⟨(by repeat (first | exact zs0 _ | exact zs1 _ | apply zs2 | apply zs3 | apply zs4 | apply zs5)), (by first | exact allR_self _ | exact (fun r h => inR_self (by simp [h]))), ?_⟩
    refine DJ3_q (yv_build (qs := [(0, (Value.int _ _).cells.toList), (3, (Value.slice _ _ _).cells.toList)]) (out := [_, _, _, _]) tb rfl rfl rfl rfl) rfl rfl rfl rfl ?_
    refine DJ3_g (gives_buildSlice (qs := [(0, (Value.agg _).cells.toList)]) (out := [_, _, _, _]) tb rfl rfl rfl rfl rfl rfl rfl) rfl rfl rfl ?_
    rintro v L' R' ⟨b31, rfl, rfl, hR31⟩
    replace hR31 := hR31.symm; subst hR31
    refine ⟨(by repeat (first | exact zs0 _ | exact zs1 _ | apply zs2 | apply zs3 | apply zs4 | apply zs5)), allR_self _, ?_⟩
    refine DJ3_phase ?_
    refine DJ_g (gives_append1 (f := XFan.cells) (p := m.fans) (a := ⟨by_, false, false, cu⟩) tb rfl rfl rfl rfl (hm.fans) (by repeat (first | apply OSeg.cons | exact OSeg.here | exact OSeg.last | exact OSeg.at (by assumption) | apply OSeg.app)) (shown_own (by repeat (first | exact zi0 | apply zi1 | apply zi2)) rfl rfl) rfl (by first | omega | (simp only [List.length_cons, List.length_nil, List.length_append]; omega))) rfl rfl rfl ?_
    rintro v L' R' ⟨o32, rfl, hok32, rfl, rfl⟩
    refine ⟨(by repeat (first | exact zs0 _ | exact zs1 _ | apply zs2 | apply zs3 | apply zs4 | apply zs5)), allR_self _, ?_⟩
    refine DJ_q (yv_field tb rfl rfl rfl) rfl rfl rfl ?_
    refine DJ_store1 (v := Value.slice _ _ _) rfl rfl rfl rfl (by repeat (first | apply zu0 | apply zu1 | apply zu2)) (by first | exact icell_fit (by omega) | rfl) (by first | exact icell_set | rfl) (by rfl) (by repeat (first | exact zs0 _ | exact zs1 _ | apply zs2 | apply zs3 | apply zs4 | apply zs5)) ?_
    refine DJ_nil (seqK_normal (CJ_region ?_))
    refine LJ_q (yv_field tb rfl rfl rfl) rfl ?_
    refine LJ_q (yv_load1 tb rfl rfl rfl (by repeat (first | exact zi0 | apply zi1 | apply zi2)) (by rfl)) rfl ?_
    refine LJ_q (yv_move (show _ = Value.int _ _ from rfl)) rfl ?_
    refine LJ_g (gives_buildSlice (qs := [(0, (Value.int _ _).cells.toList)]) (out := [_]) tb rfl rfl rfl rfl rfl rfl rfl) rfl ?_
    rintro v L' R' ⟨b37, rfl, rfl, hR37⟩
    replace hR37 := hR37.symm; subst hR37
    refine LJ_g (gives_append1 (f := icell) (p := m.tf) (a := by_) tb rfl rfl rfl rfl (hm.tf) (by repeat (first | apply OSeg.cons | exact OSeg.here | exact OSeg.last | exact OSeg.at (by assumption) | apply OSeg.app)) (shown_own (by repeat (first | exact zi0 | apply zi1 | apply zi2)) rfl rfl) rfl (by first | omega | (simp only [List.length_cons, List.length_nil, List.length_append]; omega))) rfl ?_
    rintro v L' R' ⟨o38, rfl, hok38, rfl, rfl⟩
    refine LJ_q (yv_field tb rfl rfl rfl) rfl ?_
    refine LJ_store1 (v := Value.slice _ _ _) tb rfl rfl rfl rfl (by repeat (first | apply zu0 | apply zu1 | apply zu2)) (by first | exact icell_fit (by omega) | rfl) (by first | exact icell_set | rfl) (by rfl) ?_
    refine LJ_nil (blockK_normal ?_)
    exact joinK_mk ⟨({ m with fans := ⟨o32, m.fans.l ++ [⟨by_, false, false, cu⟩]⟩, tf := ⟨o38, m.tf.l ++ [by_]⟩ }, m.places.l.length, k3, _), ⟨⟨hm.places, hm.roads, hok32, hm.doors, hok38, hm.td, hm.pres, hm.flows⟩, Nat.le_refl _, fun f hf => (by rcases List.mem_append.1 hf with h | h; exact (hif f h).mono fun r hr => inR_self (by simp [hr]); rw [List.mem_singleton.1 h]; exact inR_self (by simp)), fun f hf => (hid f hf).mono fun r hr => inR_self (by simp [hr]), fun r hr => inR_self (.tail _ hr)⟩⟩ (by repeat (first | exact Off.refl | apply Off.upd rfl | apply Off.havoc rfl | apply Off.updL rfl | apply Off.left rfl)) (by repeat' (first | exact trivial | refine And.intro rfl ?_)) (by repeat (first | exact zs0 _ | exact zs1 _ | apply zs2 | apply zs3 | apply zs4 | apply zs5)) (allR_self _)
   ·
    try simp only [zb1, zb2, zb3, zb4, zb5, zb6, zb7, zb8] at hc0
    refine CJ_seq (CJ_region ?_)
    refine LJ_q (yv_eql rfl rfl) rfl ?_
    refine LJ_q (yv_assign (show _ = Value.bool _ from rfl)) rfl ?_
    refine LJ_nil (seqK_normal ?_)
    refine CJ_cond (show _ = Value.bool _ from rfl) (fun hc1 => ?_) (fun hc1 => ?_)
    ·
     try simp only [zb1, zb2, zb3, zb4, zb5, zb6, zb7, zb8] at hc1
     refine CJ_seq ?_
     refine CJ_drawn2 tb [] [0, 1, 2, 3, 4, 5] [6, 7, 8] ([Blk.mk b10 _ _]) _ mixed (by kernel_rfl) (by repeat (first | exact zs0 _ | exact zs1 _ | apply zs2 | apply zs3 | apply zs4 | apply zs5)) (List.nil_sublist _) ?_
     refine DJ3_q (yv_field tb rfl rfl rfl) rfl rfl rfl rfl ?_
     refine DJ3_q (yv_load1 tb rfl rfl rfl (by repeat (first | exact zi0 | apply zi1 | apply zi2)) (by rfl)) rfl rfl rfl rfl ?_
     refine DJ3_q (yv_move (show _ = Value.pointer _ from rfl)) rfl rfl rfl rfl ?_
     refine DJ3_q (yv_move (show _ = Value.int _ _ from rfl)) rfl rfl rfl rfl ?_
     refine DJ3_call rfl (door1 (by repeat (first | apply USeg.here | apply USeg.cons | apply USeg.app)) hxS hk2) rfl rfl ?_
     rintro v L' R' ⟨d, k3, rfl, hd, hk3, rfl, rfl⟩
     refine ⟨(by repeat (first | exact zs0 _ | exact zs1 _ | apply zs2 | apply zs3 | apply zs4 | apply zs5)), (by first | exact allR_self _ | exact (fun r h => inR_self (by simp [h]))), ?_⟩
     refine DJ3_g (gives_buildSlice (qs := [(0, (Value.agg _).cells.toList)]) (out := [_, _, _]) tb rfl rfl rfl rfl rfl rfl rfl) rfl rfl rfl ?_
     rintro v L' R' ⟨b47, rfl, rfl, hR47⟩
     replace hR47 := hR47.symm; subst hR47
     refine ⟨(by repeat (first | exact zs0 _ | exact zs1 _ | apply zs2 | apply zs3 | apply zs4 | apply zs5)), allR_self _, ?_⟩
     refine DJ3_phase ?_
     refine DJ_g (gives_append1 (f := XDoor.cells) (p := m.doors) (a := d) tb rfl rfl rfl rfl (hm.doors) (by repeat (first | apply OSeg.cons | exact OSeg.here | exact OSeg.last | exact OSeg.at (by assumption) | apply OSeg.app)) (shown_own (by repeat (first | exact zi0 | apply zi1 | apply zi2)) rfl rfl) rfl (by first | omega | (simp only [List.length_cons, List.length_nil, List.length_append]; omega))) rfl rfl rfl ?_
     rintro v L' R' ⟨o48, rfl, hok48, rfl, rfl⟩
     refine ⟨(by repeat (first | exact zs0 _ | exact zs1 _ | apply zs2 | apply zs3 | apply zs4 | apply zs5)), allR_self _, ?_⟩
     refine DJ_q (yv_field tb rfl rfl rfl) rfl rfl rfl ?_
     refine DJ_store1 (v := Value.slice _ _ _) rfl rfl rfl rfl (by repeat (first | apply zu0 | apply zu1 | apply zu2)) (by first | exact icell_fit (by omega) | rfl) (by first | exact icell_set | rfl) (by rfl) (by repeat (first | exact zs0 _ | exact zs1 _ | apply zs2 | apply zs3 | apply zs4 | apply zs5)) ?_
     refine DJ_nil (seqK_normal (CJ_region ?_))
     refine LJ_q (yv_field tb rfl rfl rfl) rfl ?_
     refine LJ_q (yv_load1 tb rfl rfl rfl (by repeat (first | exact zi0 | apply zi1 | apply zi2)) (by rfl)) rfl ?_
     refine LJ_q (yv_move (show _ = Value.int _ _ from rfl)) rfl ?_
     refine LJ_g (gives_buildSlice (qs := [(0, (Value.int _ _).cells.toList)]) (out := [_]) tb rfl rfl rfl rfl rfl rfl rfl) rfl ?_
     rintro v L' R' ⟨b53, rfl, rfl, hR53⟩
     replace hR53 := hR53.symm; subst hR53
     refine LJ_g (gives_append1 (f := icell) (p := m.td) (a := by_) tb rfl rfl rfl rfl (hm.td) (by repeat (first | apply OSeg.cons | exact OSeg.here | exact OSeg.last | exact OSeg.at (by assumption) | apply OSeg.app)) (shown_own (by repeat (first | exact zi0 | apply zi1 | apply zi2)) rfl rfl) rfl (by first | omega | (simp only [List.length_cons, List.length_nil, List.length_append]; omega))) rfl ?_
     rintro v L' R' ⟨o54, rfl, hok54, rfl, rfl⟩
     refine LJ_q (yv_field tb rfl rfl rfl) rfl ?_
     refine LJ_store1 (v := Value.slice _ _ _) tb rfl rfl rfl rfl (by repeat (first | apply zu0 | apply zu1 | apply zu2)) (by first | exact icell_fit (by omega) | rfl) (by first | exact icell_set | rfl) (by rfl) ?_
     refine LJ_nil (blockK_normal ?_)
     exact joinK_mk ⟨({ m with doors := ⟨o48, m.doors.l ++ [d]⟩, td := ⟨o54, m.td.l ++ [by_]⟩ }, m.places.l.length, k3, _), ⟨⟨hm.places, hm.roads, hm.fans, hok48, hm.tf, hok54, hm.pres, hm.flows⟩, Nat.le_refl _, fun f hf => (hif f hf).mono fun r hr => inR_self (by simp [hr]), fun f hf => (by rcases List.mem_append.1 hf with h | h; exact (hid f h).mono fun r hr => inR_self (by simp [hr]); rw [List.mem_singleton.1 h]; exact inR_self (by simp)), fun r hr => inR_self (.tail _ hr)⟩⟩ (by repeat (first | exact Off.refl | apply Off.upd rfl | apply Off.havoc rfl | apply Off.updL rfl | apply Off.left rfl)) (by repeat' (first | exact trivial | refine And.intro rfl ?_)) (by repeat (first | exact zs0 _ | exact zs1 _ | apply zs2 | apply zs3 | apply zs4 | apply zs5)) (allR_self _)
    ·
     try simp only [zb1, zb2, zb3, zb4, zb5, zb6, zb7, zb8] at hc1
     refine CJ_seq (CJ_region ?_)
     refine LJ_q (yv_eql rfl rfl) rfl ?_
     refine LJ_q (yv_assign (show _ = Value.bool _ from rfl)) rfl ?_
     refine LJ_nil (seqK_normal ?_)
     refine CJ_cond (show _ = Value.bool _ from rfl) (fun hc2 => ?_) (fun hc2 => ?_)
     ·
      try simp only [zb1, zb2, zb3, zb4, zb5, zb6, zb7, zb8] at hc2
      refine CJ_region ?_
      refine LJ_q (yv_field tb rfl rfl rfl) rfl ?_
      refine LJ_q (yv_load1 tb rfl rfl rfl (by repeat (first | exact zi0 | apply zi1 | apply zi2)) (by rfl)) rfl ?_
      refine LJ_g (gives_buildSlice (qs := [(0, (Value.int _ _).cells.toList)]) (out := [_]) tb rfl rfl rfl rfl rfl rfl rfl) rfl ?_
      rintro v L' R' ⟨b60, rfl, rfl, hR60⟩
      replace hR60 := hR60.symm; subst hR60
      refine LJ_g (gives_append1 (f := icell) (p := m.tf) (a := 0) tb rfl rfl rfl rfl (hm.tf) (by repeat (first | apply OSeg.cons | exact OSeg.here | exact OSeg.last | exact OSeg.at (by assumption) | apply OSeg.app)) (shown_own (by repeat (first | exact zi0 | apply zi1 | apply zi2)) rfl rfl) rfl (by first | omega | (simp only [List.length_cons, List.length_nil, List.length_append]; omega))) rfl ?_
      rintro v L' R' ⟨o61, rfl, hok61, rfl, rfl⟩
      refine LJ_q (yv_field tb rfl rfl rfl) rfl ?_
      refine LJ_store1 (v := Value.slice _ _ _) tb rfl rfl rfl rfl (by repeat (first | apply zu0 | apply zu1 | apply zu2)) (by first | exact icell_fit (by omega) | rfl) (by first | exact icell_set | rfl) (by rfl) ?_
      refine LJ_nil (blockK_normal ?_)
      exact joinK_mk ⟨({ m with tf := ⟨o61, m.tf.l ++ [0]⟩ }, m.places.l.length, k2, _), ⟨⟨hm.places, hm.roads, hm.fans, hm.doors, hok61, hm.td, hm.pres, hm.flows⟩, Nat.le_refl _, fun f hf => (hif f hf).mono fun r hr => inR_self (by simp [hr]), fun f hf => (hid f hf).mono fun r hr => inR_self (by simp [hr]), allR_self _⟩⟩ (by repeat (first | exact Off.refl | apply Off.upd rfl | apply Off.havoc rfl | apply Off.updL rfl | apply Off.left rfl)) (by repeat' (first | exact trivial | refine And.intro rfl ?_)) (by repeat (first | exact zs0 _ | exact zs1 _ | apply zs2 | apply zs3 | apply zs4 | apply zs5)) (allR_self _)
     ·
      try simp only [zb1, zb2, zb3, zb4, zb5, zb6, zb7, zb8] at hc2
      refine CJ_seq (CJ_region ?_)
      refine LJ_q (yv_eql rfl rfl) rfl ?_
      refine LJ_q (yv_assign (show _ = Value.bool _ from rfl)) rfl ?_
      refine LJ_nil (seqK_normal ?_)
      refine CJ_cond (show _ = Value.bool _ from rfl) (fun hc3 => ?_) (fun hc3 => ?_)
      ·
       try simp only [zb1, zb2, zb3, zb4, zb5, zb6, zb7, zb8] at hc3
       refine CJ_region ?_
       refine LJ_q (yv_field tb rfl rfl rfl) rfl ?_
       refine LJ_q (yv_field tb rfl rfl rfl) rfl ?_
       refine LJ_q (yv_load1 tb rfl rfl rfl (by repeat (first | exact zi0 | apply zi1 | apply zi2)) (by rfl)) rfl ?_
       refine LJ_q (yv_slice_h tb rfl rfl rfl rfl (n := 1) rfl (by show 1 ≤ m.places.o.cap; omega)) rfl ?_
       refine LJ_q (yv_field tb rfl rfl rfl) rfl ?_
       refine LJ_q (yv_field tb rfl rfl rfl) rfl ?_
       refine LJ_store1 (v := Value.slice _ _ _) tb rfl rfl rfl rfl (by repeat (first | apply zu0 | apply zu1 | apply zu2)) (by first | exact icell_fit (by omega) | rfl) (by first | exact icell_set | rfl) (by rfl) ?_
       refine LJ_nil (blockK_normal ?_)
       exact joinK_mk ⟨(m, 1, k2, _), ⟨hm, by dsimp only; omega, fun f hf => (hif f hf).mono fun r hr => inR_self (by simp [hr]), fun f hf => (hid f hf).mono fun r hr => inR_self (by simp [hr]), allR_self _⟩⟩ (by repeat (first | exact Off.refl | apply Off.upd rfl | apply Off.havoc rfl | apply Off.updL rfl | apply Off.left rfl)) (by repeat' (first | exact trivial | refine And.intro rfl ?_)) (by repeat (first | exact zs0 _ | exact zs1 _ | apply zs2 | apply zs3 | apply zs4 | apply zs5)) (allR_self _)
      ·
       try simp only [zb1, zb2, zb3, zb4, zb5, zb6, zb7, zb8] at hc3
       refine CJ_skip (blockK_normal ?_)
       exact joinK_mk ⟨(m, m.places.l.length, k2, _), ⟨hm, Nat.le_refl _, fun f hf => (hif f hf).mono fun r hr => inR_self (by simp [hr]), fun f hf => (hid f hf).mono fun r hr => inR_self (by simp [hr]), allR_self _⟩⟩ (by repeat (first | exact Off.refl | apply Off.upd rfl | apply Off.havoc rfl | apply Off.updL rfl | apply Off.left rfl)) (by repeat' (first | exact trivial | refine And.intro rfl ?_)) (by repeat (first | exact zs0 _ | exact zs1 _ | apply zs2 | apply zs3 | apply zs4 | apply zs5)) (allR_self _)
  ·
   rintro ⟨⟨m2, n, k3, R2⟩, hW⟩ junk
   try dsimp only
   refine CJ_seq (CJ_seq ?_)
   dsimp only at hW
   have hn := hW.n
   refine CJ_frzMade (A := [_, _, _, _]) hW.ok hW.fans hW.doors fun R1 hA0 hT hX hR1 => ?_
   refine CJ_takeA n hA0.places ?_
   refine CJ_L (by simp only [List.cons_append, List.nil_append]; rfl) ?_
   obtain ⟨pl, hpl⟩ : ∃ pl : Arr XPlace, pl = ⟨m2.places.o.addr, m2.places.o.cap, m2.places.l.take n⟩ := ⟨_, rfl⟩
   rw [show Value.slice m2.places.o.addr n m2.places.o.cap = pl.val from by rw [hpl]; simp only [Arr.val, List.length_take, Nat.min_eq_left hn]]
   have hA : AirR ⟨⟨pl, m2.roads.arr⟩, m2.fans.arr, m2.doors.arr⟩ (psl pl :: R1) := ⟨inR_self (.head _), hA0.roads.mono fun r h => inR_self (.tail _ h), hA0.fans.mono fun r h => inR_self (.tail _ h), hA0.doors.mono fun r h => inR_self (.tail _ h)⟩
   have hR3 : ∀ r ∈ R, InR r (psl pl :: R1) := fun r hr => ((hW.rest r (by simp [hr])).mono hR1).mono fun q hq => inR_self (.tail _ hq)
   refine CJ_weak (R' := psl pl :: R1) (List.Sublist.refl _) (fun r hr => inR_self (by rw [hpl] at hr; exact hr)) ?_
   have hT3 : SetR m2.t (psl pl :: R1) := setR_mono hT fun r h => inR_self (.tail _ h)
   have hraw3 := airR_mono hraw hR3
   have hs3 := setR_mono hs hR3
   refine CJ_region ?_
   refine LJ_q (yv_loadN (row := [_, _, _, _]) tb rfl rfl rfl (by repeat (first | exact zi0 | apply zi1 | apply zi2)) (by rfl) (by rfl)) rfl ?_
   refine LJ_call rfl (small_tri raw _ _) rfl ?_
   rintro v L' R' ⟨sb, rfl, rfl, rfl⟩
   refine LJ_q (yv_not rfl) rfl ?_
   refine LJ_nil (seqK_normal ?_)
   refine CJ_cond (show _ = Value.bool _ from rfl) (fun hc4 => ?_) (fun hc4 => ?_)
   ·
    try simp only [zb1, zb2, zb3, zb4, zb5, zb6, zb7, zb8] at hc4
    refine CJ_seq (CJ_region ?_)
    refine LJ_call rfl (awake_tri _ _) rfl ?_
    rintro v L' R' ⟨rfl, rfl, rfl⟩
    refine LJ_q (yv_assign (show _ = Value.bool _ from rfl)) rfl ?_
    refine LJ_nil (seqK_normal (CJ_ret (seqK_ret ?_)))
    refine retK_ret (L' := []) (R' := R) (res1 rfl (rv_tmp (show _ = Value.bool _ from rfl))) ?hp ?hL ?hR
    case hp => exact ⟨rfl, rfl, rfl⟩
    case hL => exact List.nil_sublist _
    case hR => exact hR3
   ·
    try simp only [zb1, zb2, zb3, zb4, zb5, zb6, zb7, zb8] at hc4
    refine CJ_skip (seqK_normal (CJ_seq ?_))
    refine CJ_drawn tb [0, 2, 1, 3, 4, 5, 6, 8, 7, 9, 10, 11, 12, 13, 14, 16, 17, 15, 18, 19, 20, 21, 22, 23, 25, 26, 24, 27, 28, 29, 30, 31, 32, 34, 35, 33, 36, 37, 38, 39, 40, 41, 42] _ mixed (by kernel_rfl) (List.Sublist.refl _) ?_
    refine DJ_q (yv_loadN (row := [_, _, _, _]) tb rfl rfl rfl (by repeat (first | exact zi0 | apply zi1 | apply zi2)) (by rfl) (by rfl)) rfl rfl rfl ?_
    refine DJ_q (yv_loadN (row := [_, _, _, _]) tb rfl rfl rfl (by repeat (first | exact zi0 | apply zi1 | apply zi2)) (by rfl) (by rfl)) rfl rfl rfl ?_
    refine DJ_call rfl (branchCheck_tri _ _ _ hA) rfl rfl ?_
    rintro v L' R' ⟨rfl, rfl, rfl⟩
    refine ⟨(by repeat (first | exact zs0 _ | exact zs1 _ | apply zs2 | apply zs3 | apply zs4 | apply zs5)), (by first | exact allR_self _ | exact (fun r h => inR_self (by simp [h]))), ?_⟩
    refine DJ_call rfl (ref09Check_tri _ _ _ hA) rfl rfl ?_
    rintro v L' R' ⟨rfl, rfl, rfl⟩
    refine ⟨(by repeat (first | exact zs0 _ | exact zs1 _ | apply zs2 | apply zs3 | apply zs4 | apply zs5)), (by first | exact allR_self _ | exact (fun r h => inR_self (by simp [h]))), ?_⟩
    refine DJ_q (yv_eql rfl rfl) rfl rfl rfl ?_
    refine DJ_q (yv_move (show _ = Value.bool _ from rfl)) rfl rfl rfl ?_
    refine DJ_case (k := 80) (show _ = Value.bool _ from rfl) (fun hg5 => ?_) (fun hg5 => ?_)
    ·
     try simp only [zb1, zb2, zb3, zb4, zb5, zb6, zb7, zb8] at hg5
     refine DJ_q (yv_loadN (row := [_, _, _, _]) tb rfl rfl rfl (by repeat (first | exact zi0 | apply zi1 | apply zi2)) (by rfl) (by rfl)) rfl rfl rfl ?_
     refine DJ_q (yv_loadN (row := [_, _, _, _]) tb rfl rfl rfl (by repeat (first | exact zi0 | apply zi1 | apply zi2)) (by rfl) (by rfl)) rfl rfl rfl ?_
     refine DJ_call rfl (branchCheck_tri raw _ _ hraw3) rfl rfl ?_
     rintro v L' R' ⟨rfl, rfl, rfl⟩
     refine ⟨(by repeat (first | exact zs0 _ | exact zs1 _ | apply zs2 | apply zs3 | apply zs4 | apply zs5)), (by first | exact allR_self _ | exact (fun r h => inR_self (by simp [h]))), ?_⟩
     refine DJ_call rfl (ref09Check_tri raw _ _ hraw3) rfl rfl ?_
     rintro v L' R' ⟨rfl, rfl, rfl⟩
     refine ⟨(by repeat (first | exact zs0 _ | exact zs1 _ | apply zs2 | apply zs3 | apply zs4 | apply zs5)), (by first | exact allR_self _ | exact (fun r h => inR_self (by simp [h]))), ?_⟩
     refine DJ_q (yv_eql rfl rfl) rfl rfl rfl ?_
     refine DJ_q (by first | exact yv_pick_true rfl rfl | exact yv_pick_false rfl rfl | exact yv_pick rfl) rfl rfl rfl ?_
     refine DJ_q (yv_move (show _ = Value.bool _ from rfl)) rfl rfl rfl ?_
     refine DJ_case (k := 87) (show _ = Value.bool _ from rfl) (fun hg12 => ?_) (fun hg12 => ?_)
     ·
      try simp only [zb1, zb2, zb3, zb4, zb5, zb6, zb7, zb8] at hg12
      refine DJ_q (yv_loadN (row := [_, _, _, _]) tb rfl rfl rfl (by repeat (first | exact zi0 | apply zi1 | apply zi2)) (by rfl) (by rfl)) rfl rfl rfl ?_
      refine DJ_q (yv_loadN (row := [_, _]) tb rfl rfl rfl (by repeat (first | exact zi0 | apply zi1 | apply zi2)) (by rfl) (by rfl)) rfl rfl rfl ?_
      refine DJ_q (yv_loadN (row := [_, _, _, _]) tb rfl rfl rfl (by repeat (first | exact zi0 | apply zi1 | apply zi2)) (by rfl) (by rfl)) rfl rfl rfl ?_
      refine DJ_q (yv_loadN (row := [_, _]) tb rfl rfl rfl (by repeat (first | exact zi0 | apply zi1 | apply zi2)) (by rfl) (by rfl)) rfl rfl rfl ?_
      refine DJ_call rfl (right_tri _ _ _ _ hA hT3) rfl rfl ?_
      rintro v L' R' ⟨rfl, rfl, rfl⟩
      refine ⟨(by repeat (first | exact zs0 _ | exact zs1 _ | apply zs2 | apply zs3 | apply zs4 | apply zs5)), (by first | exact allR_self _ | exact (fun r h => inR_self (by simp [h]))), ?_⟩
      refine DJ_call rfl (ref09Right_tri _ _ _ _ hA hT3) rfl rfl ?_
      rintro v L' R' ⟨rfl, rfl, rfl⟩
      refine ⟨(by repeat (first | exact zs0 _ | exact zs1 _ | apply zs2 | apply zs3 | apply zs4 | apply zs5)), (by first | exact allR_self _ | exact (fun r h => inR_self (by simp [h]))), ?_⟩
      refine DJ_q (yv_eql_bool tb rfl rfl rfl) rfl rfl rfl ?_
      refine DJ_q (by first | exact yv_pick_true rfl rfl | exact yv_pick_false rfl rfl | exact yv_pick rfl) rfl rfl rfl ?_
      refine DJ_q (yv_move (show _ = Value.bool _ from rfl)) rfl rfl rfl ?_
      refine DJ_case (k := 96) (show _ = Value.bool _ from rfl) (fun hg21 => ?_) (fun hg21 => ?_)
      ·
       try simp only [zb1, zb2, zb3, zb4, zb5, zb6, zb7, zb8] at hg21
       refine DJ_q (yv_loadN (row := [_, _, _, _]) tb rfl rfl rfl (by repeat (first | exact zi0 | apply zi1 | apply zi2)) (by rfl) (by rfl)) rfl rfl rfl ?_
       refine DJ_q (yv_loadN (row := [_, _]) tb rfl rfl rfl (by repeat (first | exact zi0 | apply zi1 | apply zi2)) (by rfl) (by rfl)) rfl rfl rfl ?_
       refine DJ_q (yv_loadN (row := [_, _, _, _]) tb rfl rfl rfl (by repeat (first | exact zi0 | apply zi1 | apply zi2)) (by rfl) (by rfl)) rfl rfl rfl ?_
       refine DJ_q (yv_loadN (row := [_, _]) tb rfl rfl rfl (by repeat (first | exact zi0 | apply zi1 | apply zi2)) (by rfl) (by rfl)) rfl rfl rfl ?_
       refine DJ_call rfl (right_tri raw s _ _ hraw3 hs3) rfl rfl ?_
       rintro v L' R' ⟨rfl, rfl, rfl⟩
       refine ⟨(by repeat (first | exact zs0 _ | exact zs1 _ | apply zs2 | apply zs3 | apply zs4 | apply zs5)), (by first | exact allR_self _ | exact (fun r h => inR_self (by simp [h]))), ?_⟩
       refine DJ_call rfl (ref09Right_tri raw s _ _ hraw3 hs3) rfl rfl ?_
       rintro v L' R' ⟨rfl, rfl, rfl⟩
       refine ⟨(by repeat (first | exact zs0 _ | exact zs1 _ | apply zs2 | apply zs3 | apply zs4 | apply zs5)), (by first | exact allR_self _ | exact (fun r h => inR_self (by simp [h]))), ?_⟩
       refine DJ_q (yv_eql_bool tb rfl rfl rfl) rfl rfl rfl ?_
       refine DJ_q (by first | exact yv_pick_true rfl rfl | exact yv_pick_false rfl rfl | exact yv_pick rfl) rfl rfl rfl ?_
       refine DJ_q (yv_move (show _ = Value.bool _ from rfl)) rfl rfl rfl ?_
       refine DJ_case (k := 105) (show _ = Value.bool _ from rfl) (fun hg30 => ?_) (fun hg30 => ?_)
       ·
        try simp only [zb1, zb2, zb3, zb4, zb5, zb6, zb7, zb8] at hg30
        refine DJ_q (yv_loadN (row := [_, _, _, _]) tb rfl rfl rfl (by repeat (first | exact zi0 | apply zi1 | apply zi2)) (by rfl) (by rfl)) rfl rfl rfl ?_
        refine DJ_q (yv_loadN (row := [_, _]) tb rfl rfl rfl (by repeat (first | exact zi0 | apply zi1 | apply zi2)) (by rfl) (by rfl)) rfl rfl rfl ?_
        refine DJ_q (yv_loadN (row := [_, _, _, _]) tb rfl rfl rfl (by repeat (first | exact zi0 | apply zi1 | apply zi2)) (by rfl) (by rfl)) rfl rfl rfl ?_
        refine DJ_q (yv_loadN (row := [_, _]) tb rfl rfl rfl (by repeat (first | exact zi0 | apply zi1 | apply zi2)) (by rfl) (by rfl)) rfl rfl rfl ?_
        refine DJ_call rfl (right_tri _ s _ _ hA hs3) rfl rfl ?_
        rintro v L' R' ⟨rfl, rfl, rfl⟩
        refine ⟨(by repeat (first | exact zs0 _ | exact zs1 _ | apply zs2 | apply zs3 | apply zs4 | apply zs5)), (by first | exact allR_self _ | exact (fun r h => inR_self (by simp [h]))), ?_⟩
        refine DJ_call rfl (ref09Right_tri _ s _ _ hA hs3) rfl rfl ?_
        rintro v L' R' ⟨rfl, rfl, rfl⟩
        refine ⟨(by repeat (first | exact zs0 _ | exact zs1 _ | apply zs2 | apply zs3 | apply zs4 | apply zs5)), (by first | exact allR_self _ | exact (fun r h => inR_self (by simp [h]))), ?_⟩
        refine DJ_q (yv_eql_bool tb rfl rfl rfl) rfl rfl rfl ?_
        refine DJ_q (by first | exact yv_pick_true rfl rfl | exact yv_pick_false rfl rfl | exact yv_pick rfl) rfl rfl rfl ?_
        refine DJ_q (yv_move (show _ = Value.bool _ from rfl)) rfl rfl rfl ?_
        refine DJ_case (k := 114) (show _ = Value.bool _ from rfl) (fun hg39 => ?_) (fun hg39 => ?_)
        ·
         try simp only [zb1, zb2, zb3, zb4, zb5, zb6, zb7, zb8] at hg39
         refine DJ_call rfl (awake_tri _ _) rfl rfl ?_
         rintro v L' R' ⟨rfl, rfl, rfl⟩
         refine ⟨(by repeat (first | exact zs0 _ | exact zs1 _ | apply zs2 | apply zs3 | apply zs4 | apply zs5)), (by first | exact allR_self _ | exact (fun r h => inR_self (by simp [h]))), ?_⟩
         refine DJ_q (by first | exact yv_pick_true rfl rfl | exact yv_pick_false rfl rfl | exact yv_pick rfl) rfl rfl rfl ?_
         refine DJ_q (yv_assign (show _ = Value.bool _ from rfl)) rfl rfl rfl ?_
         refine DJ_nil (seqK_normal (CJ_ret ?_))
         refine retK_ret (L' := []) (R' := R) (res1 rfl (rv_tmp (show _ = Value.bool _ from rfl))) ?hp ?hL ?hR
         case hp => exact ⟨rfl, rfl, rfl⟩
         case hL => exact List.nil_sublist _
         case hR => exact hR3
        ·
         try simp only [zb1, zb2, zb3, zb4, zb5, zb6, zb7, zb8] at hg39
         simp at hg39
       ·
        try simp only [zb1, zb2, zb3, zb4, zb5, zb6, zb7, zb8] at hg30
        simp at hg30
      ·
       try simp only [zb1, zb2, zb3, zb4, zb5, zb6, zb7, zb8] at hg21
       simp at hg21
     ·
      try simp only [zb1, zb2, zb3, zb4, zb5, zb6, zb7, zb8] at hg12
      simp at hg12
    ·
     try simp only [zb1, zb2, zb3, zb4, zb5, zb6, zb7, zb8] at hg5
     simp at hg5
end Go.Proofs.Ytimnnhdeicpenaa
