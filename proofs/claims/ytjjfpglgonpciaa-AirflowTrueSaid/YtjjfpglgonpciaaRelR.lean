/-
  The reference's raising and lowering. By an AI agent; no person has read it.
-/
import Derived.Test.YtjjfpglgonpciaaNextS
set_option linter.unusedSimpArgs false
set_option linter.unusedVariables false
namespace Go.Proofs.Ytjjfpglgonpciaa
open Go.Aw Go
set_option maxRecDepth 20000
attribute [local irreducible] CJ LJ DJ Tri YV Gives seqK blockK loopK retK RV mergeK OwL.L

theorem ref12check_tri (a : XAir) (s : XSetting) (ps : Arr Int) (A : List Bool) (L : List Blk) (R : List Sl) (hm : AirR a R) (hs : SetR s R) (hps : InR (isl ps) R) (hA : airErr a = 0 → AiryIs a.mine A) :
    Tri Try.prog 97 [a.val, s.val, ps.val].toArray L R (fun v L' R' => v = .int .i64 (startErr a s ps.l A) ∧ L = L' ∧ R = R') := by
  have hmp := hm.places
  refine Tri_len Try.call97 hps fun hpn => ?_
  refine Tri_len Try.call97 hmp fun hmpn => ?_
  refine tri_enter 49 Try.call97 Try.func97 rfl rfl rfl ?_
  refine qae ?_
  refine qax ?_
  intro b3
  refine qax ?_
  intro b4
  refine qad ?_
  refine qaw ?_
  refine qa8 ?_
  refine q_l rfl (ref09Check_tri a _ _ hm) ?_
  refine qad ?_
  refine qam ?_
  refine qaa ?_
  refine qbq ?_
  refine qaf ?_
  refine q_c (fun hc0 => ?_) (fun hc0 => ?_)
  ·
   refine qae ?_
   refine qaa ?_
   refine qad ?_
   refine qbh ?_
   refine q_i (L' := L) (R' := R) ?_
   exact ⟨by rw [startErr, if_pos hc0], rfl, rfl⟩
  ·
   have h0 : airErr a = 0 := by omega
   have hok := airOk_of h0
   have hAA := hA h0
   refine qbo ?_
   refine qa8 ?_
   refine qbe ?_
   refine q_l rfl (ref09Right_tri a s _ _ hm hs) ?_
   refine qb4 ?_
   refine qaf ?_
   refine q_c (fun hc1 => ?_) (fun hc1 => ?_)
   ·
    refine qae ?_
    refine qad ?_
    refine qbh ?_
    refine q_i (L' := L) (R' := R) ?_
    exact ⟨by rw [startErr, if_neg hc0, if_pos (by simpa [rightB, h0] using hc1)], rfl, rfl⟩
   ·
    have hf0 : fitB a s = true := by simpa [rightB, h0] using hc1
    have hff : ¬ fitB a s = false := by rw [hf0]; decide
    refine qbo ?_
    refine qbm ?_
    refine qag ?_
    refine qab ?_
    refine qab ?_
    refine qac ?_
    refine qag ?_
    refine qbq ?_
    refine qaf ?_
    refine q_c (fun hc2 => ?_) (fun hc2 => ?_)
    ·
     refine qae ?_
     refine qad ?_
     refine qbh ?_
     refine q_i (L' := L) (R' := R) ?_
     exact ⟨by rw [startErr, if_neg hc0, if_neg hff, if_pos (by omega)], rfl, rfl⟩
    ·
     have hln : ps.l.length = a.mine.places.l.length := by omega
     refine qbo ?_
     refine qbm ?_
     refine q_l rfl (ranged_tri ps _ _ hps) ?_
     refine qb4 ?_
     refine qaf ?_
     refine q_c (fun hc3 => ?_) (fun hc3 => ?_)
     ·
      refine qae ?_
      refine qad ?_
      refine qbh ?_
      refine q_i (L' := L) (R' := R) ?_
      exact ⟨by rw [startErr, if_neg hc0, if_neg hff, if_neg (by omega), if_pos (by simp_all [Option.isSome_iff_ne_none])], rfl, rfl⟩
     ·
      have hr : ¬ (ps.l.findSome? presBad).isSome = true := by simp_all
      refine qbv ?_
      refine qab ?_
      refine qbe ?_
      refine LJ_call rfl (fixed_tri a.mine _ _ hm.mineR hok.mine) rfl ?_
      rintro v L' R' ⟨p, A2, rfl, hpk, hA2, hpl, rfl, rfl⟩
      obtain rfl : A = A2 := hAA.unique hA2
      have hfx : p.l.length = a.mine.places.l.length := by rw [hpl]; exact fixS_length a.mine A
      have hck : startErr a s ps.l A = ((List.range ps.l.length).findSome? (startBad a ps.l A)).getD 0 := by rw [startErr, if_neg hc0, if_neg hff, if_neg (by omega), if_neg hr, hln]
      refine qc4 ?_
      refine qco ?_
      refine CJ_turn fun c w hst => ⟨_, _, hst.perm List.perm_append_comm, ?_⟩
      refine qay ?_
      refine qad ?_
      refine qa2 ?_
      refine CJ_forget [(2, Value.slice _ _ _), (8, Value.slice _ _ _), (9, Value.int _ _)] (by repeat' (first | exact trivial | refine And.intro rfl ?_)) fun tq0 => ?_
      refine q_s [6, 9, 32, 33, 34, 35, 36, 37, 38, 39, 40, 41, 42, 43, 44, 45, 46, 47, 48] (fun g : FSR (startBad a ps.l A) (ps.l.length) => [(9, .int .i64 ((g.1 : Nat) : Int))]) (fun g => (ps.l.length) - g.1) ⟨0, FSR_zero _ _⟩ ?_
      rintro ⟨k0, hk0, hp0⟩ junk
      try dsimp only
      refine qbi ?_
      refine qaa ?_
      refine qbm ?_
      refine qag ?_
      refine qaj ?_
      refine qaf ?_
      refine q_c (fun hc4 => ?_) (fun hc4 => ?_)
      ·
       have hpg : p.l[k0]? = some (fixB a A k0) := by rw [hpl]; exact fixS_get (by omega)
       have hsg := get_D (l := ps.l) (k := k0) 0 (by omega)
       refine qbb ?_
       refine qbm ?_
       refine qaa ?_
       refine LJ_q (yv_index_ow tb (p) _ rfl rfl rfl rfl (by assumption) (i := k0) (by first | rfl | omega | (simp; omega)) (by first | omega | (dsimp only; omega) | (dsimp only; rw [List.length_set]; omega))) rfl ?_
       refine LJ_q (yv_load1_ow tb (p) rfl rfl rfl (by repeat (first | apply OSeg.cons | exact OSeg.here | exact OSeg.last | exact OSeg.at (by assumption) | apply OSeg.app)) (by assumption) (fun _ => rfl) (by assumption) (by rfl)) rfl ?_
       refine qah ?_
       apply LJ_and (G := [_, _, _, _, _]) (j := 4) (cj := 42) rfl rfl (by rfl) rfl (show _ = Value.bool _ from rfl) rfl
       ·
        intro hg5
        replace hg5 := qb hg5
        refine qbm ?_
        refine qaa ?_
        refine LJ_q (by first | exact yv_index_ro tb rfl rfl rfl rfl (by first | assumption | exact zr (by simp)) (i := k0) (by first | rfl | omega | (simp; omega)) (by omega) | exact yv_index tb rfl rfl rfl rfl (i := k0) (by first | rfl | omega | (simp; omega)) (by omega)) rfl ?_
        refine qa7 ?_
        refine qbq ?_
        exact qai
       intro junk5
       refine qaf ?_
       refine q_c (fun hc5 => ?_) (fun hc5 => ?_)
       ·
        have hnb : startBad a ps.l A k0 = some 12 := if_pos (by simpa using hc5)
        refine qae ?_
        refine qad ?_
        refine qbt ?_
        refine q_i (L' := L) (R' := R) ?_
        exact ⟨by rw [hck, FSR_some hp0 (by omega) hnb]; rfl, rfl, rfl⟩
       ·
        have hnb : startBad a ps.l A k0 = none := if_neg (fun ⟨h1, h2⟩ => by
        rcases hc5 with ⟨h3, h4⟩ | h3
        · rw [fixB, h3, h4] at h1; cases h1
        · exact h3 h2)
        refine qbj ?_
        refine qaa ?_
        refine qar ?_
        refine qad ?_
        refine qav ?_
        exact q_k ⟨k0 + 1, FSR_next hp0 (by omega) (hnb)⟩
      ·
       have hn0 := FSR_none hp0 (by omega)
       refine qbk ?_
       refine qad ?_
       refine qa0 ?_
       refine q_i (L' := L) (R' := R) ?_
       exact ⟨by rw [hck, hn0]; rfl, rfl, rfl⟩

abbrev nextV (x : Option Int) : Value := .tuple #[.int .i64 (x.getD 0), .bool x.isSome]
theorem room_ge {ps : List Int} (h : PresOk ps) (up : Bool) (k : Nat) : 0 ≤ room up (ps.getD k 0) := (room_in (h.get k)).1
theorem upL {a : XAir} {s : XSetting} {o : Ow} {l : List Int} {k : Nat} {A : List Blk} {R : List Sl} {vl : Value} (hvl : vl = (⟨o, l⟩ : OwL Int).val) (h : HypsR a s l k R) (hin : InB ((⟨o, l⟩ : OwL Int).L 3 icell) A) (hok : (⟨o, l⟩ : OwL Int).ok 1 icell) :
    Tri Try.prog 99 [a.val, s.val, vl, .int .i64 (k : Int)].toArray A R (fun w L' R' => w = nextV (nextAt a s true l k) ∧ A = L' ∧ R = R') := by
  subst hvl
  refine Tri.lend1 hin hok ((up_tri a s (⟨o, l⟩ : OwL Int).arr k [] _ ⟨airR_mono h.air fun r hr => inR_self (.tail _ hr), setR_mono h.set fun r hr => inR_self (.tail _ hr), h.ok, h.fit, h.len, h.pres, h.v⟩ (inR_self (.head _))).mono ?_)
  rintro v L' R' ⟨z, ok, rfl, hF, rfl, rfl⟩
  obtain ⟨rfl, rfl⟩ := first_next (room_ge h.pres true (Int.toNat k)) hF
  exact ⟨rfl, rfl, rfl⟩

theorem downL {a : XAir} {s : XSetting} {o : Ow} {l : List Int} {k : Nat} {A : List Blk} {R : List Sl} {vl : Value} (hvl : vl = (⟨o, l⟩ : OwL Int).val) (h : HypsR a s l k R) (hin : InB ((⟨o, l⟩ : OwL Int).L 3 icell) A) (hok : (⟨o, l⟩ : OwL Int).ok 1 icell) :
    Tri Try.prog 100 [a.val, s.val, vl, .int .i64 (k : Int)].toArray A R (fun w L' R' => w = nextV (nextAt a s false l k) ∧ A = L' ∧ R = R') := by
  subst hvl
  refine Tri.lend1 hin hok ((down_tri a s (⟨o, l⟩ : OwL Int).arr k [] _ ⟨airR_mono h.air fun r hr => inR_self (.tail _ hr), setR_mono h.set fun r hr => inR_self (.tail _ hr), h.ok, h.fit, h.len, h.pres, h.v⟩ (inR_self (.head _))).mono ?_)
  rintro v L' R' ⟨z, ok, rfl, hF, rfl, rfl⟩
  obtain ⟨rfl, rfl⟩ := first_next (room_ge h.pres false (Int.toNat k)) hF
  exact ⟨rfl, rfl, rfl⟩


theorem ref12relax_tri (a : XAir) (s : XSetting) (ps : Arr Int) (up : Bool) (A : List Bool) (L : List Blk) (R : List Sl) (hm : AirR a R) (hs : SetR s R) (hps : InR (isl ps) R) (hA : airErr a = 0 → AiryIs a.mine A) :
    Tri Try.prog 69 [a.val, s.val, ps.val, .bool up].toArray L R (fun w L' R' => ∃ p : OwL Int, w = .tuple #[p.val, .int .i64 (relaxS a s A up ps.l).1] ∧ p.ok 1 icell ∧ p.l = (relaxS a s A up ps.l).2 ∧ p.L 3 icell ++ L = L' ∧ R = R') := by
  have hmp := hm.places
  refine tri_enter 79 Try.call69 Try.func69 rfl rfl rfl ?_
  refine qae ?_
  refine qax ?_
  intro b4
  refine qax ?_
  intro b5
  refine qc4 ?_
  refine qad ?_
  refine qaw ?_
  refine qa8 ?_
  refine qbe ?_
  refine qbm ?_
  refine q_l rfl (ref12check_tri a s ps A _ _ hm hs hps hA) ?_
  refine qad ?_
  refine qam ?_
  refine qaa ?_
  refine qbq ?_
  refine qaf ?_
  refine q_c (fun hc0 => ?_) (fun hc0 => ?_)
  ·
   refine qae ?_
   refine qaa ?_
   refine qc4 ?_
   refine qad ?_
   refine qbh ?_
   refine q_r (L' := L) (R' := R) (res2 rfl (rv_tmp (show _ = Value.slice _ _ _ from rfl)) (rv_tmp (show _ = Value.int _ _ from rfl))) ?_
   exact ⟨OwL.nil, by rw [relaxS, if_pos hc0]; rfl, OwL.nil_ok, by rw [relaxS, if_pos hc0], by rw [nil_L, List.nil_append], rfl⟩
  ·
   have hso := startErr_iff.1 (show startErr a s ps.l A = 0 by omega)
   have hok := airOk_of hso.h0
   have hfo := fitOk_of hso.hf
   have hAA := hA hso.h0
   have hln := hso.hl
   have hnp := hok.mine.places
   have hrx : relaxS a s A up ps.l = match roundsS a s A up 200 ps.l with
     | none => (2, [])
     | some l => (0, l) := by rw [relaxS, if_neg hc0]; rfl
   refine qbv ?_
   refine qbm ?_
   refine LJ_g (gives_copy (f := icell) (xs := ps) tb rfl rfl rfl (by decide) rfl rfl (hps) (fun _ => rfl) (by omega)) rfl ?_
   rintro v L' R' ⟨o26, rfl, hok26, rfl, rfl⟩
   refine qc4 ?_
   refine qam ?_
   refine qab ?_
   refine qbe ?_
   refine LJ_call rfl (fixed_tri a.mine _ _ hm.mineR hok.mine) rfl ?_
   rintro v L' R' ⟨p, A2, rfl, hpk, hA2, hpl, rfl, rfl⟩
   obtain rfl : A = A2 := hAA.unique hA2
   have hfx : p.l.length = a.mine.places.l.length := by rw [hpl]; exact fixS_length a.mine A
   refine qc4 ?_
   refine qco ?_
   refine CJ_turn fun c w hst => ⟨_, _, hst.perm List.perm_append_comm, ?_⟩
   refine qay ?_
   refine qad ?_
   refine qa2 ?_
   refine CJ_forget [(3, Value.bool _), (4, Value.pointer _), (5, Value.pointer _), (11, Value.slice _ _ _), (12, Value.slice _ _ _), (13, Value.int _ _)] (by repeat' (first | exact trivial | refine And.intro rfl ?_)) fun tq0 => ?_
   refine q_p [8, 9, 13, 14, 15, 16, 17, 30, 31, 32, 33, 34, 35, 36, 37, 38, 39, 40, 41, 42, 43, 44, 45, 46, 47, 48, 49, 50, 51, 52, 53, 54, 55, 56, 57, 58, 59, 60, 61, 62, 63, 64, 65, 66, 67, 68, 69, 70, 71, 72, 73, 74, 75, 76, 77, 78] ((⟨fun q => [(13, .int .i64 ((q.1.1 : Nat) : Int))], fun q => p.L 4 blc ++ ((⟨o26, q.1.2⟩ : OwL Int).L 3 icell ++ (⟨b5, s.cells, 35⟩ :: ⟨b4, a.cells, 32⟩ :: L)), fun _ => R, fun q => 200 - q.1.1⟩ : Head {q : Nat × List Int // q.1 ≤ 200 ∧ roundsS a s A up 200 ps.l = roundsS a s A up (200 - q.1) q.2 ∧ q.2.length = ps.l.length ∧ PresOk q.2 ∧ (⟨o26, q.2⟩ : OwL Int).ok 1 icell})) (⟨(0, ps.l), by dsimp only; omega, rfl, rfl, hso.hp, hok26⟩) ?_
   rintro ⟨⟨n, l⟩, w1, w2, w3, w4, w5⟩ junk
   try dsimp only
   dsimp only at w1 w2 w3 w4 w5
   refine qbi ?_
   refine qaa ?_
   refine qaj ?_
   refine qaf ?_
   refine q_c (fun hc1 => ?_) (fun hc1 => ?_)
   ·
    have e200 : 200 - n = (200 - (n + 1)) + 1 := by omega
    rw [e200] at w2
    refine qbb ?_
    refine qaz ?_
    refine qaw ?_
    refine qad ?_
    refine qa2 ?_
    refine CJ_forgetW [8, 9, 13, 14, 15, 16, 17, 30, 31, 32, 33, 34, 35, 36, 37, 38, 39, 40, 41, 42, 43, 44, 45, 46, 47, 48, 49, 50, 51, 52, 53, 54, 55, 56, 57, 58, 59, 60, 61, 62, 63, 64, 65, 66, 67, 68, 69, 70, 71, 72, 73, 74, 75, 76, 77, 78] (by repeat (first | apply Off.upd rfl | apply Off.havoc rfl | refine Off.updL (t' := havoc _ _ _) rfl ?_ | exact Off.refl)) [(13, Value.int _ _), (14, Value.bool _), (15, Value.int _ _)] (by repeat' (first | exact trivial | refine And.intro rfl ?_)) fun tq1 => ?_
    refine CJ_loop [8, 9, 14, 15, 16, 17, 34, 35, 36, 37, 38, 39, 40, 41, 42, 43, 44, 45, 46, 47, 48, 49, 50, 51, 52, 53, 54, 55, 56, 57, 58, 59, 60, 61, 62, 63, 64, 65, 66, 67, 68, 69, 70, 71, 72, 73, 74, 75] ((⟨fun q => [(15, .int .i64 ((q.1.1 : Nat) : Int)), (14, .bool (decide (q.1.2 ≠ l)))], fun q => p.L 4 blc ++ ((⟨o26, q.1.2⟩ : OwL Int).L 3 icell ++ (⟨b5, s.cells, 35⟩ :: ⟨b4, a.cells, 32⟩ :: L)), fun _ => R, fun q => ps.l.length - q.1.1⟩ : Head {q : Nat × List Int // q.1 ≤ ps.l.length ∧ Swept a s A up l q.1 q.2 ∧ (⟨o26, q.2⟩ : OwL Int).ok 1 icell})) (⟨(0, l), by dsimp only; omega, .zero w4, w5⟩) ⟨rfl, by simp; rfl, trivial⟩ (by repeat (first | exact zs0 _ | exact zs1 _ | apply zs2 | apply zs3 | apply zs4 | apply zs5)) (allR_self _) ?_
    rintro ⟨⟨i, m⟩, q1, q2, q3⟩ junk
    try dsimp only
    dsimp only at q1 q2 q3
    have hml := q2.len
    refine qbi ?_
    refine qaa ?_
    refine qbm ?_
    refine qag ?_
    refine qaj ?_
    refine qaf ?_
    refine q_c (fun hc2 => ?_) (fun hc2 => ?_)
    ·
     obtain ⟨fb, hfb⟩ : ∃ fb, fb = fixB a A i := ⟨_, rfl⟩
     have hpg : p.l[i]? = some fb := by rw [hpl, hfb]; exact fixS_get (by omega)
     have hmg := get_D (l := m) (k := i) 0 (by omega)
     refine CJ_skip (seqK_normal (CJ_seq (CJ_block (CJ_seq (CJ_seq (CJ_region ?_))))))
     refine qbm ?_
     refine qaa ?_
     refine LJ_q (yv_index_ow tb (p) _ rfl rfl rfl rfl (by assumption) (i := i) (by first | rfl | omega | (simp; omega)) (by first | omega | (dsimp only; omega) | (dsimp only; rw [List.length_set]; omega))) rfl ?_
     refine LJ_q (yv_load1_ow tb (p) rfl rfl rfl (by repeat (first | apply OSeg.cons | exact OSeg.here | exact OSeg.last | exact OSeg.at (by assumption) | apply OSeg.app)) (by assumption) (fun _ => rfl) (by assumption) (by rfl)) rfl ?_
     refine qaf ?_
     refine q_c (fun hc3 => ?_) (fun hc3 => ?_)
     ·
      have hfi : fixB a A i = true := hfb ▸ hc3
      refine CJ_exit (seqK_exit (blockK_exit (seqK_normal (CJ_region ?_))))
      refine qaa ?_
      refine qar ?_
      refine qad ?_
      refine qav ?_
      exact q_k ⟨(i + 1, m), by dsimp only; omega, q2.skip hfi, q3⟩
     ·
      have hfi : ¬ fixB a A i = true := by rw [← hfb, hc3]; decide
      have hH : HypsR a s m i R := ⟨hm, hs, hok, hfo, by omega, q2.pres, by omega⟩
      refine qbv ?_
      refine qad ?_
      refine qaz ?_
      refine qaw ?_
      refine qah ?_
      refine qaf ?_
      refine q_c (fun hc4 => ?_) (fun hc4 => ?_)
      ·
       have hup : up = true := hc4
       refine qay ?_
       refine qa8 ?_
       refine qbe ?_
       refine qbm ?_
       refine qaa ?_
       refine q_l rfl (upL (o := o26) (l := m) ((show _ = Value.slice _ _ _ from rfl).trans (by simp only [OwL.val, hml, w3])) hH (by repeat (first | exact inB_here | apply inB_cons | apply inB_app)) q3) ?_
       refine LJ_q (yv_move rfl) rfl ?_
       refine qbs ?_
       refine qbs ?_
       refine qad ?_
       refine qaz ?_
       refine qaw ?_
       refine qah ?_
       refine qb4 ?_
       refine qaf ?_
       refine q_c (fun hc5 => ?_) (fun hc5 => ?_)
       ·
        have hv : nextAt a s up m i = none := by rw [hup]; simpa using hc5
        have hrn : relaxS a s A up ps.l = (2, []) := by rw [hrx, w2, rounds_fail (q2.fail hfi hv _ (by omega))]
        refine qae ?_
        refine qc4 ?_
        refine qad ?_
        refine LJ_nil (seqK_normal (CJ_ret (seqK_ret (blockK_ret (seqK_ret (loopK_ret (blockK_ret (seqK_ret (blockK_ret (seqK_ret (loopK_ret (blockK_ret (seqK_ret ?_)))))))))))))
        refine q_r (L' := L) (R' := R) (res2 rfl (rv_tmp (show _ = Value.slice _ _ _ from rfl)) (rv_tmp (show _ = Value.int _ _ from rfl))) ?_
        exact ⟨OwL.nil, by rw [hrn]; rfl, OwL.nil_ok, by rw [hrn], by rw [nil_L, List.nil_append], rfl⟩
       ·
        obtain ⟨u, hv'⟩ := Option.isSome_iff_exists.1 hc5
        have hv : nextAt a s up m i = some u := by rw [hup]; exact hv'
        have hfl := q2.flag (k := i) (by omega) u
        refine qcl ?_
        rw [hv']
        refine qay ?_
        refine qah ?_
        refine qah ?_
        apply LJ_or (G := [_, _, _, _, _, _]) (j := 1) (cj := 64) rfl rfl (by rfl) rfl (show _ = Value.bool _ from rfl) rfl
        ·
         intro hg2
         replace hg2 := qb hg2
         refine qaa ?_
         refine qbm ?_
         refine qaa ?_
         refine LJ_q (yv_index_ow tb ((⟨o26, m⟩ : OwL Int)) _ rfl rfl ((show _ = Value.slice _ _ _ from rfl).trans (by simp only [OwL.val, hml, w3])) rfl (by assumption) (i := i) (by first | rfl | omega | (simp; omega)) (by first | omega | (dsimp only; omega) | (dsimp only; rw [List.length_set]; omega))) rfl ?_
         refine LJ_q (yv_load1_ow tb ((⟨o26, m⟩ : OwL Int)) rfl rfl rfl (by repeat (first | apply OSeg.cons | exact OSeg.here | exact OSeg.last | exact OSeg.at (by assumption) | apply OSeg.app)) (by assumption) (fun _ => rfl) (by assumption) (by rfl)) rfl ?_
         refine qbq ?_
         exact qai
        intro junk2
        refine qaz ?_
        refine LJ_nil (seqK_normal (CJ_region ?_))
        refine qbm ?_
        refine qaa ?_
        refine qaa ?_
        refine LJ_q (yv_index_ow tb ((⟨o26, m⟩ : OwL Int)) _ rfl rfl ((show _ = Value.slice _ _ _ from rfl).trans (by simp only [OwL.val, hml, w3])) rfl (by assumption) (i := i) (by first | rfl | omega | (simp; omega)) (by first | omega | (dsimp only; omega) | (dsimp only; rw [List.length_set]; omega))) rfl ?_
        refine LJ_g0 (gives_store1_ow tb ((⟨o26, m⟩ : OwL Int)) (u) rfl rfl rfl rfl (by repeat (first | apply OSeg.cons | exact OSeg.here | exact OSeg.last | exact OSeg.at (by assumption) | apply OSeg.app)) (by assumption) (fun _ => rfl) (by assumption) (by decide) (by rfl) (by rfl)) ?_
        rintro v L' R' ⟨rfl, rfl⟩
        refine qcs ?_
        refine qaa ?_
        refine qar ?_
        refine qad ?_
        refine qav ?_
        exact loopK_mk ⟨(i + 1, m.set i u), by dsimp only; omega, q2.next hfi hv, OwL.len_ok icell_len q3 (by simp)⟩ (by repeat (first | exact Off.refl | apply Off.upd rfl | apply Off.havoc rfl | apply Off.updL rfl | apply Off.left rfl)) ⟨rfl, by dsimp only; rw [hfl]; rfl, trivial⟩ (by repeat (first | exact zs0 _ | exact zs1 _ | apply zs2 | apply zs3 | apply zs4 | apply zs5)) (allR_self _) (by dsimp only; omega)
      ·
       have hup : up = false := by simpa using hc4
       refine qay ?_
       refine qa8 ?_
       refine qbe ?_
       refine qbm ?_
       refine qaa ?_
       refine q_l rfl (downL (o := o26) (l := m) ((show _ = Value.slice _ _ _ from rfl).trans (by simp only [OwL.val, hml, w3])) hH (by repeat (first | exact inB_here | apply inB_cons | apply inB_app)) q3) ?_
       refine LJ_q (yv_move rfl) rfl ?_
       refine qbs ?_
       refine qbs ?_
       refine qad ?_
       refine qaz ?_
       refine qaw ?_
       refine qah ?_
       refine qb4 ?_
       refine qaf ?_
       refine q_c (fun hc5 => ?_) (fun hc5 => ?_)
       ·
        have hv : nextAt a s up m i = none := by rw [hup]; simpa using hc5
        have hrn : relaxS a s A up ps.l = (2, []) := by rw [hrx, w2, rounds_fail (q2.fail hfi hv _ (by omega))]
        refine qae ?_
        refine qc4 ?_
        refine qad ?_
        refine LJ_nil (seqK_normal (CJ_ret (seqK_ret (blockK_ret (seqK_ret (loopK_ret (blockK_ret (seqK_ret (blockK_ret (seqK_ret (loopK_ret (blockK_ret (seqK_ret ?_)))))))))))))
        refine q_r (L' := L) (R' := R) (res2 rfl (rv_tmp (show _ = Value.slice _ _ _ from rfl)) (rv_tmp (show _ = Value.int _ _ from rfl))) ?_
        exact ⟨OwL.nil, by rw [hrn]; rfl, OwL.nil_ok, by rw [hrn], by rw [nil_L, List.nil_append], rfl⟩
       ·
        obtain ⟨u, hv'⟩ := Option.isSome_iff_exists.1 hc5
        have hv : nextAt a s up m i = some u := by rw [hup]; exact hv'
        have hfl := q2.flag (k := i) (by omega) u
        refine qcl ?_
        rw [hv']
        refine qay ?_
        refine qah ?_
        refine qah ?_
        apply LJ_or (G := [_, _, _, _, _, _]) (j := 1) (cj := 64) rfl rfl (by rfl) rfl (show _ = Value.bool _ from rfl) rfl
        ·
         intro hg2
         replace hg2 := qb hg2
         refine qaa ?_
         refine qbm ?_
         refine qaa ?_
         refine LJ_q (yv_index_ow tb ((⟨o26, m⟩ : OwL Int)) _ rfl rfl ((show _ = Value.slice _ _ _ from rfl).trans (by simp only [OwL.val, hml, w3])) rfl (by assumption) (i := i) (by first | rfl | omega | (simp; omega)) (by first | omega | (dsimp only; omega) | (dsimp only; rw [List.length_set]; omega))) rfl ?_
         refine LJ_q (yv_load1_ow tb ((⟨o26, m⟩ : OwL Int)) rfl rfl rfl (by repeat (first | apply OSeg.cons | exact OSeg.here | exact OSeg.last | exact OSeg.at (by assumption) | apply OSeg.app)) (by assumption) (fun _ => rfl) (by assumption) (by rfl)) rfl ?_
         refine qbq ?_
         exact qai
        intro junk2
        refine qaz ?_
        refine LJ_nil (seqK_normal (CJ_region ?_))
        refine qbm ?_
        refine qaa ?_
        refine qaa ?_
        refine LJ_q (yv_index_ow tb ((⟨o26, m⟩ : OwL Int)) _ rfl rfl ((show _ = Value.slice _ _ _ from rfl).trans (by simp only [OwL.val, hml, w3])) rfl (by assumption) (i := i) (by first | rfl | omega | (simp; omega)) (by first | omega | (dsimp only; omega) | (dsimp only; rw [List.length_set]; omega))) rfl ?_
        refine LJ_g0 (gives_store1_ow tb ((⟨o26, m⟩ : OwL Int)) (u) rfl rfl rfl rfl (by repeat (first | apply OSeg.cons | exact OSeg.here | exact OSeg.last | exact OSeg.at (by assumption) | apply OSeg.app)) (by assumption) (fun _ => rfl) (by assumption) (by decide) (by rfl) (by rfl)) ?_
        rintro v L' R' ⟨rfl, rfl⟩
        refine qcs ?_
        refine qaa ?_
        refine qar ?_
        refine qad ?_
        refine qav ?_
        exact loopK_mk ⟨(i + 1, m.set i u), by dsimp only; omega, q2.next hfi hv, OwL.len_ok icell_len q3 (by simp)⟩ (by repeat (first | exact Off.refl | apply Off.upd rfl | apply Off.havoc rfl | apply Off.updL rfl | apply Off.left rfl)) ⟨rfl, by dsimp only; rw [hfl]; rfl, trivial⟩ (by repeat (first | exact zs0 _ | exact zs1 _ | apply zs2 | apply zs3 | apply zs4 | apply zs5)) (allR_self _) (by dsimp only; omega)
    ·
     obtain rfl : i = ps.l.length := by omega
     have hsw := q2.to
     rw [hln] at hsw
     refine qbk ?_
     refine qah ?_
     refine qb4 ?_
     refine qaf ?_
     refine q_c (fun hc6 => ?_) (fun hc6 => ?_)
     ·
      have hme : m = l := by simpa using hc6
      have hrn : relaxS a s A up ps.l = (0, m) := by rw [hrx, w2, hme, rounds_done (by rw [← hme] at hsw ⊢; exact hsw)]
      refine qae ?_
      refine qbm ?_
      refine qc4 ?_
      refine qad ?_
      refine qbt ?_
      refine q_r (L' := (⟨o26, m⟩ : OwL Int).L 3 icell ++ L) (R' := R) (res2 rfl (rv_tmp (show _ = Value.slice _ _ _ from rfl)) (rv_tmp (show _ = Value.int _ _ from rfl))) ?_
      exact ⟨⟨o26, m⟩, by rw [hrn]; simp only [OwL.val, hml, w3], q3, by rw [hrn], rfl, rfl⟩
     ·
      have hme : m ≠ l := by simpa using hc6
      refine qbj ?_
      refine qaa ?_
      refine qar ?_
      refine qad ?_
      refine qav ?_
      exact q_k ⟨(n + 1, m), by dsimp only; omega, w2.trans (rounds_next hsw hme), hml.trans w3, q2.pres, q3⟩
   ·
    obtain rfl : n = 200 := by omega
    have hrn : relaxS a s A up ps.l = (2, []) := by rw [hrx, w2]; rfl
    refine qbk ?_
    refine qc4 ?_
    refine qad ?_
    refine qa0 ?_
    refine q_r (L' := L) (R' := R) (res2 rfl (rv_tmp (show _ = Value.slice _ _ _ from rfl)) (rv_tmp (show _ = Value.int _ _ from rfl))) ?_
    exact ⟨OwL.nil, by rw [hrn]; rfl, OwL.nil_ok, by rw [hrn], by rw [nil_L, List.nil_append], rfl⟩

theorem ref12rise_tri (a : XAir) (s : XSetting) (ps : Arr Int) (A : List Bool) (L : List Blk) (R : List Sl) (hm : AirR a R) (hs : SetR s R) (hps : InR (isl ps) R) (hA : airErr a = 0 → AiryIs a.mine A) :
    Tri Try.prog 25 [a.val, s.val, ps.val].toArray L R (fun w L' R' => ∃ p : OwL Int, w = .tuple #[p.val, .int .i64 (relaxS a s A true ps.l).1] ∧ p.ok 1 icell ∧ p.l = (relaxS a s A true ps.l).2 ∧ p.L 3 icell ++ L = L' ∧ R = R') := by
  refine tri_enter 14 Try.call25 Try.func25 rfl rfl rfl ?_
  refine qae ?_
  refine qax ?_
  intro b3
  refine qax ?_
  intro b4
  refine qc4 ?_
  refine qad ?_
  refine qam ?_
  refine qa8 ?_
  refine qbe ?_
  refine qbm ?_
  refine LJ_call rfl (ref12relax_tri a s ps true A _ _ hm hs hps hA) rfl ?_
  rintro v L' R' ⟨p, rfl, hpk, hpl, rfl, rfl⟩
  refine qbs ?_
  refine qbs ?_
  refine qc4 ?_
  refine qad ?_
  refine qa0 ?_
  refine q_r (L' := p.L 3 icell ++ L) (R' := R) (res2 rfl (rv_tmp (show _ = Value.slice _ _ _ from rfl)) (rv_tmp (show _ = Value.int _ _ from rfl))) ?_
  exact ⟨p, rfl, hpk, hpl, rfl, rfl⟩

theorem ref12fall_tri (a : XAir) (s : XSetting) (ps : Arr Int) (A : List Bool) (L : List Blk) (R : List Sl) (hm : AirR a R) (hs : SetR s R) (hps : InR (isl ps) R) (hA : airErr a = 0 → AiryIs a.mine A) :
    Tri Try.prog 27 [a.val, s.val, ps.val].toArray L R (fun w L' R' => ∃ p : OwL Int, w = .tuple #[p.val, .int .i64 (relaxS a s A false ps.l).1] ∧ p.ok 1 icell ∧ p.l = (relaxS a s A false ps.l).2 ∧ p.L 3 icell ++ L = L' ∧ R = R') := by
  refine tri_enter 14 Try.call27 Try.func27 rfl rfl rfl ?_
  refine qae ?_
  refine qax ?_
  intro b3
  refine qax ?_
  intro b4
  refine qc4 ?_
  refine qad ?_
  refine qam ?_
  refine qa8 ?_
  refine qbe ?_
  refine qbm ?_
  refine LJ_call rfl (ref12relax_tri a s ps false A _ _ hm hs hps hA) rfl ?_
  rintro v L' R' ⟨p, rfl, hpk, hpl, rfl, rfl⟩
  refine qbs ?_
  refine qbs ?_
  refine qc4 ?_
  refine qad ?_
  refine qa0 ?_
  refine q_r (L' := p.L 3 icell ++ L) (R' := R) (res2 rfl (rv_tmp (show _ = Value.slice _ _ _ from rfl)) (rv_tmp (show _ = Value.int _ _ from rfl))) ?_
  exact ⟨p, rfl, hpk, hpl, rfl, rfl⟩

end Go.Proofs.Ytjjfpglgonpciaa
