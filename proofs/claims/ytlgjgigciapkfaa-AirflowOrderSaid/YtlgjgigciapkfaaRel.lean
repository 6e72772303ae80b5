/-
  The program's raising and lowering. By an AI agent; no person has read it.
-/
import Derived.Test.YtlgjgigciapkfaaSolveR
set_option linter.unusedSimpArgs false
set_option linter.unusedVariables false
namespace Go.Proofs.Ytlgjgigciapkfaa
open Go.Aw Go
set_option maxRecDepth 20000
attribute [local irreducible] CJ LJ DJ Tri YV Gives seqK blockK loopK retK RV mergeK OwL.L

theorem relCheck_tri (a : XAir) (s : XSetting) (ps : Arr Int) (A : List Bool) (L : List Blk) (R : List Sl) (hm : AirR a R) (hs : SetR s R) (hps : InR (isl ps) R) (hA : airErr a = 0 → AiryIs a.mine A) :
    Tri Try.prog 185 [a.val, s.val, ps.val].toArray L R (fun v L' R' => ∃ S : List Sl, v = .int .i64 (startErr a s ps.l A) ∧ L = L' ∧ S ++ R = R') := by
  have hmp := hm.places
  refine Tri_len Try.call185 hps fun hpn => ?_
  refine Tri_len Try.call185 hmp fun hmpn => ?_
  refine tri_enter 70 Try.call185 Try.func185 rfl rfl rfl ?_
  refine qae ?_
  refine qax ?_
  intro b3
  refine qax ?_
  intro b4
  refine qad ?_
  refine qaw ?_
  refine qa8 ?_
  refine q_l rfl (branchCheck_tri a _ _ hm) ?_
  refine qad ?_
  refine qam ?_
  refine qaa ?_
  refine qbq ?_
  refine qaf ?_
  refine q_c (fun hc0 => ?_) (fun hc0 => ?_)
  ·
   refine qae ?_
   refine qaa ?_
   refine qad ?_
   refine qbh ?_
   refine q_i (L' := L) (R' := R) ?_
   exact ⟨[], by rw [startErr, if_pos hc0], rfl, rfl⟩
  ·
   have h0 : airErr a = 0 := by omega
   have hok := airOk_of h0
   have hAA := hA h0
   have hmn := hok.mine.places
   refine qbo ?_
   refine qa8 ?_
   refine qbe ?_
   refine q_l rfl (fitting_tri a s _ _ hm hs) ?_
   refine qb4 ?_
   refine qaf ?_
   refine q_c (fun hc1 => ?_) (fun hc1 => ?_)
   ·
    refine qae ?_
    refine qad ?_
    refine qbh ?_
    refine q_i (L' := L) (R' := R) ?_
    exact ⟨[], by rw [startErr, if_neg hc0, if_pos (by simpa using hc1)], rfl, rfl⟩
   ·
    have hf0 : fitB a s = true := by simpa using hc1
    have hff : ¬ fitB a s = false := by rw [hf0]; decide
    refine qbo ?_
    refine qbm ?_
    refine qag ?_
    refine qab ?_
    refine qab ?_
    refine qac ?_
    refine qag ?_
    refine qbq ?_
    refine qaf ?_
    refine q_c (fun hc2 => ?_) (fun hc2 => ?_)
    ·
     refine qae ?_
     refine qad ?_
     refine qbh ?_
     refine q_i (L' := L) (R' := R) ?_
     exact ⟨[], by rw [startErr, if_neg hc0, if_neg hff, if_pos (by omega)], rfl, rfl⟩
    ·
     have hln : ps.l.length = a.mine.places.l.length := by omega
     refine qbo ?_
     refine qbm ?_
     refine qag ?_
     refine qaa ?_
     refine qa2 ?_
     refine CJ_forget [(2, Value.slice _ _ _), (3, Value.pointer _), (29, Value.slice _ _ _), (30, Value.int _ _), (31, Value.int _ _)] (by repeat' (first | exact trivial | refine And.intro rfl ?_)) fun tq0 => ?_
     refine q_s [6, 9, 31, 32, 33, 34, 35, 36, 37, 38, 39, 40, 41] (fun g : FS (presBad) (ps.l) => [(31, .int .i64 ((g.1 : Nat) : Int))]) (fun g => (ps.l).length - g.1) ⟨0, FS_zero _ _⟩ ?_
     rintro ⟨k0, hk0, hp0⟩ junk
     try dsimp only
     refine qae ?_
     refine qaj ?_
     refine qa4 ?_
     refine q_c (fun hc3 => ?_) (fun hc3 => ?_)
     ·
      obtain ⟨y, hy⟩ := get_some (l := ps.l) (k := k0) (by omega)
      refine qbb ?_
      refine qa3 ?_
      refine qa7 ?_
      refine qad ?_
      refine qam ?_
      refine qaa ?_
      refine qaj ?_
      refine qah ?_
      apply LJ_or (G := [_, _]) (j := 2) (cj := 37) rfl rfl (by rfl) rfl (show _ = Value.bool _ from rfl) rfl
      ·
       intro hg3
       replace hg3 := qb hg3
       refine qaa ?_
       refine qa5 ?_
       exact qai
      intro junk3
      refine qaf ?_
      refine q_c (fun hc4 => ?_) (fun hc4 => ?_)
      ·
       refine qae ?_
       refine qad ?_
       refine qbt ?_
       refine q_i (L' := L) (R' := R) ?_
       have hpb := FS_some hp0 hy (show presBad y = some 1 from if_pos (by omega))
       exact ⟨[], by rw [startErr, if_neg hc0, if_neg hff, if_neg (by omega), if_pos (by rw [hpb]; rfl)], rfl, rfl⟩
      ·
       refine qbj ?_
       refine qar ?_
       refine qaa ?_
       refine qav ?_
       exact q_k ⟨k0 + 1, FS_next hp0 hy (if_neg (by omega))⟩
     ·
      have hn0 := FS_none hp0 (by omega)
      refine qbk ?_
      refine qab ?_
      refine qbe ?_
      refine LJ_call rfl (lost_tri a.mine _ _ hm.mineR hok.mine (airErr_mine h0)) rfl ?_
      rintro v L' R' ⟨p, A2, S, rfl, hpk, hA2, hpl, rfl, rfl⟩
      obtain rfl : A = A2 := hAA.unique hA2
      have hfx : p.l.length = a.mine.places.l.length := by rw [hpl, List.length_map]; exact hAA.length
      have hps2 : InR (isl ps) (S ++ R) := hps.mono fun r h => inR_self (by simp [h])
      have hmp2 : InR (psl a.mine.places) (S ++ R) := hmp.mono fun r h => inR_self (by simp [h])
      have hck : startErr a s ps.l A = ((List.range a.mine.places.l.length).findSome? (startBad a ps.l A)).getD 0 := by rw [startErr, if_neg hc0, if_neg hff, if_neg (by omega), if_neg (by rw [hn0]; simp)]
      refine qc4 ?_
      refine qaw ?_
      refine qab ?_
      refine qab ?_
      refine qac ?_
      refine qag ?_
      refine qaa ?_
      refine qa2 ?_
      refine CJ_forget [(2, Value.slice _ _ _), (10, Value.slice _ _ _), (47, Value.slice _ _ _), (48, Value.int _ _), (49, Value.int _ _)] (by repeat' (first | exact trivial | refine And.intro rfl ?_)) fun tq1 => ?_
      refine q_s [6, 11, 12, 49, 50, 51, 52, 53, 54, 55, 56, 57, 58, 59, 60, 61, 62, 63, 64, 65, 66, 67, 68, 69] (fun g : FSR (startBad a ps.l A) (a.mine.places.l.length) => [(49, .int .i64 ((g.1 : Nat) : Int))]) (fun g => (a.mine.places.l.length) - g.1) ⟨0, FSR_zero _ _⟩ ?_
      rintro ⟨k1, hk1, hp1⟩ junk
      try dsimp only
      refine qae ?_
      refine qaj ?_
      refine qa4 ?_
      refine q_c (fun hc5 => ?_) (fun hc5 => ?_)
      ·
       have hmg := get_D (l := a.mine.places.l) (k := k1) default (by omega)
       have hpg : p.l[k1]? = some (!(A.getD k1 false)) := by
         have := hAA.length
         rw [hpl, List.getElem?_map, get_D (l := A) (k := k1) false (by omega)]; rfl
       have hsg := get_D (l := ps.l) (k := k1) 0 (by omega)
       refine qbb ?_
       refine qaa ?_
       refine LJ_q (by first | exact yv_index_ro tb rfl rfl rfl rfl (by first | assumption | exact zr (by simp)) (i := k1) (by first | rfl | omega | (simp; omega)) (by omega) | exact yv_index tb rfl rfl rfl rfl (i := k1) (by first | rfl | omega | (simp; omega)) (by omega)) rfl ?_
       refine qdl ?_
       refine qaq ?_
       intro b12
       refine qad ?_
       refine qak ?_
       refine qam ?_
       refine qab ?_
       refine qac ?_
       refine qah ?_
       apply LJ_or (G := [_, _, _, _]) (j := 2) (cj := 56) rfl rfl (by rfl) rfl (show _ = Value.bool _ from rfl) rfl
       ·
        intro hg3
        replace hg3 := qb hg3
        refine qbm ?_
        refine qaa ?_
        refine LJ_q (yv_index_ow tb (p) _ rfl rfl rfl rfl (by assumption) (i := k1) (by first | rfl | omega | (simp; omega)) (by first | omega | (dsimp only; omega) | (dsimp only; rw [List.length_set]; omega))) rfl ?_
        refine LJ_q (yv_load1_ow tb (p) rfl rfl rfl (by repeat (first | apply OSeg.cons | exact OSeg.here | exact OSeg.last | exact OSeg.at (by assumption) | apply OSeg.app)) (by assumption) (fun _ => rfl) (by assumption) (by rfl)) rfl ?_
        exact qai
       intro junk3
       refine qah ?_
       apply LJ_and (G := [_, _, _, _, _]) (j := 8) (cj := 62) rfl rfl (by rfl) rfl (show _ = Value.bool _ from rfl) rfl
       ·
        intro hg9
        replace hg9 := qb hg9
        refine qbm ?_
        refine qaa ?_
        refine LJ_q (by first | exact yv_index_ro tb rfl rfl rfl rfl (by first | assumption | exact zr (by simp)) (i := k1) (by first | rfl | omega | (simp; omega)) (by omega) | exact yv_index tb rfl rfl rfl rfl (i := k1) (by first | rfl | omega | (simp; omega)) (by omega)) rfl ?_
        refine qa7 ?_
        refine qbq ?_
        exact qai
       intro junk9
       refine qaf ?_
       refine q_c (fun hc6 => ?_) (fun hc6 => ?_)
       ·
        have hnb : startBad a ps.l A k1 = some 12 := if_pos ⟨by obtain ⟨h1 | h1, _⟩ := hc6; rw [fixB, h1, Bool.or_true]; rw [fixB, h1]; rfl, hc6.2⟩
        refine qae ?_
        refine qad ?_
        refine qbt ?_
        refine q_i (L' := L) (R' := S ++ R) ?_
        exact ⟨S, by rw [hck, FSR_some hp1 (by omega) hnb]; rfl, rfl, rfl⟩
       ·
        have hnb : startBad a ps.l A k1 = none := if_neg (fun ⟨h1, h2⟩ => by
        rcases hc6 with ⟨h3, h4⟩ | h3
        · rw [fixB, h3, h4] at h1; cases h1
        · exact h3 h2)
        refine qbj ?_
        refine qar ?_
        refine qaa ?_
        refine qav ?_
        exact q_k ⟨k1 + 1, FSR_next hp1 (by omega) (hnb)⟩
      ·
       have hn1 := FSR_none hp1 (by omega)
       refine qbk ?_
       refine qad ?_
       refine qa0 ?_
       refine q_i (L' := L) (R' := S ++ R) ?_
       exact ⟨S, by rw [hck, hn1]; rfl, rfl, rfl⟩

theorem leastL {n : XNet} {a : XAir} {s : XSetting} {o : Ow} {l : List Int} {k : Nat} {A : List Blk} {R : List Sl} {vl : Value} (hvl : vl = (⟨o, l⟩ : OwL Int).val) (h : HypsN n a s l k R) (hin : InB ((⟨o, l⟩ : OwL Int).L 3 icell) A) (hok : (⟨o, l⟩ : OwL Int).ok 1 icell) :
    Tri Try.prog 173 [n.val, vl, .int .i64 (k : Int)].toArray A R (fun w L' R' => w = nextV (nextAt a s true l k) ∧ A = L' ∧ R = R') := by
  subst hvl
  refine Tri.lend1 hin hok ((netLeast_tri n a s (⟨o, l⟩ : OwL Int).arr k [] _ ⟨h.pp.mono fun r hr => inR_self (.tail _ hr), h.aa.mono fun r hr => inR_self (.tail _ hr), h.is, h.ok, h.len, h.pres, h.v⟩ (inR_self (.head _))).mono ?_)
  rintro v L' R' ⟨z, ok, rfl, hF, rfl, rfl⟩
  obtain ⟨rfl, rfl⟩ := first_next (room_ge h.pres true (Int.toNat k)) hF
  exact ⟨rfl, rfl, rfl⟩

theorem greatestL {n : XNet} {a : XAir} {s : XSetting} {o : Ow} {l : List Int} {k : Nat} {A : List Blk} {R : List Sl} {vl : Value} (hvl : vl = (⟨o, l⟩ : OwL Int).val) (h : HypsN n a s l k R) (hin : InB ((⟨o, l⟩ : OwL Int).L 3 icell) A) (hok : (⟨o, l⟩ : OwL Int).ok 1 icell) :
    Tri Try.prog 172 [n.val, vl, .int .i64 (k : Int)].toArray A R (fun w L' R' => w = nextV (nextAt a s false l k) ∧ A = L' ∧ R = R') := by
  subst hvl
  refine Tri.lend1 hin hok ((netGreatest_tri n a s (⟨o, l⟩ : OwL Int).arr k [] _ ⟨h.pp.mono fun r hr => inR_self (.tail _ hr), h.aa.mono fun r hr => inR_self (.tail _ hr), h.is, h.ok, h.len, h.pres, h.v⟩ (inR_self (.head _))).mono ?_)
  rintro v L' R' ⟨z, ok, rfl, hF, rfl, rfl⟩
  obtain ⟨rfl, rfl⟩ := first_next (room_ge h.pres false (Int.toNat k)) hF
  exact ⟨rfl, rfl, rfl⟩


/-- what looks for a better pressure -/
def betterF : Bool → FuncId
  | true => 173
  | false => 172
theorem betterL (up : Bool) {n : XNet} {a : XAir} {s : XSetting} {o : Ow} {l : List Int} {k : Nat} {A : List Blk} {R : List Sl} {vl : Value} (hvl : vl = (⟨o, l⟩ : OwL Int).val) (h : HypsN n a s l k R) (hin : InB ((⟨o, l⟩ : OwL Int).L 3 icell) A) (hok : (⟨o, l⟩ : OwL Int).ok 1 icell) :
    Tri Try.prog (betterF up) [n.val, vl, .int .i64 (k : Int)].toArray A R (fun w L' R' => w = nextV (nextAt a s up l k) ∧ A = L' ∧ R = R') := by
  cases up with
  | true => exact leastL hvl h hin hok
  | false => exact greatestL hvl h hin hok

theorem relRounds_tri (a : XAir) (s : XSetting) (ps : Arr Int) (up : Bool) (A : List Bool) (L : List Blk) (R : List Sl) (hm : AirR a R) (hs : SetR s R) (hps : InR (isl ps) R) (hA : airErr a = 0 → AiryIs a.mine A) :
    Tri Try.prog 171 [a.val, s.val, ps.val, .func (.func (betterF up)) #[] #[]].toArray L R (fun w L' R' => ∃ (p : OwL Int) (S : List Sl), w = .tuple #[p.val, .int .i64 (relaxS a s A up ps.l).1] ∧ p.ok 1 icell ∧ p.l = (relaxS a s A up ps.l).2 ∧ p.L 3 icell ++ L = L' ∧ S ++ R = R') := by
  refine tri_enter 80 Try.call171 Try.func171 rfl rfl rfl ?_
  refine qae ?_
  refine qax ?_
  intro b4
  refine qax ?_
  intro b5
  refine qc4 ?_
  refine qad ?_
  refine qaw ?_
  refine qa8 ?_
  refine qbe ?_
  refine qbm ?_
  refine LJ_call rfl (relCheck_tri a s ps A _ _ hm hs hps hA) rfl ?_
  rintro v L' R' ⟨S0, rfl, rfl, rfl⟩
  refine qad ?_
  refine qam ?_
  refine qaa ?_
  refine qbq ?_
  refine qaf ?_
  refine q_c (fun hc0 => ?_) (fun hc0 => ?_)
  ·
   refine qae ?_
   refine qaa ?_
   refine qc4 ?_
   refine qad ?_
   refine qbh ?_
   refine q_r (L' := L) (R' := S0 ++ R) (res2 rfl (rv_tmp (show _ = Value.slice _ _ _ from rfl)) (rv_tmp (show _ = Value.int _ _ from rfl))) ?_
   exact ⟨OwL.nil, S0, by rw [relaxS, if_pos hc0]; rfl, OwL.nil_ok, by rw [relaxS, if_pos hc0], by rw [nil_L, List.nil_append], rfl⟩
  ·
   have hso := startErr_iff.1 (show startErr a s ps.l A = 0 by omega)
   have hok := airOk_of hso.h0
   have hfo := fitOk_of hso.hf
   have hAA := hA hso.h0
   have hln := hso.hl
   have hnp := hok.mine.places
   have hrx : relaxS a s A up ps.l = match roundsS a s A up 200 ps.l with
     | none => (2, [])
     | some l => (0, l) := by rw [relaxS, if_neg hc0]; rfl
   have hR1 : ∀ r ∈ R, InR r (S0 ++ R) := fun r h => inR_self (by simp [h])
   have hm1 := airR_mono hm hR1
   have hs1 := setR_mono hs hR1
   refine qbv ?_
   refine qab ?_
   refine qbe ?_
   refine LJ_call rfl (lost_tri a.mine _ _ hm1.mineR hok.mine (airErr_mine hso.h0)) rfl ?_
   rintro v L' R' ⟨p, A2, S, rfl, hpk, hA2, hpl, rfl, rfl⟩
   obtain rfl : A = A2 := hAA.unique hA2
   have hfx : p.l.length = a.mine.places.l.length := by rw [hpl, List.length_map]; exact hAA.length
   have hAl := hAA.length
   have hR2 : ∀ r ∈ S0 ++ R, InR r (S ++ (S0 ++ R)) := fun r h => inR_self (by simp only [List.mem_append] at h ⊢; exact .inr h)
   refine qc4 ?_
   refine qam ?_
   refine qa8 ?_
   refine qbe ?_
   refine LJ_call rfl (make_tri a s _ _ (airR_mono hm1 hR2) (setR_mono hs1 hR2) hok hfo) rfl ?_
   rintro v L' R' ⟨n, rfl, hn, rfl, rfl⟩
   have hR3 : ∀ r ∈ S ++ (S0 ++ R), InR r (ppsl n.pipes :: aasl n.at_ :: (S ++ (S0 ++ R))) := fun r h => inR_self (by simp only [List.mem_cons]; exact .inr (.inr h))
   have hps3 : InR (isl ps) (ppsl n.pipes :: aasl n.at_ :: (S ++ (S0 ++ R))) := ((hps.mono hR1).mono hR2).mono hR3
   have hmp3 : InR (psl a.mine.places) (ppsl n.pipes :: aasl n.at_ :: (S ++ (S0 ++ R))) := ((hm1.places).mono hR2).mono hR3
   have hpp : InR (ppsl n.pipes) (ppsl n.pipes :: aasl n.at_ :: (S ++ (S0 ++ R))) := inR_self (.head _)
   have haa : InR (aasl n.at_) (ppsl n.pipes :: aasl n.at_ :: (S ++ (S0 ++ R))) := inR_self (.tail _ (.head _))
   obtain ⟨R4, hR4⟩ : ∃ R4, R4 = ppsl n.pipes :: aasl n.at_ :: (S ++ (S0 ++ R)) := ⟨_, rfl⟩
   rw [← hR4] at hps3 hmp3 hpp haa ⊢
   refine qaq ?_
   intro b12
   refine qak ?_
   refine qam ?_
   refine qbm ?_
   refine LJ_g (gives_copy (f := icell) (xs := ps) tb rfl rfl rfl (by decide) rfl rfl (hps3) (fun _ => rfl) (by omega)) rfl ?_
   rintro v L' R' ⟨o34, rfl, hok34, rfl, rfl⟩
   refine qc4 ?_
   refine qaw ?_
   refine qad ?_
   refine qa2 ?_
   refine CJ_forget [(3, _), (4, Value.pointer _), (11, Value.slice _ _ _), (12, Value.pointer _), (13, Value.slice _ _ _), (14, Value.int _ _)] (by repeat' (first | exact trivial | refine And.intro rfl ?_)) fun tq0 => ?_
   refine q_p [8, 9, 14, 15, 16, 17, 18, 19, 35, 36, 37, 38, 39, 40, 41, 42, 43, 44, 45, 46, 47, 48, 49, 50, 51, 52, 53, 54, 55, 56, 57, 58, 59, 60, 61, 62, 63, 64, 65, 66, 67, 68, 69, 70, 71, 72, 73, 74, 75, 76, 77, 78, 79] ((⟨fun q => [(14, .int .i64 ((q.1.1 : Nat) : Int))], fun q => (⟨o34, q.1.2⟩ : OwL Int).L 3 icell ++ (⟨b12, n.cells, 221⟩ :: (p.L 4 blc ++ (⟨b5, s.cells, 40⟩ :: ⟨b4, a.cells, 30⟩ :: L))), fun _ => R4, fun q => 200 - q.1.1⟩ : Head {q : Nat × List Int // q.1 ≤ 200 ∧ roundsS a s A up 200 ps.l = roundsS a s A up (200 - q.1) q.2 ∧ q.2.length = ps.l.length ∧ PresOk q.2 ∧ (⟨o34, q.2⟩ : OwL Int).ok 1 icell})) (⟨(0, ps.l), by dsimp only; omega, rfl, rfl, hso.hp, hok34⟩) ?_
   rintro ⟨⟨n1, l⟩, w1, w2, w3, w4, w5⟩ junk
   try dsimp only
   dsimp only at w1 w2 w3 w4 w5
   refine qbi ?_
   refine qaa ?_
   refine qaj ?_
   refine qaf ?_
   refine q_c (fun hc1 => ?_) (fun hc1 => ?_)
   ·
    have e200 : 200 - n1 = (200 - (n1 + 1)) + 1 := by omega
    rw [e200] at w2
    refine qbb ?_
    refine qaz ?_
    refine qaw ?_
    refine qab ?_
    refine qab ?_
    refine qac ?_
    refine qag ?_
    refine qaa ?_
    refine qa2 ?_
    refine CJ_forgetW [8, 9, 14, 15, 16, 17, 18, 19, 35, 36, 37, 38, 39, 40, 41, 42, 43, 44, 45, 46, 47, 48, 49, 50, 51, 52, 53, 54, 55, 56, 57, 58, 59, 60, 61, 62, 63, 64, 65, 66, 67, 68, 69, 70, 71, 72, 73, 74, 75, 76, 77, 78, 79] (by repeat (first | apply Off.upd rfl | apply Off.havoc rfl | refine Off.updL (t' := havoc _ _ _) rfl ?_ | exact Off.refl)) [(14, Value.int _ _), (15, Value.bool _), (41, Value.slice _ _ _), (42, Value.int _ _), (43, Value.int _ _)] (by repeat' (first | exact trivial | refine And.intro rfl ?_)) fun tq1 => ?_
    refine CJ_loop [8, 9, 15, 16, 17, 18, 19, 43, 44, 45, 46, 47, 48, 49, 50, 51, 52, 53, 54, 55, 56, 57, 58, 59, 60, 61, 62, 63, 64, 65, 66, 67, 68, 69, 70, 71, 72, 73, 74, 75, 76] ((⟨fun q => [(43, .int .i64 ((q.1.1 : Nat) : Int)), (15, .bool (decide (q.1.2 ≠ l)))], fun q => (⟨o34, q.1.2⟩ : OwL Int).L 3 icell ++ (⟨b12, n.cells, 221⟩ :: (p.L 4 blc ++ (⟨b5, s.cells, 40⟩ :: ⟨b4, a.cells, 30⟩ :: L))), fun _ => R4, fun q => a.mine.places.l.length - q.1.1⟩ : Head {q : Nat × List Int // q.1 ≤ a.mine.places.l.length ∧ Swept a s A up l q.1 q.2 ∧ (⟨o34, q.2⟩ : OwL Int).ok 1 icell})) (⟨(0, l), by dsimp only; omega, .zero w4, w5⟩) ⟨rfl, by simp; rfl, trivial⟩ (by repeat (first | exact zs0 _ | exact zs1 _ | apply zs2 | apply zs3 | apply zs4 | apply zs5)) (allR_self _) ?_
    rintro ⟨⟨i, m⟩, q1, q2, q3⟩ junk
    try dsimp only
    dsimp only at q1 q2 q3
    have hml := q2.len
    refine qae ?_
    refine qaj ?_
    refine qa4 ?_
    refine q_c (fun hc2 => ?_) (fun hc2 => ?_)
    ·
     have hgg := get_D (l := a.mine.places.l) (k := i) default (by omega)
     obtain ⟨fb, hfb⟩ : ∃ fb, fb = A.getD i false := ⟨_, rfl⟩
     have hpg : p.l[i]? = some (!fb) := by rw [hpl, List.getElem?_map, get_D (l := A) (k := i) false (by omega), hfb]; rfl
     have hmg := get_D (l := m) (k := i) 0 (by omega)
     refine qbb ?_
     refine qaa ?_
     refine LJ_q (by first | exact yv_index_ro tb rfl rfl rfl rfl (by first | assumption | exact zr (by simp)) (i := i) (by first | rfl | omega | (simp; omega)) (by omega) | exact yv_index tb rfl rfl rfl rfl (i := i) (by first | rfl | omega | (simp; omega)) (by omega)) rfl ?_
     refine qdl ?_
     refine qaq ?_
     intro b17
     refine qad ?_
     refine qak ?_
     refine qaw ?_
     refine qab ?_
     refine qac ?_
     refine qah ?_
     apply LJ_or (G := [_, _, _, _]) (j := 2) (cj := 50) rfl rfl (by rfl) rfl (show _ = Value.bool _ from rfl) rfl
     ·
      intro hg3
      replace hg3 := qb hg3
      refine qbm ?_
      refine qaa ?_
      refine LJ_q (yv_index_ow tb (p) _ rfl rfl rfl rfl (by assumption) (i := i) (by first | rfl | omega | (simp; omega)) (by first | omega | (dsimp only; omega) | (dsimp only; rw [List.length_set]; omega))) rfl ?_
      refine LJ_q (yv_load1_ow tb (p) rfl rfl rfl (by repeat (first | apply OSeg.cons | exact OSeg.here | exact OSeg.last | exact OSeg.at (by assumption) | apply OSeg.app)) (by assumption) (fun _ => rfl) (by assumption) (by rfl)) rfl ?_
      exact qai
     intro junk3
     refine qaf ?_
     refine q_c (fun hc3 => ?_) (fun hc3 => ?_)
     ·
      have hfi : fixB a A i = true := by rw [fixB, ← hfb]; rcases hc3 with h | h; rw [h, Bool.or_true]; rw [h]; rfl
      refine CJ_exit (seqK_exit (blockK_exit (seqK_normal (CJ_region ?_))))
      refine qar ?_
      refine qaa ?_
      refine qav ?_
      exact q_k ⟨(i + 1, m), by dsimp only; omega, q2.skip hfi, q3⟩
     ·
      have hfi : ¬ fixB a A i = true := by rw [fixB, ← hfb, hc3.1, hc3.2]; decide
      have hH : HypsN n a s m i R4 := ⟨hpp, haa, hn, hok, by omega, q2.pres, by omega⟩
      refine qbv ?_
      refine LJ_q (yv_move rfl) rfl ?_
      refine qbe ?_
      refine qbm ?_
      refine qaa ?_
      refine LJ_gg (gives_callv rfl rfl (betterL up (o := o34) (l := m) ((show _ = Value.slice _ _ _ from rfl).trans (by simp only [OwL.val, hml, w3])) hH (by repeat (first | exact inB_here | apply inB_cons | apply inB_app)) q3)) rfl rfl ?_
      rintro v L' R' ⟨rfl, rfl, rfl⟩
      refine LJ_q (yv_move rfl) rfl ?_
      refine qbs ?_
      refine qbs ?_
      refine qad ?_
      refine qaz ?_
      refine qaw ?_
      refine qah ?_
      refine qb4 ?_
      refine qaf ?_
      refine q_c (fun hc4 => ?_) (fun hc4 => ?_)
      ·
       have hv : nextAt a s up m i = none := by simpa using hc4
       have hrn : relaxS a s A up ps.l = (2, []) := by rw [hrx, w2, rounds_fail (q2.fail hfi hv _ (by omega))]
       refine qae ?_
       refine qc4 ?_
       refine qad ?_
       refine LJ_nil (seqK_normal (CJ_ret (seqK_ret (blockK_ret (seqK_ret (loopK_ret (blockK_ret (seqK_ret (blockK_ret (seqK_ret (loopK_ret (blockK_ret (seqK_ret ?_)))))))))))))
       refine q_r (L' := L) (R' := R4) (res2 rfl (rv_tmp (show _ = Value.slice _ _ _ from rfl)) (rv_tmp (show _ = Value.int _ _ from rfl))) ?_
       exact ⟨OwL.nil, ppsl n.pipes :: aasl n.at_ :: (S ++ S0), by rw [hrn]; rfl, OwL.nil_ok, by rw [hrn], by rw [nil_L, List.nil_append], by rw [hR4]; simp⟩
      ·
       obtain ⟨u, hv⟩ := Option.isSome_iff_exists.1 hc4
       have hfl := q2.flag (k := i) (by omega) u
       refine qcl ?_
       rw [hv]
       refine qay ?_
       refine qaa ?_
       refine qbm ?_
       refine qaa ?_
       refine LJ_q (yv_index_ow tb ((⟨o34, m⟩ : OwL Int)) _ rfl rfl ((show _ = Value.slice _ _ _ from rfl).trans (by simp only [OwL.val, hml, w3])) rfl (by assumption) (i := i) (by first | rfl | omega | (simp; omega)) (by first | omega | (dsimp only; omega) | (dsimp only; rw [List.length_set]; omega))) rfl ?_
       refine LJ_q (yv_load1_ow tb ((⟨o34, m⟩ : OwL Int)) rfl rfl rfl (by repeat (first | apply OSeg.cons | exact OSeg.here | exact OSeg.last | exact OSeg.at (by assumption) | apply OSeg.app)) (by assumption) (fun _ => rfl) (by assumption) (by rfl)) rfl ?_
       refine qbq ?_
       refine qaf ?_
       refine q_c (fun hc5 => ?_) (fun hc5 => ?_)
       ·
        refine qay ?_
        refine qbm ?_
        refine qaa ?_
        refine qaa ?_
        refine LJ_q (yv_index_ow tb ((⟨o34, m⟩ : OwL Int)) _ rfl rfl ((show _ = Value.slice _ _ _ from rfl).trans (by simp only [OwL.val, hml, w3])) rfl (by assumption) (i := i) (by first | rfl | omega | (simp; omega)) (by first | omega | (dsimp only; omega) | (dsimp only; rw [List.length_set]; omega))) rfl ?_
        refine LJ_g0 (gives_store1_ow tb ((⟨o34, m⟩ : OwL Int)) (u) rfl rfl rfl rfl (by repeat (first | apply OSeg.cons | exact OSeg.here | exact OSeg.last | exact OSeg.at (by assumption) | apply OSeg.app)) (by assumption) (fun _ => rfl) (by assumption) (by decide) (by rfl) (by rfl)) ?_
        rintro v L' R' ⟨rfl, rfl⟩
        refine qaz ?_
        refine qcs ?_
        refine qar ?_
        refine qaa ?_
        refine qav ?_
        exact loopK_mk ⟨(i + 1, m.set i u), by dsimp only; omega, q2.next hfi hv, OwL.len_ok icell_len q3 (by simp)⟩ (by repeat (first | exact Off.refl | apply Off.upd rfl | apply Off.havoc rfl | apply Off.updL rfl | apply Off.left rfl)) ⟨rfl, by dsimp only; rw [hfl, decide_eq_true (show u ≠ m.getD i 0 from hc5), Bool.or_true]; rfl, trivial⟩ (by repeat (first | exact zs0 _ | exact zs1 _ | apply zs2 | apply zs3 | apply zs4 | apply zs5)) (allR_self _) (by dsimp only; omega)
       ·
        refine qbj ?_
        refine qar ?_
        refine qaa ?_
        refine qav ?_
        have hse : m.set i u = m := by rw [show u = m.getD i 0 by simpa using hc5, set_self]
        exact q_k ⟨(i + 1, m), by dsimp only; omega, hse ▸ q2.next hfi hv, q3⟩
    ·
     obtain rfl : i = a.mine.places.l.length := by omega
     have hsw := q2.to
     refine qbk ?_
     refine qah ?_
     refine qb4 ?_
     refine qaf ?_
     refine q_c (fun hc6 => ?_) (fun hc6 => ?_)
     ·
      have hme : m = l := by simpa using hc6
      have hrn : relaxS a s A up ps.l = (0, m) := by rw [hrx, w2, hme, rounds_done (by rw [← hme] at hsw ⊢; exact hsw)]
      refine qae ?_
      refine qbm ?_
      refine qc4 ?_
      refine qad ?_
      refine qbt ?_
      refine q_r (L' := (⟨o34, m⟩ : OwL Int).L 3 icell ++ L) (R' := R4) (res2 rfl (rv_tmp (show _ = Value.slice _ _ _ from rfl)) (rv_tmp (show _ = Value.int _ _ from rfl))) ?_
      exact ⟨⟨o34, m⟩, ppsl n.pipes :: aasl n.at_ :: (S ++ S0), by rw [hrn]; simp only [OwL.val, hml, w3], q3, by rw [hrn], rfl, by rw [hR4]; simp⟩
     ·
      have hme : m ≠ l := by simpa using hc6
      refine qbj ?_
      refine qaa ?_
      refine qar ?_
      refine qad ?_
      refine qav ?_
      exact q_k ⟨(n1 + 1, m), by dsimp only; omega, w2.trans (rounds_next hsw hme), hml.trans w3, q2.pres, q3⟩
   ·
    obtain rfl : n1 = 200 := by omega
    have hrn : relaxS a s A up ps.l = (2, []) := by rw [hrx, w2]; rfl
    refine qbk ?_
    refine qc4 ?_
    refine qad ?_
    refine qa0 ?_
    refine q_r (L' := L) (R' := R4) (res2 rfl (rv_tmp (show _ = Value.slice _ _ _ from rfl)) (rv_tmp (show _ = Value.int _ _ from rfl))) ?_
    exact ⟨OwL.nil, ppsl n.pipes :: aasl n.at_ :: (S ++ S0), by rw [hrn]; rfl, OwL.nil_ok, by rw [hrn], by rw [nil_L, List.nil_append], by rw [hR4]; simp⟩

theorem relRise_tri (a : XAir) (s : XSetting) (ps : Arr Int) (A : List Bool) (L : List Blk) (R : List Sl) (hm : AirR a R) (hs : SetR s R) (hps : InR (isl ps) R) (hA : airErr a = 0 → AiryIs a.mine A) :
    Tri Try.prog 147 [a.val, s.val, ps.val].toArray L R (fun w L' R' => ∃ (p : OwL Int) (S : List Sl), w = .tuple #[p.val, .int .i64 (relaxS a s A true ps.l).1] ∧ p.ok 1 icell ∧ p.l = (relaxS a s A true ps.l).2 ∧ p.L 3 icell ++ L = L' ∧ S ++ R = R') := by
  refine tri_enter 14 Try.call147 Try.func147 rfl rfl rfl ?_
  refine qae ?_
  refine qax ?_
  intro b3
  refine qax ?_
  intro b4
  refine qc4 ?_
  refine qad ?_
  refine qam ?_
  refine qa8 ?_
  refine qbe ?_
  refine qbm ?_
  refine LJ_call rfl (relRounds_tri a s ps true A _ _ hm hs hps hA) rfl ?_
  rintro v L' R' ⟨p, S, rfl, hpk, hpl, rfl, rfl⟩
  refine qbs ?_
  refine qbs ?_
  refine qc4 ?_
  refine qad ?_
  refine qa0 ?_
  refine q_r (L' := p.L 3 icell ++ L) (R' := S ++ R) (res2 rfl (rv_tmp (show _ = Value.slice _ _ _ from rfl)) (rv_tmp (show _ = Value.int _ _ from rfl))) ?_
  exact ⟨p, S, rfl, hpk, hpl, rfl, rfl⟩

theorem relFall_tri (a : XAir) (s : XSetting) (ps : Arr Int) (A : List Bool) (L : List Blk) (R : List Sl) (hm : AirR a R) (hs : SetR s R) (hps : InR (isl ps) R) (hA : airErr a = 0 → AiryIs a.mine A) :
    Tri Try.prog 146 [a.val, s.val, ps.val].toArray L R (fun w L' R' => ∃ (p : OwL Int) (S : List Sl), w = .tuple #[p.val, .int .i64 (relaxS a s A false ps.l).1] ∧ p.ok 1 icell ∧ p.l = (relaxS a s A false ps.l).2 ∧ p.L 3 icell ++ L = L' ∧ S ++ R = R') := by
  refine tri_enter 14 Try.call146 Try.func146 rfl rfl rfl ?_
  refine qae ?_
  refine qax ?_
  intro b3
  refine qax ?_
  intro b4
  refine qc4 ?_
  refine qad ?_
  refine qam ?_
  refine qa8 ?_
  refine qbe ?_
  refine qbm ?_
  refine LJ_call rfl (relRounds_tri a s ps false A _ _ hm hs hps hA) rfl ?_
  rintro v L' R' ⟨p, S, rfl, hpk, hpl, rfl, rfl⟩
  refine qbs ?_
  refine qbs ?_
  refine qc4 ?_
  refine qad ?_
  refine qa0 ?_
  refine q_r (L' := p.L 3 icell ++ L) (R' := S ++ R) (res2 rfl (rv_tmp (show _ = Value.slice _ _ _ from rfl)) (rv_tmp (show _ = Value.int _ _ from rfl))) ?_
  exact ⟨p, S, rfl, hpk, hpl, rfl, rfl⟩

end Go.Proofs.Ytlgjgigciapkfaa
