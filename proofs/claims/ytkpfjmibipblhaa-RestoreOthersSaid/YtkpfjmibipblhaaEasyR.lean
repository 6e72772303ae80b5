import Derived.Test.YtkpfjmibipblhaaRestN
import Derived.Test.YtkpfjmibipblhaaRestR
import Derived.Test.YtkpfjmibipblhaaSiteD
import Derived.Test.YtkpfjmibipblhaaNarrow
import Derived.Test.YtkpfjmibipblhaaEasy
import Derived.Test.YtkpfjmibipblhaaFeedD
section
/-
  Restoring power: closing the next switch. By an AI agent; no person has read it.
-/
set_option linter.unusedSimpArgs false
set_option linter.unusedVariables false
namespace Go.Proofs.Ytkpfjmibipblhaa
open Go.Aw Go
section
variable {A9 B9 : Prop}
theorem yb8aa (a : A9) (h : A9 → B9 := by exact LJ_q (yv_loadN (row := [_, _, _]) tb rfl rfl rfl (by repeat (first | exact zi0 | apply zi1 | apply zi2)) (by rfl) (by rfl)) rfl) : B9 := h a
theorem yb8ab (a : A9) (h : A9 → B9 := by exact WStep_g rfl (Go.Proofs.Ytkpfjmibipblhaa.YV.gives2 (yv_load1 tb rfl rfl rfl (by repeat (first | exact zi0 | apply zi1 | apply zi2)) (by rfl))) rfl rfl) : B9 := h a
theorem yb8ac (a : A9) (h : A9 → B9 := by exact DJ3_ql (yv_move (show _ = Value.slice _ _ _ from rfl)) rfl rfl rfl rfl) : B9 := h a
theorem yb8ad (a : A9) (h : A9 → B9 := by exact DJ3_ql (yv_loadN (row := [_, _, _]) tb rfl rfl rfl (by repeat (first | exact zi0 | apply zi1 | apply zi2)) (by rfl) (by rfl)) rfl rfl rfl rfl) : B9 := h a
theorem yb8ae (a : A9) (h : A9 → B9 := by exact DJ_q (yv_assign (show _ = Value.slice _ _ _ from rfl)) rfl rfl rfl) : B9 := h a
theorem yb8af (a : A9) (h : A9 → B9 := by exact LJ_q (yv_loadN (row := [_, _, _, _, _, _, _, _]) tb rfl rfl rfl (by repeat (first | exact zi0 | apply zi1 | apply zi2)) (by rfl) (by rfl)) rfl) : B9 := h a
theorem yb8ag (a : A9) (h : A9 → B9 := by exact LJ_q (yv_loadN (row := [_, _, _, _, _]) tb rfl rfl rfl (by repeat (first | exact zi0 | apply zi1 | apply zi2)) (by rfl) (by rfl)) rfl) : B9 := h a
theorem yb8ah (a : A9) (h : A9 → B9 := by exact WStep_g rfl (gives_copy (f := XSwitch.cells) (xs := f.switches) tb rfl rfl rfl (by decide) rfl rfl (hsR) (fun _ => rfl) (by omega)) rfl rfl) : B9 := h a
theorem yb8ai (a : A9) (h : A9 → B9 := by exact WZ_q 6 hT3 (List.nil_sublist _) (by kernel_rfl) rfl rfl rfl rfl rfl (yv_field tb rfl rfl rfl)) : B9 := h a
theorem yb8aj (a : A9) (h : A9 → B9 := by exact WStep_g rfl (gives_copy (f := icell) (xs := f.zones) tb rfl rfl rfl (by decide) rfl rfl (hzR) (fun _ => rfl) (by omega)) rfl rfl) : B9 := h a
theorem yb8ak (a : A9) (h : A9 → B9 := by exact DJ3_q (yv_loadN (row := [_, _, _, _, _]) tb rfl rfl rfl (by repeat (first | exact zi0 | apply zi1 | apply zi2)) (by rfl) (by rfl)) rfl rfl rfl rfl) : B9 := h a
end
theorem res4 {P : Program} {fn : Func} {t : Nat → Value} {L : List Blk} {R : List Sl} {r s q z : ResultVar} {v u x y : Value} (hr : fn.results = #[r, s, q, z]) (h : RV P t L R r v) (k : RV P t L R s u) (m : RV P t L R q x) (m2 : RV P t L R z y) : ∀ c n a w, Fr n t a → St c L R w → (results fn a.tmps).run P w = .ok (.tuple #[v, u, x, y]) w := by
  intro c n a w hf hs
  have h1 := rv_run h hf hs
  have h2 := rv_run k hf hs
  have h3 := rv_run m hf hs
  have h4 := rv_run m2 hf hs
  rw [results_eq, hr]
  simp [h1, h2, h3, h4]
set_option maxRecDepth 20000
attribute [local irreducible] CJ LJ DJ Tri YV Gives seqK blockK loopK retK RV mergeK OwL.L
def atR (f : XFeeder) (k : Int) : Int := nxtAt f.switches.l (pathL f.switches.l f.zones.l f.reply (f.zones.l.getD k.toNat 0))
def canRE (s : XSite) (c : List XCut) (fl : List XSpan) (r : XRest) (f : XFeeder) (t : Int) : Int :=
  if sharedE s c.length fl.length t ≠ 0 then sharedE s c.length fl.length t
  else if r.zone = -1 ∨ r.step ≠ 2 then 10
  else if LateR r t then 8
  else if readyE s c fl r.zone t ≠ 0 then readyE s c fl r.zone t
  else if feedE f.switches.l f.zones.l f.reply ≠ 0 then feedE f.switches.l f.zones.l f.reply
  else if f.zones.l.length ≠ s.zones.l.length then 17
  else if Powers c f.switches.l f.zones.l f.reply r.zone (atR f r.zone) then 20 else 0
theorem readyE_rng {s : XSite} {c : List XCut} {fl : List XSpan} {k t : Int} (h : readyE s c fl k t = 0) : 0 ≤ k ∧ k < c.length := by
  rw [readyE] at h
  split at h
  · cases h
  · omega
theorem canR_tri (s : XSite) (c : Arr XCut) (fl : Arr XSpan) (r : XRest) (f : XFeeder) (t : Int) (L : List Blk) (R : List Sl) (h : RestA s c fl R) (hf : FeederR f R) :
    Tri Try.prog 80 [s.val, c.val, fl.val, r.val, f.val, .int .i64 t].toArray L R (fun v L' R' => ∃ a : Int, v = .tuple #[.int .i64 a, .int .i64 (canRE s c.l fl.l r f t)] ∧ (canRE s c.l fl.l r f t = 0 → a = atR f r.zone) ∧ L = L' ∧ ∀ r ∈ R, InR r R') := by
  refine tri_enter 70 Try.call80 Try.func80 rfl rfl rfl ?_
  refine qae ?_
  refine qax ?_
  intro b6
  refine qax ?_
  intro b9
  refine qax ?_
  intro b10
  refine qad ?_
  refine qad ?_
  refine qaw ?_
  refine yb8af ?_
  refine qbm ?_
  refine qbm ?_
  refine qaa ?_
  refine q_l rfl (restCheck_tri s c fl t _ _ h) ?_
  refine qad ?_
  refine qam ?_
  refine qaa ?_
  refine qbq ?_
  refine qaf ?_
  refine q_c (fun hc0 => ?_) (fun hc0 => ?_)
  ·
   refine qae ?_
   refine qaa ?_
   refine qad ?_
   refine qad ?_
   refine qbh ?_
   refine q_r (L' := L) (R' := R) (res2 rfl (rv_tmp (show _ = Value.int _ _ from rfl)) (rv_tmp (show _ = Value.int _ _ from rfl))) ?_
   have he : canRE s c.l fl.l r f t = sharedE s c.l.length fl.l.length t := by rw [canRE, if_pos hc0]
   exact ⟨0, by rw [he], fun h => by omega, rfl, allR_self _⟩
  obtain ⟨hok, hln, ht⟩ := shared_ok (s := s) (nc := c.l.length) (nf := fl.l.length) (t := t) (by omega)
  refine qbo ?_
  refine qab ?_
  refine qac ?_
  refine qbn ?_
  refine qah ?_
  apply LJ_or (G := [_, _, _]) (j := 3) (cj := 30) rfl rfl (by rfl) rfl (show _ = Value.bool _ from rfl) rfl
  ·
   intro hg4
   replace hg4 := qb hg4
   refine qab ?_
   refine qac ?_
   refine qbq ?_
   exact qai
  intro junk4
  refine qaf ?_
  refine q_c (fun hc1 => ?_) (fun hc1 => ?_)
  ·
   refine qae ?_
   refine qad ?_
   refine qad ?_
   refine qbh ?_
   refine q_r (L' := L) (R' := R) (res2 rfl (rv_tmp (show _ = Value.int _ _ from rfl)) (rv_tmp (show _ = Value.int _ _ from rfl))) ?_
   have he : canRE s c.l fl.l r f t = 10 := by rw [canRE, if_neg hc0, if_pos (by omega)]
   exact ⟨0, by rw [he], fun h => by omega, rfl, allR_self _⟩
  refine qbo ?_
  refine yb8ag ?_
  refine qaa ?_
  refine q_l rfl (late_tri r t _ _ ht) ?_
  refine qaf ?_
  refine q_c (fun hc2 => ?_) (fun hc2 => ?_)
  ·
   refine qae ?_
   refine qad ?_
   refine qad ?_
   refine qbh ?_
   refine q_r (L' := L) (R' := R) (res2 rfl (rv_tmp (show _ = Value.int _ _ from rfl)) (rv_tmp (show _ = Value.int _ _ from rfl))) ?_
   have he : canRE s c.l fl.l r f t = 8 := by rw [canRE, if_neg hc0, if_neg (by omega), if_pos (by simpa using hc2)]
   exact ⟨0, by rw [he], fun h => by omega, rfl, allR_self _⟩
  have hlt : ¬ LateR r t := by simpa using hc2
  refine qbo ?_
  refine yb8af ?_
  refine qbm ?_
  refine qbm ?_
  refine qab ?_
  refine qac ?_
  refine qaa ?_
  refine q_l rfl (ready_tri s c fl r.zone t _ _ h hok hln ht) ?_
  refine qad ?_
  refine qam ?_
  refine qaa ?_
  refine qbq ?_
  refine qaf ?_
  refine q_c (fun hc3 => ?_) (fun hc3 => ?_)
  ·
   refine qae ?_
   refine qaa ?_
   refine qad ?_
   refine qad ?_
   refine qbh ?_
   refine q_r (L' := L) (R' := R) (res2 rfl (rv_tmp (show _ = Value.int _ _ from rfl)) (rv_tmp (show _ = Value.int _ _ from rfl))) ?_
   have he : canRE s c.l fl.l r f t = readyE s c.l fl.l r.zone t := by rw [canRE, if_neg hc0, if_neg (by omega), if_neg hlt, if_pos hc3]
   exact ⟨0, by rw [he], fun h => by omega, rfl, allR_self _⟩
  refine qbo ?_
  refine yb8aa ?_
  refine q_l rfl (feedCheck_tri f _ _ hf) ?_
  refine qad ?_
  refine qam ?_
  refine qaa ?_
  refine qbq ?_
  refine qaf ?_
  refine q_c (fun hc4 => ?_) (fun hc4 => ?_)
  ·
   refine qae ?_
   refine qaa ?_
   refine qad ?_
   refine qad ?_
   refine qbh ?_
   refine q_r (L' := L) (R' := R) (res2 rfl (rv_tmp (show _ = Value.int _ _ from rfl)) (rv_tmp (show _ = Value.int _ _ from rfl))) ?_
   have he : canRE s c.l fl.l r f t = feedE f.switches.l f.zones.l f.reply := by rw [canRE, if_neg hc0, if_neg (by omega), if_neg hlt, if_neg hc3, if_pos hc4]
   exact ⟨0, by rw [he], fun h => by omega, rfl, allR_self _⟩
  refine qbo ?_
  refine qab ?_
  refine qac ?_
  refine qag ?_
  refine qab ?_
  refine qac ?_
  refine qag ?_
  refine qbq ?_
  refine qaf ?_
  refine q_c (fun hc5 => ?_) (fun hc5 => ?_)
  ·
   refine qae ?_
   refine qad ?_
   refine qad ?_
   refine qbh ?_
   refine q_r (L' := L) (R' := R) (res2 rfl (rv_tmp (show _ = Value.int _ _ from rfl)) (rv_tmp (show _ = Value.int _ _ from rfl))) ?_
   have he : canRE s c.l fl.l r f t = 17 := by rw [canRE, if_neg hc0, if_neg (by omega), if_neg hlt, if_neg hc3, if_neg hc4, if_pos (by omega)]
   exact ⟨0, by rw [he], fun h => by omega, rfl, allR_self _⟩
  have hrz := readyE_rng (s := s) (c := c.l) (fl := fl.l) (k := r.zone) (t := t) (by omega)
  refine qbv ?_
  refine qbm ?_
  refine yb8aa ?_
  refine qab ?_
  refine qac ?_
  refine LJ_call rfl (Next_tri c f r.zone _ _ h.cuts hf (by omega) (by omega) (by omega)) rfl ?_
  rintro v L' R' ⟨rfl, rfl, hR2⟩
  refine LJ_q (yv_move rfl) rfl ?_
  refine qbs ?_
  refine qbs ?_
  refine qad ?_
  refine qaz ?_
  refine qaw ?_
  refine qah ?_
  refine qaf ?_
  refine q_c (fun hc6 => ?_) (fun hc6 => ?_)
  ·
   refine qae ?_
   refine qad ?_
   refine qad ?_
   refine qbh ?_
   refine q_r (L' := L) (R' := _) (res2 rfl (rv_tmp (show _ = Value.int _ _ from rfl)) (rv_tmp (show _ = Value.int _ _ from rfl))) ?_
   have he : canRE s c.l fl.l r f t = 20 := by rw [canRE, if_neg hc0, if_neg (by omega), if_neg hlt, if_neg hc3, if_neg hc4, if_neg (by omega), if_pos (by simpa [atR] using hc6)]
   exact ⟨0, by rw [he], fun h => by omega, rfl, hR2⟩
  refine qbv ?_
  refine qaa ?_
  refine qad ?_
  refine qad ?_
  refine qa0 ?_
  refine q_r (L' := L) (R' := _) (res2 rfl (rv_tmp (show _ = Value.int _ _ from rfl)) (rv_tmp (show _ = Value.int _ _ from rfl))) ?_
  have he : canRE s c.l fl.l r f t = 0 := by rw [canRE, if_neg hc0, if_neg (by omega), if_neg hlt, if_neg hc3, if_neg hc4, if_neg (by omega), if_neg (by simpa [atR] using hc6)]
  exact ⟨atR f r.zone, by rw [he]; rfl, fun _ => rfl, rfl, hR2⟩
theorem canRE_ok {s : XSite} {c : List XCut} {fl : List XSpan} {r : XRest} {f : XFeeder} {t : Int} (h : canRE s c fl r f t = 0) : (0 ≤ r.zone ∧ r.zone < c.length) ∧ c.length = f.zones.l.length ∧ feedE f.switches.l f.zones.l f.reply = 0 := by
  rw [canRE] at h
  split at h
  · omega
  rename_i h0
  obtain ⟨_, hln, _⟩ := shared_ok (Decidable.not_not.1 h0)
  split at h
  · cases h
  split at h
  · cases h
  split at h
  · omega
  rename_i h3
  have := readyE_rng (Decidable.not_not.1 h3)
  split at h
  · omega
  split at h
  · cases h
  omega
def rcloseE (s : XSite) (c : List XCut) (fl : List XSpan) (r : XRest) (f : XFeeder) (t : Int) : Int :=
  if canRE s c fl r f t ≠ 0 then canRE s c fl r f t else closeE f.switches.l f.zones.l f.reply (atR f r.zone) t
def ownR (f : XFeeder) (r : XRest) : Prop := atR f r.zone = f.zones.l.getD r.zone.toNat 0
instance (f : XFeeder) (r : XRest) : Decidable (ownR f r) := by unfold ownR; infer_instance
def rcloseR (s : XSite) (c : List XCut) (fl : List XSpan) (r : XRest) (f : XFeeder) (t : Int) : XRest :=
  if rcloseE s c fl r f t ≠ 0 then r else if ownR f r then noRest else ⟨r.zone, r.first, r.second, r.step, t⟩
def rcloseC (s : XSite) (c : List XCut) (fl : List XSpan) (r : XRest) (f : XFeeder) (t : Int) : List XCut :=
  if rcloseE s c fl r f t ≠ 0 then c else if ownR f r then c.set r.zone.toNat ⟨false, (c.getD r.zone.toNat default).clear, (c.getD r.zone.toNat default).reason⟩ else c
def rcloseSw (s : XSite) (c : List XCut) (fl : List XSpan) (r : XRest) (f : XFeeder) (t : Int) : List XSwitch :=
  if rcloseE s c fl r f t ≠ 0 then f.switches.l else closeSw f.switches.l (atR f r.zone) t
structure CloseIs (s : XSite) (c : List XCut) (fl : List XSpan) (r : XRest) (f : XFeeder) (t : Int) (q : XRest) (c2 : List XCut) (sw : List XSwitch) (zn : List Int) (rp : Int) : Prop where
  rest : q = rcloseR s c fl r f t
  cuts : c2 = rcloseC s c fl r f t
  sw : sw = rcloseSw s c fl r f t
  zn : zn = f.zones.l
  rp : rp = f.reply
theorem closeIs_err {s : XSite} {c : List XCut} {fl : List XSpan} {r : XRest} {f : XFeeder} {t e : Int} (h : rcloseE s c fl r f t = e) (he : e ≠ 0) : CloseIs s c fl r f t r c f.switches.l f.zones.l f.reply := by
  have h0 : rcloseE s c fl r f t ≠ 0 := by omega
  exact ⟨by rw [rcloseR, if_pos h0], by rw [rcloseC, if_pos h0], by rw [rcloseSw, if_pos h0], rfl, rfl⟩
theorem Close_tri (s : XSite) (c : Arr XCut) (fl : Arr XSpan) (r : XRest) (f : XFeeder) (t : Int) (L : List Blk) (R : List Sl) (h : RestA s c fl R) (hf : FeederR f R) (hn : c.l.length ≤ 1000 ∧ f.switches.l.length ≤ 1000 ∧ f.zones.l.length ≤ 1000) :
    Tri Try.prog 35 [s.val, c.val, fl.val, r.val, f.val, .int .i64 t].toArray L R (fun v L' R' => ∃ (q : XRest) (pc : OwL XCut) (psw : OwL XSwitch) (pz : OwL Int) (rp : Int), v = .tuple #[q.val, pc.val, .agg #[psw.val, pz.val, .int .i64 rp], .int .i64 (rcloseE s c.l fl.l r f t)] ∧
      (pc.ok 3 XCut.cells ∧ psw.ok 5 XSwitch.cells ∧ pz.ok 1 icell) ∧ CloseIs s c.l fl.l r f t q pc.l psw.l pz.l rp ∧ pz.L 3 icell ++ (psw.L 98 XSwitch.cells ++ (pc.L 93 XCut.cells ++ L)) = L' ∧ ∀ r ∈ R, InR r R') := by
  have hcR := h.cuts
  have hsR := hf.sw
  have hzR := hf.zn
  refine tri_enter 84 Try.call35 Try.func35 rfl rfl rfl ?_
  refine qae ?_
  refine qax ?_
  intro b6
  refine qax ?_
  intro b9
  refine qax ?_
  intro b10
  refine qaq ?_
  intro b12
  refine qc4 ?_
  refine qaq ?_
  intro b14
  refine qad ?_
  refine qam ?_
  refine qbm ?_
  refine LJ_g (gives_copy (f := XCut.cells) (xs := c) tb rfl rfl rfl (by decide) rfl rfl (hcR) (fun _ => rfl) (by omega)) rfl ?_
  rintro v L' R' ⟨o23, rfl, hok23, rfl, rfl⟩
  refine qc4 ?_
  refine qam ?_
  refine yb8aa ?_
  refine qaq ?_
  intro b17
  refine qak ?_
  refine qa4 ?_
  refine CJ_joinP [25, 26, 27, 28, 29, 30, 31, 32] ((⟨fun _ => [], fun g => (⟨g.1.2, f.zones.l⟩ : OwL Int).L 3 icell ++ ((⟨g.1.1, f.switches.l⟩ : OwL XSwitch).L 98 XSwitch.cells ++ (⟨b17, [(⟨g.1.1, f.switches.l⟩ : OwL XSwitch).val, (⟨g.1.2, f.zones.l⟩ : OwL Int).val, .int .i64 f.reply], 71⟩ :: ((⟨o23, c.l⟩ : OwL XCut).L 93 XCut.cells ++ (⟨b14, [.slice none 0 0, .slice none 0 0, .int .i64 0], 71⟩ :: ⟨b12, [.int .i64 0, .int .i64 0, .int .i64 0, .int .i64 0, .int .i64 0], 78⟩ :: ⟨b10, f.cells, 71⟩ :: ⟨b9, r.cells, 78⟩ :: ⟨b6, s.cells, 36⟩ :: L)))), fun _ => R, fun _ => 0⟩ : Head {g : Ow × Ow // (⟨g.1, f.switches.l⟩ : OwL XSwitch).ok 5 XSwitch.cells ∧ (⟨g.2, f.zones.l⟩ : OwL Int).ok 1 icell})) ?_ ?_
  ·
   skip
   refine CJ_tree tb [] [0, 1, 3, 4, 2, 6, 5] [7, 8, 9] (_) [] 7 mixed (by kernel_rfl) rfl rfl (by repeat (first | exact zs0 _ | exact zs1 _ | apply zs2 | apply zs3 | apply zs4 | apply zs5)) fun hT3 => ?_
   refine WZ_q 0 hT3 (List.nil_sublist _) (by kernel_rfl) rfl rfl rfl rfl rfl (yv_field tb rfl rfl rfl) ?_
   refine WZ_q 3 hT3 (List.nil_sublist _) (by kernel_rfl) rfl rfl rfl rfl rfl (yv_field tb rfl rfl rfl) ?_
   refine WZ_branch [1, 4] hT3 (List.nil_sublist _) (by kernel_rfl) ?_
   refine WSteps_cons ?_ ?_
   ·
    skip
    refine yb8ab ?_
    rintro v L' R' ⟨rfl, rfl, rfl⟩
    refine qa1 ?_
    refine WZ_branch [2, 4] hT3 (List.nil_sublist _) (by kernel_rfl) ?_
    refine WSteps_cons ?_ ?_
    ·
     skip
     refine yb8ah ?_
     rintro v L' R' ⟨o27, rfl, hok27, rfl, rfl⟩
     refine qa1 ?_
     refine yb8ai ?_
     refine WZ_branch [4] hT3 (List.nil_sublist _) (by kernel_rfl) ?_
     refine qca ?_
     refine yb8ab ?_
     rintro v L' R' ⟨rfl, rfl, rfl⟩
     refine qa1 ?_
     refine WZ_branch [5] hT3 (List.nil_sublist _) (by kernel_rfl) ?_
     refine qca ?_
     refine yb8aj ?_
     rintro v L' R' ⟨o30, rfl, hok30, rfl, rfl⟩
     refine qa1 ?_
     refine WZ_endL hT3 (List.nil_sublist _) (by kernel_rfl) rfl ?_
     refine qbw ?_
     refine qal ?_
     refine qbw ?_
     refine DJ_nil ?_
     first
       | exact joinPK_mk ⟨(o27, o30), hok27, hok30⟩ (by repeat (first | exact Off.refl | apply Off.upd rfl | apply Off.havoc rfl | apply Off.updL rfl | apply Off.left rfl)) (by repeat' (first | exact trivial | refine And.intro rfl ?_)) (List.Perm.refl _) (List.Sublist.refl _) (allR_self _)
       | exact joinPK_mk ⟨(o27, o30), hok27, hok30⟩ (by repeat (first | exact Off.refl | apply Off.upd rfl | apply Off.havoc rfl | apply Off.updL rfl | apply Off.left rfl)) (by repeat' (first | exact trivial | refine And.intro rfl ?_)) (List.perm_append_comm_assoc _ _ _) (List.Sublist.refl _) (allR_self _)
    refine qca ?_
    refine yb8ab ?_
    rintro v L' R' ⟨rfl, rfl, rfl⟩
    refine qa1 ?_
    refine WZ_branch [2] hT3 (List.nil_sublist _) (by kernel_rfl) ?_
    refine qca ?_
    refine yb8ah ?_
    rintro v L' R' ⟨o27, rfl, hok27, rfl, rfl⟩
    refine qa1 ?_
    refine yb8ai ?_
    refine WZ_branch [5] hT3 (List.nil_sublist _) (by kernel_rfl) ?_
    refine qca ?_
    refine yb8aj ?_
    rintro v L' R' ⟨o30, rfl, hok30, rfl, rfl⟩
    refine qa1 ?_
    refine WZ_endL hT3 (List.nil_sublist _) (by kernel_rfl) rfl ?_
    refine qbw ?_
    refine qal ?_
    refine qbw ?_
    refine DJ_nil ?_
    first
      | exact joinPK_mk ⟨(o27, o30), hok27, hok30⟩ (by repeat (first | exact Off.refl | apply Off.upd rfl | apply Off.havoc rfl | apply Off.updL rfl | apply Off.left rfl)) (by repeat' (first | exact trivial | refine And.intro rfl ?_)) (List.Perm.refl _) (List.Sublist.refl _) (allR_self _)
      | exact joinPK_mk ⟨(o27, o30), hok27, hok30⟩ (by repeat (first | exact Off.refl | apply Off.upd rfl | apply Off.havoc rfl | apply Off.updL rfl | apply Off.left rfl)) (by repeat' (first | exact trivial | refine And.intro rfl ?_)) (List.perm_append_comm_assoc _ _ _) (List.Sublist.refl _) (allR_self _)
   refine qca ?_
   refine yb8ab ?_
   rintro v L' R' ⟨rfl, rfl, rfl⟩
   refine qa1 ?_
   refine WZ_branch [1] hT3 (List.nil_sublist _) (by kernel_rfl) ?_
   refine qca ?_
   refine yb8ab ?_
   rintro v L' R' ⟨rfl, rfl, rfl⟩
   refine qa1 ?_
   refine WZ_branch [2] hT3 (List.nil_sublist _) (by kernel_rfl) ?_
   refine qca ?_
   refine yb8ah ?_
   rintro v L' R' ⟨o27, rfl, hok27, rfl, rfl⟩
   refine qa1 ?_
   refine yb8ai ?_
   refine WZ_branch [5] hT3 (List.nil_sublist _) (by kernel_rfl) ?_
   refine qca ?_
   refine yb8aj ?_
   rintro v L' R' ⟨o30, rfl, hok30, rfl, rfl⟩
   refine qa1 ?_
   refine WZ_endL hT3 (List.nil_sublist _) (by kernel_rfl) rfl ?_
   refine qbw ?_
   refine qal ?_
   refine qbw ?_
   refine DJ_nil ?_
   first
     | exact joinPK_mk ⟨(o27, o30), hok27, hok30⟩ (by repeat (first | exact Off.refl | apply Off.upd rfl | apply Off.havoc rfl | apply Off.updL rfl | apply Off.left rfl)) (by repeat' (first | exact trivial | refine And.intro rfl ?_)) (List.Perm.refl _) (List.Sublist.refl _) (allR_self _)
     | exact joinPK_mk ⟨(o27, o30), hok27, hok30⟩ (by repeat (first | exact Off.refl | apply Off.upd rfl | apply Off.havoc rfl | apply Off.updL rfl | apply Off.left rfl)) (by repeat' (first | exact trivial | refine And.intro rfl ?_)) (List.perm_append_comm_assoc _ _ _) (List.Sublist.refl _) (allR_self _)
  rintro ⟨⟨oS, oZ⟩, hkS, hkZ⟩ junk
  try dsimp only
  dsimp only at hkS hkZ
  refine qae ?_
  refine yb8af ?_
  refine qbm ?_
  refine qbm ?_
  refine yb8ag ?_
  refine yb8aa ?_
  refine qaa ?_
  refine LJ_call rfl (canR_tri s c fl r f t _ _ h hf) rfl ?_
  rintro v L' R' ⟨a, rfl, ha, rfl, hR2⟩
  have hf2 := hf.mono hR2
  have hzR2 := hf2.zn
  refine LJ_q (yv_move rfl) rfl ?_
  refine qbs ?_
  refine qbs ?_
  refine qad ?_
  refine qad ?_
  refine qaw ?_
  refine qaa ?_
  refine qbq ?_
  refine qaf ?_
  refine q_c (fun hc0 => ?_) (fun hc0 => ?_)
  ·
   refine CJ_seq ?_
   refine CJ_drawn2 tb [46, 47, 48] [0, 1, 2, 3] [4, 5, 6, 7] ([Blk.mk b17 _ _, Blk.mk b14 _ _, Blk.mk b12 _ _, Blk.mk b9 _ _]) _ mixed (by kernel_rfl) (by repeat (first | exact zs0 _ | exact zs1 _ | apply zs2 | apply zs3 | apply zs4 | apply zs5)) (by (repeat (first | apply List.Sublist.cons (a := Blk.mk b12 _ _) | apply List.Sublist.cons (a := Blk.mk b14 _ _) | apply List.Sublist.cons_cons)); exact List.Sublist.refl _) ?_
   refine yb8ak ?_
   refine yb8ac ?_
   refine yb8ad ?_
   refine DJ3_ql (yv_move (show _ = Value.int _ _ from rfl)) rfl rfl rfl rfl ?_
   refine qba ?_
   refine qbg ?_
   refine yb8ae ?_
   refine qbg ?_
   refine qcg ?_
   refine DJ_nil (seqK_normal (CJ_ret (seqK_ret ?_)))
   refine q_r (L' := (⟨oZ, f.zones.l⟩ : OwL Int).L 3 icell ++ ((⟨oS, f.switches.l⟩ : OwL XSwitch).L 98 XSwitch.cells ++ ((⟨o23, c.l⟩ : OwL XCut).L 93 XCut.cells ++ L))) (R' := _) (res4 rfl (rv_cell (row := [_, _, _, _, _]) tb rfl rfl rfl (by repeat (first | exact zi0 | apply zi1 | apply zi2)) (by rfl) (by rfl)) (rv_tmp (show _ = Value.slice _ _ _ from rfl)) (rv_cell (row := [_, _, _]) tb rfl rfl rfl (by repeat (first | exact zi0 | apply zi1 | apply zi2)) (by rfl) (by rfl)) (rv_tmp (show _ = Value.int _ _ from rfl))) ?_
   have he : rcloseE s c.l fl.l r f t = canRE s c.l fl.l r f t := by rw [rcloseE, if_pos hc0]
   exact ⟨r, ⟨o23, c.l⟩, ⟨oS, f.switches.l⟩, ⟨oZ, f.zones.l⟩, f.reply, by rw [he]; rfl, ⟨hok23, hkS, hkZ⟩, closeIs_err he hc0, rfl, hR2⟩
  obtain rfl : a = atR f r.zone := ha (by omega)
  obtain ⟨hrz, hcz, hfe⟩ := canRE_ok (s := s) (c := c.l) (fl := fl.l) (r := r) (f := f) (t := t) (by omega)
  have he : rcloseE s c.l fl.l r f t = closeE f.switches.l f.zones.l f.reply (atR f r.zone) t := by rw [rcloseE, if_neg hc0]
  have hzg := get_D (l := f.zones.l) (k := r.zone.toNat) 0 (by omega)
  have hxg := get_D (l := c.l) (k := r.zone.toNat) default (by omega)
  obtain ⟨x, hx⟩ : ∃ x, x = c.l.getD r.zone.toNat default := ⟨_, rfl⟩
  rw [← hx] at hxg
  refine qbv ?_
  refine yb8aa ?_
  refine qaa ?_
  refine qaa ?_
  refine LJ_call rfl (feedClose_tri f (atR f r.zone) t _ _ hf2) rfl ?_
  rintro v L' R' ⟨p, q, rp, rfl, ⟨hpk, hqk⟩, hcl, rfl, rfl⟩
  refine LJ_q (yv_move rfl) rfl ?_
  refine qbs ?_
  refine qbs ?_
  refine qaq ?_
  intro b20
  refine qak ?_
  refine qad ?_
  refine qaw ?_
  refine qaa ?_
  refine qbq ?_
  refine qaf ?_
  refine q_c (fun hc1 => ?_) (fun hc1 => ?_)
  ·
   refine CJ_seq ?_
   refine CJ_drawn2 tb [59, 60, 61] [0, 1, 2, 3] [4, 5, 6, 7] ([Blk.mk b17 _ _, Blk.mk b14 _ _, Blk.mk b12 _ _, Blk.mk b9 _ _]) _ mixed (by kernel_rfl) (by repeat (first | exact zs0 _ | exact zs1 _ | apply zs2 | apply zs3 | apply zs4 | apply zs5)) (by (repeat (first | apply List.Sublist.cons (a := Blk.mk b12 _ _) | apply List.Sublist.cons (a := Blk.mk b14 _ _) | apply List.Sublist.cons_cons)); exact List.Sublist.refl _) ?_
   refine yb8ak ?_
   refine yb8ac ?_
   refine yb8ad ?_
   refine DJ3_ql (yv_move (show _ = Value.int _ _ from rfl)) rfl rfl rfl rfl ?_
   refine qba ?_
   refine qbg ?_
   refine yb8ae ?_
   refine qbg ?_
   refine qcg ?_
   refine DJ_nil (seqK_normal (CJ_ret (seqK_ret ?_)))
   refine q_r (L' := (⟨oZ, f.zones.l⟩ : OwL Int).L 3 icell ++ ((⟨oS, f.switches.l⟩ : OwL XSwitch).L 98 XSwitch.cells ++ ((⟨o23, c.l⟩ : OwL XCut).L 93 XCut.cells ++ L))) (R' := _) (res4 rfl (rv_cell (row := [_, _, _, _, _]) tb rfl rfl rfl (by repeat (first | exact zi0 | apply zi1 | apply zi2)) (by rfl) (by rfl)) (rv_tmp (show _ = Value.slice _ _ _ from rfl)) (rv_cell (row := [_, _, _]) tb rfl rfl rfl (by repeat (first | exact zi0 | apply zi1 | apply zi2)) (by rfl) (by rfl)) (rv_tmp (show _ = Value.int _ _ from rfl))) ?_
   exact ⟨r, ⟨o23, c.l⟩, ⟨oS, f.switches.l⟩, ⟨oZ, f.zones.l⟩, f.reply, by rw [he]; rfl, ⟨hok23, hkS, hkZ⟩, closeIs_err he hc1, rfl, hR2⟩
  obtain ⟨hpl, hql, rfl⟩ := hcl (by omega)
  have hce : closeE f.switches.l f.zones.l f.reply (atR f r.zone) t = 0 := by omega
  have he0 : ¬ rcloseE s c.l fl.l r f t ≠ 0 := by omega
  refine qbo ?_
  refine qaa ?_
  refine qab ?_
  refine qac ?_
  refine qab ?_
  refine qac ?_
  refine LJ_q (by first | exact yv_index_ro tb rfl rfl rfl rfl (by first | assumption | exact zr (by simp)) (i := r.zone.toNat) (by first | rfl | omega | (simp; omega)) (by omega) | exact yv_index tb rfl rfl rfl rfl (i := r.zone.toNat) (by first | rfl | omega | (simp; omega)) (by omega)) rfl ?_
  refine qa7 ?_
  refine qbq ?_
  refine qaf ?_
  refine q_c (fun hc2 => ?_) (fun hc2 => ?_)
  ·
   refine qae ?_
   refine yb8ag ?_
   refine qaq ?_
   intro b21
   refine qak ?_
   refine qam ?_
   refine qaa ?_
   refine qab ?_
   refine qcn ?_
   refine qa4 ?_
   refine CJ_drawn2 tb [74, 75] [0, 1, 2] [3, 4, 5, 6] ([Blk.mk b21 _ _, Blk.mk b20 _ _, Blk.mk b14 _ _, Blk.mk b12 _ _]) _ mixed (by kernel_rfl) (by repeat (first | exact zs0 _ | exact zs1 _ | apply zs2 | apply zs3 | apply zs4 | apply zs5)) (by (repeat (first | apply List.Sublist.cons (a := Blk.mk b12 _ _) | apply List.Sublist.cons (a := Blk.mk b14 _ _) | apply List.Sublist.cons_cons)); exact List.Sublist.refl _) ?_
   refine yb8ak ?_
   refine yb8ac ?_
   refine yb8ad ?_
   refine qba ?_
   refine qbg ?_
   refine yb8ae ?_
   refine qbg ?_
   refine qcg ?_
   refine DJ_nil (seqK_normal (CJ_ret (seqK_ret ?_)))
   refine q_r (L' := q.L 3 icell ++ (p.L 98 XSwitch.cells ++ ((⟨o23, c.l⟩ : OwL XCut).L 93 XCut.cells ++ L))) (R' := _) (res4 rfl (rv_cell (row := [_, _, _, _, _]) tb rfl rfl rfl (by repeat (first | exact zi0 | apply zi1 | apply zi2)) (by rfl) (by rfl)) (rv_tmp (show _ = Value.slice _ _ _ from rfl)) (rv_cell (row := [_, _, _]) tb rfl rfl rfl (by repeat (first | exact zi0 | apply zi1 | apply zi2)) (by rfl) (by rfl)) (rv_tmp (show _ = Value.int _ _ from rfl))) ?_
   exact ⟨⟨r.zone, r.first, r.second, r.step, t⟩, ⟨o23, c.l⟩, p, q, f.reply, by rw [he, hce]; rfl, ⟨hok23, hpk, hqk⟩, ⟨by rw [rcloseR, if_neg he0, if_neg (by rw [ownR]; omega)], by rw [rcloseC, if_neg he0, if_neg (by rw [ownR]; omega)], by rw [rcloseSw, if_neg he0, hpl], hql, rfl⟩, rfl, hR2⟩
  refine qbv ?_
  refine qbm ?_
  refine qab ?_
  refine qac ?_
  refine LJ_q (yv_index_ow tb ((⟨o23, c.l⟩ : OwL XCut)) _ rfl rfl rfl rfl (by assumption) (i := r.zone.toNat) (by first | rfl | omega | (simp; omega)) (by first | omega | (dsimp only; omega) | (dsimp only; rw [List.length_set]; omega) | (dsimp only; simp only [List.length_set]; omega))) rfl ?_
  refine qb0 ?_
  refine LJ_g0 (gives_store1_ow tb ((⟨o23, c.l⟩ : OwL XCut)) (⟨false, x.clear, x.reason⟩) rfl rfl rfl rfl (by repeat (first | apply OSeg.cons | exact OSeg.here | exact OSeg.last | exact OSeg.at (by assumption) | apply OSeg.app)) (by assumption) (fun _ => rfl) (by assumption) (by decide) (by rfl) (by rfl)) ?_
  rintro v L' R' ⟨rfl, rfl⟩
  refine qa4 ?_
  have hpc2 := OwL.set_ok (f := XCut.cells) (wd := 3) (p := ⟨o23, c.l⟩) (i := r.zone.toNat) (x := ⟨false, x.clear, x.reason⟩) (fun _ => rfl) hok23
  refine CJ_drawn2 tb [82, 83] [1, 2, 0] [3, 4, 5, 6] ([Blk.mk b20 _ _, Blk.mk b14 _ _, Blk.mk b12 _ _]) _ mixed (by kernel_rfl) (by repeat (first | exact zs0 _ | exact zs1 _ | apply zs2 | apply zs3 | apply zs4 | apply zs5)) (by (repeat (first | apply List.Sublist.cons (a := Blk.mk b12 _ _) | apply List.Sublist.cons (a := Blk.mk b14 _ _) | apply List.Sublist.cons_cons)); exact List.Sublist.refl _) ?_
  refine yb8ac ?_
  refine yb8ad ?_
  refine DJ3_call rfl (None_tri _ _) rfl rfl ?_
  rintro v L' R' ⟨rfl, rfl, rfl⟩
  refine qas ?_
  refine qba ?_
  refine qbg ?_
  refine yb8ae ?_
  refine qbg ?_
  refine qcg ?_
  refine DJ_nil (seqK_normal (CJ_ret ?_))
  refine q_r (L' := q.L 3 icell ++ (p.L 98 XSwitch.cells ++ ((⟨o23, c.l.set r.zone.toNat ⟨false, x.clear, x.reason⟩⟩ : OwL XCut).L 93 XCut.cells ++ L))) (R' := _) (res4 rfl (rv_cell (row := [_, _, _, _, _]) tb rfl rfl rfl (by repeat (first | exact zi0 | apply zi1 | apply zi2)) (by rfl) (by rfl)) (rv_tmp (show _ = Value.slice _ _ _ from rfl)) (rv_cell (row := [_, _, _]) tb rfl rfl rfl (by repeat (first | exact zi0 | apply zi1 | apply zi2)) (by rfl) (by rfl)) (rv_tmp (show _ = Value.int _ _ from rfl))) ?_
  exact ⟨noRest, ⟨o23, c.l.set r.zone.toNat ⟨false, x.clear, x.reason⟩⟩, p, q, f.reply, by simp only [he, hce, OwL.val, List.length_set], ⟨hpc2, hpk, hqk⟩, ⟨by rw [rcloseR, if_neg he0, if_pos (by rw [ownR]; omega)], by rw [rcloseC, if_neg he0, if_pos (by rw [ownR]; omega), ← hx], by rw [rcloseSw, if_neg he0, hpl], hql, rfl⟩, rfl, hR2⟩
end Go.Proofs.Ytkpfjmibipblhaa
end
section
/-
  The values of conditions: cutoff.Values. By an AI agent; no person has read it.
-/
set_option linter.unusedSimpArgs false
set_option linter.unusedVariables false
namespace Go.Proofs.Ytkpfjmibipblhaa
open Go.Aw Go
set_option maxRecDepth 20000
attribute [local irreducible] CJ LJ DJ Tri YV Gives seqK blockK loopK retK RV mergeK OwL.L
end Go.Proofs.Ytkpfjmibipblhaa
end
section
/-
  The states of zones: cutoff.Cuts and the reference's. By an AI agent; no person has read it.
-/
set_option linter.unusedSimpArgs false
set_option linter.unusedVariables false
namespace Go.Proofs.Ytkpfjmibipblhaa
open Go.Aw Go
set_option maxRecDepth 20000
attribute [local irreducible] CJ LJ DJ Tri YV Gives seqK blockK loopK retK RV mergeK OwL.L
end Go.Proofs.Ytkpfjmibipblhaa
end
section
/-
  Raising and lowering: what they leave. By an AI agent; no person has read it.
-/
set_option linter.unusedSimpArgs false
set_option linter.unusedVariables false
namespace Go.Proofs.Ytkpfjmibipblhaa
open Go.Aw Go

section
variable {a : XAir} {s : XSetting} {A : List Bool} {l m : List Int} {k : Nat} {v : Int}
end

end Go.Proofs.Ytkpfjmibipblhaa
end
section
/-
  The bounds of a made air are no greater than a tenth of what is possible. By an AI agent; no person has read it.
-/
set_option linter.unusedSimpArgs false
set_option linter.unusedVariables false
namespace Go.Proofs.Ytkpfjmibipblhaa
open Go.Aw Go

section
variable {a : XAir} {s : XSetting} {x : XState} (h : MadeA a s x)
include h
end
section
variable {a : XAir} {s : XSetting} {x : XState} (h : MadeA a s x)
include h
end
end Go.Proofs.Ytkpfjmibipblhaa
end
section
/-
  Bounds that are drawn near an air. By an AI agent; no person has read it.
-/
set_option linter.unusedSimpArgs false
set_option linter.unusedVariables false
namespace Go.Proofs.Ytkpfjmibipblhaa
open Go.Aw Go
set_option maxRecDepth 20000
attribute [local irreducible] CJ LJ DJ Tri YV Gives seqK blockK loopK retK RV mergeK OwL.L

end Go.Proofs.Ytkpfjmibipblhaa
end
section
/-
  Statements about chapter 11: what accepted bounds prove of a state that fits. By an AI agent; no person has read it.
-/
set_option linter.unusedSimpArgs false
set_option linter.unusedVariables false
namespace Go.Proofs.Ytkpfjmibipblhaa
open Go.Aw Go
set_option maxRecDepth 20000
attribute [local irreducible] CJ LJ DJ Tri YV Gives seqK blockK loopK retK RV mergeK OwL.L

end Go.Proofs.Ytkpfjmibipblhaa
end
section
/-
  The sanity check of chapter 12: a mine with one road is solved. By an AI agent; no person has read it.
-/
set_option linter.unusedSimpArgs false
set_option linter.unusedVariables false
namespace Go.Proofs.Ytkpfjmibipblhaa
open Go.Aw Go

section
variable (b b' : Nat)
end
end Go.Proofs.Ytkpfjmibipblhaa
end
section
/-
  Statements about chapter 12: what they share. By an AI agent; no person has read it.
-/
set_option linter.unusedSimpArgs false
set_option linter.unusedVariables false
namespace Go.Proofs.Ytkpfjmibipblhaa
open Go.Aw Go
set_option maxRecDepth 20000
attribute [local irreducible] CJ LJ DJ Tri YV Gives seqK blockK loopK retK RV mergeK OwL.L

end Go.Proofs.Ytkpfjmibipblhaa
end
section
/-
  Statements about chapter 13: the sanity check. By an AI agent; no person has read it.
-/
set_option linter.unusedSimpArgs false
set_option linter.unusedVariables false
namespace Go.Proofs.Ytkpfjmibipblhaa
open Go.Aw Go
set_option maxRecDepth 20000
attribute [local irreducible] CJ LJ DJ Tri YV Gives seqK blockK loopK retK RV mergeK OwL.L

section
variable (b b' : Nat)
end
end Go.Proofs.Ytkpfjmibipblhaa
end
section
/-
  Statements about chapter 20: the sanity check. By an AI agent; no person has read it.
-/
set_option linter.unusedSimpArgs false
set_option linter.unusedVariables false
namespace Go.Proofs.Ytkpfjmibipblhaa
open Go.Aw Go
set_option maxRecDepth 20000
attribute [local irreducible] CJ LJ DJ Tri YV Gives seqK blockK loopK retK RV mergeK OwL.L
section
variable {s : XSite} {len dl ho : Int} (h : EasyD s len dl ho)
include h
theorem easy_air : airErr s.air = 0 := by
  obtain ⟨h1, h2, h3, h4, h5, h6, h7, _, h8, ⟨h9, h9'⟩, _⟩ := h
  obtain ⟨⟨⟨⟨pa, pc, pl⟩, ⟨ra, rc, rl⟩⟩, ⟨fa, fc, fl⟩, ⟨da, dc, dl⟩⟩, se, cn, zs, ps⟩ := s
  dsimp only at h1 h2 h3 h4
  subst h1 h2 h3 h4
  have : len = 1 ∨ len = 2 ∨ len = 3 ∨ len = 4 := by omega
  rcases this with rfl | rfl | rfl | rfl <;> rfl
theorem easy_ok : SiteOk s := by
  have ha := easy_air h
  obtain ⟨h1, h2, h3, h4, h5, h6, ⟨z, h7, z1, z2, z3, z4⟩, _, h8, hr⟩ := h
  refine ⟨ha, by rw [h5, h6, h7, h8]; simp, fun i hi => ?_, fun c hc => ?_, fun y hy => ?_, fun p hp => ?_⟩
  · rw [h5] at hi ⊢
    obtain rfl : i = 0 := by simp only [List.length_cons, List.length_nil] at hi; omega
    rw [sensAt, if_neg (by decide), if_neg, if_neg (by rintro ⟨k, hk, _⟩; omega)]
    rw [sensOf, h2]
    show ¬ ¬ ((0 : Int) ≤ 0 ∧ (0 : Int) < 1)
    decide
  · rw [h6] at hc
    rw [List.mem_singleton.1 hc, condErr, if_neg, if_neg (by show ¬ ((0 : Int) < 0 ∨ (1099511627776 : Int) < 0); decide), if_pos (by rfl), levelErr, if_pos]
    · show (100 : Int) ≤ 1000000 ∧ (0 : Int) ≤ 60 ∧ (60 : Int) < 100 ∧ 0 ≤ dl ∧ dl ≤ 100000
      omega
    · rw [h5, h2]
      show ¬ (0 : Int) ≠ 0
      decide
  · rw [h7] at hy
    rw [List.mem_singleton.1 hy, zoneErr, z1, h6, h2, if_neg (by show ¬ ruleErr _ 1 ≠ 0; decide), if_neg (by omega), if_neg]
    rintro ⟨i, hi, hb⟩
    rw [z3] at hi hb
    obtain rfl : i = 0 := by simp only [List.length_cons, List.length_nil] at hi; omega
    revert hb
    show ¬ roadBad 1 [0] 0
    decide
  · rw [h8] at hp
    simp only [List.mem_cons, List.not_mem_nil, or_false] at hp
    omega
end
end Go.Proofs.Ytkpfjmibipblhaa
end
section
/-
  Restoring the power of the site with one zone. Plain. By an AI agent; no person has read it.
-/
set_option linter.unusedSimpArgs false
set_option linter.unusedVariables false
namespace Go.Proofs.Ytkpfjmibipblhaa
open Go.Aw Go
section
variable {s : XSite} {len dl ho : Int} (h : EasyD s len dl ho)
include h
theorem easy_shared {t : Int} (ht : 0 ≤ t ∧ t ≤ 2147483648) : sharedE s 1 1 t = 0 := by
  obtain ⟨z, h7, _⟩ := h.zone
  rw [sharedE, (easy_ok h).err, if_neg (by decide), if_neg (by rw [h7, h.roads]; simp), if_neg (by omega)]
theorem easy_ready {cl rs t : Int} {x : XSpan} (hc : 0 ≤ cl) : readyE s [⟨true, cl, rs⟩] [x] 0 t = if t < cl ∨ t - cl < ho then 20 else if 0 < sureS x ∧ 4000 * len ≤ sureS x * (t - cl) then 0 else 20 := by
  obtain ⟨z, h7, z1, z2, z3, z4⟩ := h.zone
  have hr := h.rng
  rw [readyE, if_neg (by simp), h7]
  show readyZ s [x] ⟨true, cl, rs⟩ z t = _
  have hw : roadWait s [x] z (t - cl) 0 ↔ ¬ (0 < sureS x ∧ 4000 * len ≤ sureS x * (t - cl)) := by
    rw [roadWait, h.roads]
    show ¬ AirCh (easyRoad len) x z.fresh (t - cl) ↔ _
    rw [AirCh, z4]
    have hn : needS (easyRoad len) 1 = 4000 * len := by show 1000 * len * 4 * 1 = _; omega
    rw [hn]
    constructor
    · intro h1 h2; exact h1 (.inr h2)
    · rintro h1 (h2 | h2)
      · omega
      · exact h1 h2
  by_cases h1 : t < cl ∨ t - cl < ho
  · rw [if_pos h1, readyZ, if_neg (by simp), if_pos]
    show (cl < 0 ∨ t < cl) ∨ t - cl < z.hold
    omega
  · have h2 : ¬ ((cl < 0 ∨ t < cl) ∨ t - cl < z.hold) := by omega
    rw [if_neg h1]
    by_cases h3 : 0 < sureS x ∧ 4000 * len ≤ sureS x * (t - cl)
    · rw [if_pos h3]
      refine ready_no rfl h2 fun j hj => ?_
      rw [z3] at hj ⊢
      obtain rfl : j = 0 := by simp only [List.length_cons, List.length_nil] at hj; omega
      show ¬ roadWait s [x] z (t - cl) 0
      rw [hw]
      exact fun h => h h3
    · rw [if_neg h3]
      exact ready_yes (r := 0) rfl h2 (by rw [z3]; exact .head _) (hw.2 h3)
theorem easy_ask {c : List XCut} {fl : List XSpan} {t : Int} (hc : c.length = 1) (hf : fl.length = 1) (ht : 0 ≤ t ∧ t ≤ 2147483648) : askE s c fl noRest 0 0 t = readyE s c fl 0 t := by
  rw [askE, hc, hf, easy_shared h ht, if_neg (by decide), if_neg (by decide), if_neg]
  rw [h.pers]; decide
theorem easy_confirm {c : List XCut} {fl : List XSpan} {t0 t : Int} (hc : c.length = 1) (hf : fl.length = 1) (ht : 0 ≤ t ∧ t ≤ 2147483648) : confirmE s c fl ⟨0, 0, -1, 1, t0⟩ 1 t = if t < t0 ∨ t0 < t - 600 then 8 else readyE s c fl 0 t := by
  rw [confirmE, hc, hf, easy_shared h ht, if_neg (by simp), if_neg (by simp), if_neg]
  · rfl
  · rw [BadPair, h.pers]; simp
theorem easy_can {c : List XCut} {fl : List XSpan} {t0 t : Int} {f : XFeeder} (hc : c.length = 1) (hf : fl.length = 1) (ht : 0 ≤ t ∧ t ≤ 2147483648) (hl : ¬ (t < t0 ∨ t0 < t - 600)) (hr : readyE s c fl 0 t = 0) (hfe : feedE f.switches.l f.zones.l f.reply = 0) (hz : f.zones.l.length = 1) : canRE s c fl ⟨0, 0, 1, 2, t0⟩ f t = 0 := by
  obtain ⟨z, h7, _⟩ := h.zone
  rw [canRE, hc, hf, easy_shared h ht, if_neg (by simp), if_neg (by simp), if_neg (show ¬ LateR ⟨0, 0, 1, 2, t0⟩ t from hl)]
  show (if readyE s c fl 0 t ≠ 0 then _ else _) = _
  rw [hr, if_neg (by decide), hfe, if_neg (by decide), h7, if_neg (by rw [hz]; simp), if_neg]
  rintro ⟨k, hk, ⟨h1, _⟩, _⟩
  have : k = 0 := by omega
  exact h1 (by rw [this]; rfl)
end
theorem easy_ready0 {s : XSite} {len dl ho : Int} (h : EasyD s len dl ho) {rs t : Int} (ht : 60 ≤ t) : readyE s [⟨true, 0, rs⟩] [⟨300, 300⟩] 0 t = 0 := by
  have hr := h.rng
  have hs : sureS ⟨300, 300⟩ = 300 := by decide
  rw [easy_ready h (by omega), hs, if_neg (by omega), if_pos (by omega)]
end Go.Proofs.Ytkpfjmibipblhaa
end
