/-
  Assertion-level walks: the steps of a drawn region; slices that are made, built, appended to. By an AI agent; no person has read it.
-/
import Derived.Test.YtimnnhdeicpenaaAwDraw
set_option linter.unusedSimpArgs false
set_option linter.unusedVariables false
namespace Go.Aw
open Go

def pickOps (ops : List Oper) : List Nat → List Oper
  | [] => []
  | i :: l => match ops[i]? with
    | some o => o :: pickOps ops l
    | none => pickOps ops l

def regionOk {P : Program} (tb : Tabs P) (n : Nat) (ops : Array Oper) (plan : List Nat) : Bool :=
  Region.noSelect ops && allocsOk tb n ops && planOk ops (Array.replicate ops.size false) plan && ((List.range ops.size).all fun i => plan.contains i) && plan.all fun i => Nat.blt i ops.size

theorem pick_map (ops : List Oper) : ∀ (plan : List Nat), (∀ i ∈ plan, i < ops.length) → plan.map (ops.toArray[·]?) = (pickOps ops plan).map some
  | [], _ => rfl
  | i :: l, h => by
    have hi := h i (by simp)
    have ih := pick_map ops l fun j hj => h j (by simp [hj])
    simp only [List.map_cons, pickOps, List.getElem?_toArray, List.getElem?_eq_getElem hi]
    congr 1
    simpa using ih

theorem CJ_drawn {P : Program} (tb : Tabs P) {n id : Nat} {ops : List Oper} {t : Nat → Value} {L : List Blk} {R : List Sl} {Q : TPost} (plan : List Nat) (Lc : List Blk) (hm : P.follows .mixedOrders = true) (hB : regionOk tb n ops.toArray plan = true) (hLc : Lc.Sublist L)
    (h : DJ P tb n ops.toArray Lc Q (pickOps ops plan) t L R) : CJ P n (.region id ops.toArray true) t L R Q := by
  simp only [regionOk, Bool.and_eq_true] at hB
  obtain ⟨⟨⟨⟨h1, h2⟩, h3⟩, h4⟩, h5⟩ := hB
  have hlt : ∀ i ∈ plan, i < ops.length := fun i hi => by simpa using List.all_eq_true.1 h5 i hi
  intro c a w hf hs
  refine wp_region_held (S := St c Lc R) hm ?_
  have hlen : plan.length ≤ ops.toArray.size ∨ True := .inr trivial
  refine dj_any (tb := tb) (Lc := Lc) h1 h2 (ops.toArray.size + plan.length) ops.toArray.size plan (pickOps ops plan) (Array.replicate ops.toArray.size false) _ [] t L R a _ (Nat.le_refl _) ?_ (pick_map ops plan hlt) h3 ?_ (fun e he => by cases he) (by simp) ?_ hf ?_ hLc h
  · -- the plan lists each operation once: what is ready is not done
    have key : ∀ (pl : List Nat) (done : Array Bool), planOk ops.toArray done pl = true → pl.Nodup ∧ ∀ i ∈ pl, done.getD i true = false := by
      intro pl
      induction pl with
      | nil => intro _ _; exact ⟨List.nodup_nil, fun i hi => by cases hi⟩
      | cons i pl ih =>
        intro done hp
        simp only [planOk, Bool.and_eq_true] at hp
        obtain ⟨hn, hd⟩ := ih _ hp.2
        have hr : i ∈ Region.ready .any ops.toArray done := by simpa using hp.1.1
        obtain ⟨h0, _⟩ := mem_ready.1 hr
        refine ⟨List.nodup_cons.2 ⟨fun hm => ?_, hn⟩, fun k hk => ?_⟩
        · have := hd i hm
          rcases Nat.lt_or_ge i done.size with h' | h'
          · rw [getD_set_self h'] at this; cases this
          · simp [Array.getElem?_eq_none h'] at h0
        · rcases List.mem_cons.1 hk with rfl | hk
          · exact h0
          · by_cases hik : i = k
            · subst hik; exact h0
            · have := hd k hk
              rwa [getD_set_ne true hik] at this
    have := nodup_sub_len plan (List.range ops.length) (key plan _ h3).1 (fun i hi => List.mem_range.2 (hlt i hi))
    simpa using this
  · exact ⟨by simp, fun i d => by simp, by simp, by simp, List.nodup_nil, List.nodup_nil⟩
  · intro i hi _
    have := List.all_eq_true.1 h4 i (List.mem_range.2 hi)
    simpa using this
  · exact St.drew hs

section
variable {P : Program} {tb : Tabs P} {n : Nat} {all : Array Oper} {Lc : List Blk} {K : TPost} {op : Op} {ty : TypeId} {pos : String} {after : Array Edge} {rest : List Oper} {t : Nat → Value} {L L' : List Blk} {R R' : List Sl} {d : Tmp} {v : Value} {g : Option (Nat × Bool)} {T : TypeId} {x y : Operand}

theorem DJ_nil (h : K .normal t L R) : DJ P tb n all Lc K [] t L R := h

theorem DJ_q (hv : YV P ⟨some d, op, ty, pos, after, g⟩ (ev t) Lc R v) (hk : okind op = 0) (hg : wantT all t g = true) (hd : Nat.blt d n = true) (h : DJ P tb n all Lc K rest (upd t d v) L R) : DJ P tb n all Lc K (⟨some d, op, ty, pos, after, g⟩ :: rest) t L R :=
  ⟨hd, .inr (.inl ⟨hg, hk, v, hv, h⟩)⟩

theorem DJ_skip (hk : Nat.beq (okind op) 1 = false) (hg : wantT all t g = false) (hd : Nat.blt d n = true) (h : DJ P tb n all Lc K rest (upd t d undef) L R) : DJ P tb n all Lc K (⟨some d, op, ty, pos, after, g⟩ :: rest) t L R :=
  ⟨hd, .inl ⟨hg, fun e => by simp [e] at hk, h⟩⟩

theorem DJ_alloc {k m fl bt z} (hT : getT tb.tab T = some ⟨k, m, fl, bt, z⟩) (hd : Nat.blt d n = true)
    (h : ∀ b, DJ P tb n all Lc K rest (upd t d (.pointer (some ⟨b, 0, none⟩))) (⟨b, z, T⟩ :: L) R) : DJ P tb n all Lc K (⟨some d, .alloc T, ty, pos, after, none⟩ :: rest) t L R :=
  ⟨hd, .inr (.inr (.inl ⟨rfl, T, rfl, fun b => by
    have := h b
    have e : zT tb T = z := by simp [zT, hT]
    rw [e]
    exact this⟩))⟩

theorem DJ_g {Post : VPost} (hg : Gives P ⟨some d, op, ty, pos, after, g⟩ (ev t) L R Post) (hk : okind op = 2) (hw : wantT all t g = true) (hd : Nat.blt d n = true)
    (h : ∀ v L' R', Post v L' R' → Lc.Sublist L' ∧ (∀ r ∈ R, InR r R') ∧ DJ P tb n all Lc K rest (upd t d v) L' R') : DJ P tb n all Lc K (⟨some d, op, ty, pos, after, g⟩ :: rest) t L R :=
  ⟨hd, .inr (.inr (.inr ⟨hw, hk, Post, hg, h⟩))⟩

theorem DJ_g0 {Post : VPost} (hg : Gives P ⟨none, op, ty, pos, after, g⟩ (ev t) L R Post) (hk : okind op = 2) (hw : wantT all t g = true)
    (h : ∀ v L' R', Post v L' R' → Lc.Sublist L' ∧ (∀ r ∈ R, InR r R') ∧ DJ P tb n all Lc K rest t L' R') : DJ P tb n all Lc K (⟨none, op, ty, pos, after, g⟩ :: rest) t L R :=
  ⟨rfl, .inr (.inr (.inr ⟨hw, hk, Post, hg, fun v L' R' hp => h v L' R' hp⟩))⟩

theorem DJ_call {f : FuncId} {xs : List Operand} {ts : Array TypeId} {args : List Value} {Post : VPost} (ha : xs.map (ev t) = args) (h : Tri P f args.toArray L R Post) (hw : wantT all t g = true) (hd : Nat.blt d n = true)
    (k : ∀ v L' R', Post v L' R' → Lc.Sublist L' ∧ (∀ r ∈ R, InR r R') ∧ DJ P tb n all Lc K rest (upd t d v) L' R') : DJ P tb n all Lc K (⟨some d, .call ⟨.value (.func f), xs.toArray, ts⟩, ty, pos, after, g⟩ :: rest) t L R :=
  DJ_g (gives_call (by rw [List.map_toArray, ha]) rfl h) rfl hw hd k

theorem DJ_box1 {v : Value} (hx : ev t x = v) (h1 : v.oneCell' = true) (hLc : Lc.Sublist L) (hd : Nat.blt d n = true)
    (h : ∀ b, DJ P tb n all Lc K rest (upd t d (.pointer (some ⟨b, 0, none⟩))) (⟨b, [v], T⟩ :: L) R) : DJ P tb n all Lc K (⟨some d, .box T x, ty, pos, after, none⟩ :: rest) t L R :=
  DJ_g (gives_box1 hx h1) rfl rfl hd fun v L' R' ⟨b, e1, e2, e3⟩ => by subst e1; subst e2; subst e3; exact ⟨hLc.cons _, allR_self _, h b⟩

theorem DJ_boxN {row : List Value} (hx : ev t x = .agg row.toArray) (hLc : Lc.Sublist L) (hd : Nat.blt d n = true)
    (h : ∀ b, DJ P tb n all Lc K rest (upd t d (.pointer (some ⟨b, 0, none⟩))) (⟨b, row, T⟩ :: L) R) : DJ P tb n all Lc K (⟨some d, .box T x, ty, pos, after, none⟩ :: rest) t L R :=
  DJ_g (gives_boxN hx) rfl rfl hd fun v L' R' ⟨b, e1, e2, e3⟩ => by subst e1; subst e2; subst e3; exact ⟨hLc.cons _, allR_self _, h b⟩

theorem DJ_store1 {k m fl bt z b o} {cs cs' : List Value} {v : Value} {T' : TypeId} (hT : getT tb.tab T = some ⟨k, m, fl, bt, z⟩) (hx : ev t x = .pointer (some ⟨b, o, none⟩)) (hy : ev t y = v) (hn : m = 1)
    (hu : Upd1 b cs T' cs' L L') (hfit : Nat.blt o cs.length = true) (hcs : cs.set o v = cs') (h1 : v.oneCell' = true) (hLc : Lc.Sublist L')
    (h : DJ P tb n all Lc K rest t L' R) : DJ P tb n all Lc K (⟨none, .store T x y, ty, pos, after, none⟩ :: rest) t L R :=
  DJ_g0 (gives_store1 tb hT hx hy hn hu hfit hcs h1) rfl rfl fun _ L'' R' ⟨e1, e2⟩ => by subst e1; subst e2; exact ⟨hLc, allR_self _, h⟩

theorem DJ_storeN {k m fl bt z b o} {cs vs cs' : List Value} {T' : TypeId} (hT : getT tb.tab T = some ⟨k, m, fl, bt, z⟩) (hx : ev t x = .pointer (some ⟨b, o, none⟩)) (hy : ev t y = .agg vs.toArray) (hn : vs.length = m)
    (hu : Upd1 b cs T' cs' L L') (hfit : Nat.ble (o + vs.length) cs.length = true) (hcs : cs.take o ++ vs ++ cs.drop (o + vs.length) = cs') (h1 : vs.all (·.oneCell') = true) (hLc : Lc.Sublist L')
    (h : DJ P tb n all Lc K rest t L' R) : DJ P tb n all Lc K (⟨none, .store T x y, ty, pos, after, none⟩ :: rest) t L R :=
  DJ_g0 (gives_storeN tb hT hx hy hn hu hfit hcs h1) rfl rfl fun _ L'' R' ⟨e1, e2⟩ => by subst e1; subst e2; exact ⟨hLc, allR_self _, h⟩

theorem DJ_storeW {k m fl bt z b} {cs vs : List Value} {T' : TypeId} (hT : getT tb.tab T = some ⟨k, m, fl, bt, z⟩) (hx : ev t x = .pointer (some ⟨b, 0, none⟩)) (hy : ev t y = .agg vs.toArray) (hn : vs.length = m)
    (hu : Upd1 b cs T' vs L L') (hfit : vs.length = cs.length) (h1 : vs.all (·.oneCell') = true) (hLc : Lc.Sublist L')
    (h : DJ P tb n all Lc K rest t L' R) : DJ P tb n all Lc K (⟨none, .store T x y, ty, pos, after, none⟩ :: rest) t L R :=
  DJ_storeN hT hx hy hn hu (by simp [hfit]) (by simp [hfit]) h1 hLc h

theorem upd_same {t : Nat → Value} {k : Nat} {v : Value} (h : t k = v) : upd t k v = t := by
  funext i
  unfold upd
  cases hb : Nat.beq i k with
  | false => rfl
  | true => rw [cond_true, Nat.eq_of_beq_eq_true hb]; exact h.symm

/-- a Bool in a slot, both ways -/
theorem DJ_case {os : List Oper} {k : Nat} {b : Bool} (hb : t k = .bool b) (h1 : b = true → DJ P tb n all Lc K os (upd t k (.bool true)) L R) (h2 : b = false → DJ P tb n all Lc K os (upd t k (.bool false)) L R) : DJ P tb n all Lc K os t L R := by
  cases b with
  | true => have := h1 rfl; rwa [upd_same hb] at this
  | false => have := h2 rfl; rwa [upd_same hb] at this
theorem LJ_case {os : List Oper} {k : Nat} {b : Bool} {Q : TPost} (hb : t k = .bool b) (h1 : b = true → LJ P n all os (upd t k (.bool true)) L R Q) (h2 : b = false → LJ P n all os (upd t k (.bool false)) L R Q) : LJ P n all os t L R Q := by
  cases b with
  | true => have := h1 rfl; rwa [upd_same hb] at this
  | false => have := h2 rfl; rwa [upd_same hb] at this
end

/-! ### Slices of the call's own -/

def zrep (z : List Value) : Nat → List Value
  | 0 => []
  | n + 1 => z ++ zrep z n

theorem zrep_length (z : List Value) (n : Nat) : (zrep z n).length = n * z.length := by
  induction n with
  | zero => simp [zrep]
  | succ n ih => simp [zrep, ih, Nat.succ_mul, Nat.add_comm]

theorem zrep_get (z : List Value) (hz : 0 < z.length) : ∀ (n i : Nat), i < n * z.length → (zrep z n)[i]? = z[i % z.length]?
  | 0, i, h => by simp at h
  | n + 1, i, h => by
    simp only [zrep]
    rcases Nat.lt_or_ge i z.length with h' | h'
    · rw [List.getElem?_append_left h', Nat.mod_eq_of_lt h']
    · rw [List.getElem?_append_right h', zrep_get z hz n (i - z.length) (by rw [Nat.succ_mul] at h; omega)]
      rw [Nat.mod_eq_sub_mod h']

theorem made_eq (z : Array Value) (n : Nat) : ((Array.range (n * z.size)).map (z[· % z.size]!)).toList = zrep z.toList n := by
  apply List.ext_getElem?
  intro i
  rcases Nat.lt_or_ge i (n * z.size) with h | h
  · have hz : 0 < z.size := by
      rcases Nat.eq_zero_or_pos z.size with h0 | h0
      · rw [h0] at h; simp at h
      · exact h0
    have hm : i % z.size < z.size := Nat.mod_lt _ hz
    rw [zrep_get z.toList (by simpa using hz) n i (by simpa using h)]
    simp [h, hm]
  · rw [List.getElem?_eq_none (by simpa using h), List.getElem?_eq_none (by rw [zrep_length]; simpa using h)]

def fillS (size : Nat) (cs : List Value) : List (Nat × List Value) → Option (List Value)
  | [] => some cs
  | (i, vs) :: rest => bif Nat.beq vs.length size && Nat.ble (i * size + vs.length) cs.length then fillS size (putAt cs (i * size) vs) rest else none

theorem fillS_eq (size : Nat) : ∀ (parts : List (Nat × Value)) (cs : List Value) (out : List Value),
    fillS size cs (parts.map fun p => (p.1, p.2.cells.toList)) = some out → Instr.fill (fun i => some (i * size, size)) cs.toArray parts = some out.toArray
  | [], cs, out, h => by simp only [List.map_nil, fillS, Option.some.injEq] at h; simp [Instr.fill, h]
  | (i, v) :: rest, cs, out, h => by
    simp only [List.map_cons, fillS] at h
    simp only [Instr.fill]
    cases hb : (Nat.beq v.cells.toList.length size && Nat.ble (i * size + v.cells.toList.length) cs.length) with
    | false => rw [hb] at h; cases h
    | true =>
      rw [hb, cond_true] at h
      simp only [Bool.and_eq_true, Nat.beq_eq, Nat.ble_eq, Array.length_toList] at hb
      have := fillS_eq size rest _ out h
      rw [if_neg (by simp [hb.1]; omega)]
      have hz : (v.cells.zipIdx.foldl (fun cs (c, j) => cs.setIfInBounds (i * size + j) c) cs.toArray) = (putAt cs (i * size) v.cells.toList).toArray := by
        show v.cells.zipIdx.foldl (fun cs (x : Value × Nat) => cs.setIfInBounds (i * size + x.2) x.1) cs.toArray = _
        rw [← Array.foldl_toList]
        have := foldl_put v.cells.toList (i * size) 0 cs.toArray
        simpa using this
      rw [hz]
      exact this

/-- a slice that the call owns -/
inductive Ow where
  | nil
  | own (g cap : Nat) (spare : List Value)

def Ow.val : Ow → Nat → Value
  | .nil, _ => .slice none 0 0
  | .own g cap _, n => .slice (some ⟨g, 0, none⟩) n cap
def Ow.L (e : TypeId) (xs : List Value) : Ow → List Blk
  | .nil => []
  | .own g _ spare => [⟨g, xs ++ spare, e⟩]
def Ow.ok (size : Nat) (xs : List Value) (n : Nat) : Ow → Prop
  | .nil => n = 0 ∧ xs = []
  | .own _ cap spare => xs.length = n * size ∧ n ≤ cap ∧ cap ≤ maxLen ∧ (xs ++ spare).length = cap * size

inductive Seg (X : List Blk) : List Blk → (List Blk → List Blk) → Prop
  | here {B} : Seg X (X ++ B) (fun Y => Y ++ B)
  | cons {x L f} (h : Seg X L f) : Seg X (x :: L) (fun Y => x :: f Y)
  | app {Z L f} (h : Seg X L f) : Seg X (Z ++ L) (fun Y => Z ++ f Y)

theorem Seg.split {X L f} (h : Seg X L f) : ∃ A B, L = A ++ X ++ B ∧ ∀ Y, f Y = A ++ Y ++ B := by
  induction h with
  | @here B => exact ⟨[], B, by simp, fun Y => by simp⟩
  | @cons x L f _ ih => obtain ⟨A, B, h1, h2⟩ := ih; exact ⟨x :: A, B, by simp [h1], fun Y => by simp [h2]⟩
  | @app Z L f _ ih => obtain ⟨A, B, h1, h2⟩ := ih; exact ⟨Z ++ A, B, by simp [h1], fun Y => by simp [h2]⟩

/-- the cells that a slice shows -/
def Shown (L : List Blk) (R : List Sl) (v : Value) (m size : Nat) (news : List Value) : Prop :=
  ∃ a cap, v = .slice (some a) m cap ∧ news.length = m * size ∧ ∀ c w, St c L R w → ∀ j u, news[j]? = some u → w.cell? (a.add j) = some u

theorem shown_own {L : List Blk} {R : List Sl} {b m cap size : Nat} {cs news : List Value} {T : TypeId} (hin : In1 ⟨b, cs, T⟩ L) (hl : news.length = m * size) (hp : cs.take (m * size) = news) : Shown L R (.slice (some ⟨b, 0, none⟩) m cap) m size news := by
  refine ⟨_, _, rfl, hl, fun c w hst j u hj => ?_⟩
  rw [add_none, Nat.zero_add, cell_own hst hin.mem]
  rw [← hp, List.getElem?_take] at hj
  split at hj
  · exact hj
  · cases hj

theorem flatten_get {size : Nat} : ∀ (rows : List (List Value)), (∀ r ∈ rows, r.length = size) → ∀ j, 0 < size → (rows.flatten)[j]? = (rows[j / size]?).bind (·[j % size]?)
  | [], _, j, _ => by simp
  | r :: rows, h, j, hs => by
    have hr := h r (by simp)
    rw [List.flatten_cons]
    rcases Nat.lt_or_ge j size with h' | h'
    · rw [List.getElem?_append_left (by omega), Nat.div_eq_of_lt h', Nat.mod_eq_of_lt h']
      simp
    · rw [List.getElem?_append_right (by omega), hr, flatten_get rows (fun x hx => h x (by simp [hx])) _ hs]
      rw [Nat.mod_eq_sub_mod h', Nat.div_eq_sub_div hs h']
      simp

theorem shown_ro {L : List Blk} {R : List Sl} {ar : Option Addr} {size len cap : Nat} {rows : List (List Value)} {subs : List Sl} (hR : InR (.mk size ar len cap rows subs) R) (hs : 0 < size) (har : ∀ c w, St c L R w → ∃ b off, ar = some ⟨b, off, none⟩)
    (hl : rows.flatten.length = len * size) : (∃ c w, St c L R w) → Shown L R (.slice ar len cap) len size rows.flatten := by
  rintro ⟨c0, w0, h0⟩
  obtain ⟨b, off, ha⟩ := har c0 w0 h0
  subst ha
  refine ⟨_, _, rfl, hl, fun c w hst j u hj => ?_⟩
  rw [add_none]
  have hst' := hst
  obtain ⟨⟨G, hh, hg⟩, ho, hk⟩ := hst
  obtain ⟨r, hr', hsub⟩ := hR
  have hrep := (hh.rep r hr').sub hsub
  cases hrep with
  | mk hl2 hc hm hw hmem hs2 =>
    rw [flatten_get rows hw j hs] at hj
    cases hrow : rows[j / size]? with
    | none => rw [hrow] at hj; cases hj
    | some row =>
      rw [hrow] at hj
      have := cell_ro hst' (wd := size) (len := len) (cap := cap) (i := j / size) (j := j % size) (ar := some ⟨b, off, none⟩) (rows := rows) (subs := subs) ⟨r, hr', hsub⟩ hrow hj
      rw [← this]
      simp only [adB, eo, adO]
      congr 2
      have := Nat.div_add_mod j size
      rw [Nat.mul_comm] at this
      omega

section
variable {P : Program} {ρ : Operand → Value} {L : List Blk} {R : List Sl} {dst : Option Tmp} {ty : TypeId} {pos : String} {after : Array Edge} {guard : Option (Nat × Bool)} (tb : Tabs P) {T : TypeId} {x y : Operand}

theorem gives_buildSlice {e n fl bt z k2 n2 fl2 bt2 z2 len} {ps : List (Nat × Operand)} {qs : List (Nat × List Value)} {out : List Value} (hT : getT tb.tab T = some ⟨.slice e, n, fl, bt, z⟩) (hE : getT tb.tab e = some ⟨k2, n2, fl2, bt2, z2⟩)
    (hn2 : z2.length = n2) (hsz : Nat.ble (len * n2) 16777216 = true) (hpos : Nat.beq (len * n2) 0 = false) (hq : evP ρ ps = qs) (hf : fillS n2 (zrep z2 len) qs = some out) :
    Gives P ⟨dst, .buildSlice T len ps.toArray, ty, pos, after, guard⟩ ρ L R (fun v L' R' => ∃ b, v = .slice (some ⟨b, 0, none⟩) len len ∧ L' = ⟨b, out, e⟩ :: L ∧ R' = R) := by
  intro c w hs a next Q kk
  have hu := under_slice (tb.ok _ _ hT) rfl
  have hsize := run_sizeOf (tb.ok _ _ hE) w
  obtain ⟨zv, hz1, hz2⟩ := run_zeroValue (tb.ok _ _ hE) w
  simp only at hsize hz2
  subst hq
  rw [evP_eq] at hf
  have hzs : zv.cells.size = n2 := by rw [← hn2, ← hz2]; simp
  have hme : ((Array.range (len * n2)).map (zv.cells[· % zv.cells.size]!)) = (zrep z2 len).toArray := by
    have := made_eq zv.cells len
    rw [hz2, hzs] at this
    rw [← this, hzs]
  have hfill := fillS_eq n2 (ps.map fun p => (p.1, ρ p.2)) (zrep z2 len) out hf
  have hmap : (ps.toArray.map fun (p : Nat × Operand) => (p.1, ρ p.2)).toList = ps.map fun p => (p.1, ρ p.2) := by simp
  have h24 : ¬ (len * n2 > 2 ^ 24) := by have := Nat.le_of_ble_eq_true hsz; omega
  have h0 : ¬ (len * n2 = 0) := fun h => by rw [h] at hpos; cases hpos
  have hgoal : (Instr.buildSlice T len (ps.toArray.map fun (p : Nat × Operand) => (p.1, ρ p.2))).run P w = .ok (.slice (some ⟨w.heap.size, 0, none⟩) len len) (w.alloc (.cells out.toArray e)) := by
    unfold Instr.buildSlice
    simp only [Sem.run_bind, run_underlying hu, Result.andThen_ok, hsize]
    rw [if_neg h24, if_neg h0]
    simp only [Sem.run_bind, hz1, Result.andThen_ok, Sem.run_pure, hmap]
    rw [hme, hfill]
    simp [newRow]
  refine upon_value (w' := w.alloc (.cells out.toArray e)) (v := .slice (some ⟨w.heap.size, 0, none⟩) len len) ?_ (kk _ _ _ _ ⟨w.heap.size, rfl, rfl, rfl⟩ (hs.alloc _ _))
  have e1 : execOp ρ ⟨dst, .buildSlice T len ps.toArray, ty, pos, after, guard⟩ = (do pure (.value (← Instr.buildSlice T len (ps.toArray.map fun (p : Nat × Operand) => (p.1, ρ p.2))))) := rfl
  rw [e1]
  simp only [Sem.run_bind, hgoal, Result.andThen_ok, Sem.run_pure]

theorem gives_makeSlice {e n fl bt z k2 n2 fl2 bt2 z2 k3 k4} {m : Nat} {i j : Int} (hT : getT tb.tab T = some ⟨.slice e, n, fl, bt, z⟩) (hE : getT tb.tab e = some ⟨k2, n2, fl2, bt2, z2⟩) (hn2 : z2.length = n2)
    (hx : ρ x = .int k3 i) (hy : ρ y = .int k4 j) (hi : i = (m : Int)) (hj : j = (m : Int)) (hb : bt2 * m ≤ 281474976710656) (hm : m ≤ 9223372036854775807) :
    Gives P ⟨dst, .makeSlice T x y, ty, pos, after, guard⟩ ρ L R (fun v L' R' => ∃ b, v = .slice (some ⟨b, 0, none⟩) m m ∧ L' = ⟨b, zrep z2 m, e⟩ :: L ∧ R' = R) := by
  intro c w hs a next Q kk
  subst hi; subst hj
  have hu := under_slice (tb.ok _ _ hT) rfl
  obtain ⟨ti, u, zv, h1, h2, h3, h4⟩ := facts_parts (tb.ok _ _ hE)
  have hsz : ti.size = n2 := by have := congrArg TI.sz h4; simpa [tiOf] using this.symm
  have hbt : ti.bytes = bt2 := by have := congrArg TI.bt h4; simpa [tiOf] using this.symm
  have hz : zv.cells.toList = z2 := by have := congrArg TI.z h4; simpa [tiOf] using this.symm
  have hzs : zv.cells.size = n2 := by rw [← hn2, ← hz]; simp
  have hb' : (ti.bytes : Int) * (m : Int) ≤ 281474976710656 := by
    rw [hbt, ← Int.natCast_mul]
    omega
  have hr := run_make (P := P) w T e ti zv hu h1 h3 k3 k4 (m : Int) (m : Int) (by omega) (Int.le_refl _) hb' (by omega)
  have hme : madeCells zv.cells ((m : Int).toNat * ti.size) = (zrep z2 m).toArray := by
    have := made_eq zv.cells m
    rw [hz, hzs] at this
    rw [Int.toNat_natCast, hsz, madeCells, ← this, hzs]
  rw [hme, Int.toNat_natCast] at hr
  refine upon_value (w' := w.alloc (.cells (zrep z2 m).toArray e)) (v := .slice (some ⟨w.heap.size, 0, none⟩) m m) ?_ (kk _ _ _ _ ⟨w.heap.size, rfl, rfl, rfl⟩ (hs.alloc _ _))
  simp [execOp, hx, hy, hr]

theorem gives_append {e n fl bt z k2 n2 fl2 bt2 z2} {s : Ow} {xs news : List Value} {len m : Nat} {f : List Blk → List Blk} (hT : getT tb.tab T = some ⟨.slice e, n, fl, bt, z⟩) (hE : getT tb.tab e = some ⟨k2, n2, fl2, bt2, z2⟩) (hn2 : z2.length = n2)
    (hx : ρ x = s.val len) (hok : s.ok n2 xs len) (hseg : Seg (s.L e xs) L f) (hs : Shown L R (ρ y) m n2 news) (hm : 0 < m) (h1 : news.all (·.oneCell') = true) (hlen : len + m ≤ 9223372036854775807) (hby : (len + m) * bt2 ≤ 140737488355328) :
    Gives P ⟨dst, .call ⟨.builtin .append, #[x, y], #[T, T]⟩, ty, pos, after, guard⟩ ρ L R (fun v L' R' => ∃ g cap spare, v = (Ow.own g cap spare).val (len + m) ∧ (Ow.own g cap spare).ok n2 (xs ++ news) (len + m) ∧ L' = f ((Ow.own g cap spare).L e (xs ++ news)) ∧ R' = R) := by
  intro c w hst a next Q kk
  have hu := under_slice (tb.ok _ _ hT) rfl
  obtain ⟨ti, u, zv, i1, i2, i3, i4⟩ := facts_parts (tb.ok _ _ hE)
  have hsz : ti.size = n2 := by have := congrArg TI.sz i4; simpa [tiOf] using this.symm
  have hbt : ti.bytes = bt2 := by have := congrArg TI.bt i4; simpa [tiOf] using this.symm
  have hz : zv.cells.toList = z2 := by have := congrArg TI.z i4; simpa [tiOf] using this.symm
  have hzs : zv.cells.size = n2 := by rw [← hn2, ← hz]; simp
  obtain ⟨ad, cap2, hy, hnl, hcells⟩ := hs
  have hcw := hcells c w hst
  obtain ⟨A, B, hL, hf⟩ := hseg.split
  have hone : ∀ u ∈ news, u.oneCell' = true := List.all_eq_true.1 h1
  have e1 : execOp ρ ⟨dst, .call ⟨.builtin .append, #[x, y], #[T, T]⟩, ty, pos, after, guard⟩ = (do pure (.value (← Builtin.append_ #[T, T] ty #[ρ x, ρ y]))) := by
    simp [execOp, resolve, invoke, builtin]
  have zlen : ∀ k, (Builtin.zeroCells zv.cells k).toList.length = k * n2 := fun k => by rw [Array.length_toList, size_zeroCells, hzs]
  -- the ends of both kinds
  have newEnd : ∀ (old : Nat) (L0 : List Blk), L0 = A ++ B → St c (A ++ B) R w → old < len + m → xs.length = len * n2 →
      (∀ wv : World, wv = w.drew.alloc (.cells (xs.toArray ++ news.toArray ++ Builtin.zeroCells zv.cells (grownCap w (len + m) old e - (len + m))) e) →
        next (a.put dst (.slice (some ⟨w.heap.size, 0, none⟩) (len + m) (grownCap w (len + m) old e))) wv) := by
    intro old L0 hL0 hst0 ho hxl wv hwv
    have hge := grownCap_ge w (len + m) old e
    have hcm : grownCap w (len + m) old e ≤ maxLen := grownCap_le_maxLen w (len + m) old e (by simp only [maxLen]; omega)
    have h2 := (hst0.drew).alloc (xs.toArray ++ news.toArray ++ Builtin.zeroCells zv.cells (grownCap w (len + m) old e - (len + m))) e
    rw [hwv]
    refine kk _ _ R _ ⟨w.heap.size, grownCap w (len + m) old e, (Builtin.zeroCells zv.cells (grownCap w (len + m) old e - (len + m))).toList, rfl, ⟨?_, hge, hcm, ?_⟩, rfl, rfl⟩ ?_
    · rw [List.length_append, hxl, hnl, Nat.add_mul]
    · rw [List.length_append, List.length_append, hxl, hnl, zlen, ← Nat.add_mul, ← Nat.add_mul]
      congr 1; omega
    · rw [hf]
      refine h2.perm ?_
      simp only [Ow.L, World.size_drew, Array.toList_append, List.append_assoc, List.cons_append, List.nil_append]
      exact List.perm_middle.symm
  cases s with
  | nil =>
    obtain ⟨rfl, rfl⟩ := hok
    simp only [Ow.L, List.append_nil] at hL
    have hr := run_append_nil (P := P) w T ty e ti zv hu i1 i3 ad m cap2 news (by rw [hsz]; exact hnl) hcw hm (by omega) (by rw [hbt]; simp only [Nat.zero_add] at hby; omega)
    have hst0 : St c (A ++ B) R w := by rw [← hL]; exact hst
    refine upon_value (w' := _) (v := _) (h := ?_) (k := newEnd 0 _ rfl hst0 (by omega) (by simp) _ rfl)
    rw [e1, hx, hy]
    simp only [Ow.val, Sem.run_bind, hr, Result.andThen_ok, Sem.run_pure, Nat.zero_add]
    simp
  | own g cap spare =>
    obtain ⟨o1, o2, o3, o4⟩ := hok
    have hmem : (⟨g, xs ++ spare, e⟩ : Blk) ∈ L := by rw [hL]; simp [Ow.L]
    have hb : w.heap[g]? = some (.cells (xs ++ spare).toArray e (0, 0)) := by
      obtain ⟨⟨G, hh, _⟩, _, _⟩ := hst
      exact hh.own _ hmem
    by_cases hroom : len + m ≤ cap
    · have hfit : len * ti.size + news.length ≤ (xs ++ spare).toArray.size := by
        rw [hsz, hnl, List.size_toArray, o4, ← Nat.add_mul]; exact Nat.mul_le_mul_right _ hroom
      have hr := run_append_room (P := P) w T ty e ti hu i1 g len cap (xs ++ spare).toArray hb ad m cap2 news (by rw [hsz]; exact hnl) hcw hone hroom hfit
      have hcs : (List.take (len * ti.size) (xs ++ spare).toArray.toList ++ news ++ List.drop (len * ti.size + news.length) (xs ++ spare).toArray.toList) = (xs ++ news) ++ spare.drop news.length := by
        rw [hsz, ← o1]
        simp only [List.take_left', List.append_assoc]
        have h0 : List.drop (xs.length + news.length) xs = [] := List.drop_eq_nil_of_le (by omega)
        have h2 : xs.length + news.length - xs.length = news.length := by omega
        rw [List.drop_append, h0, h2, List.nil_append]
      rw [hcs] at hr
      have hu1 : Upd1 g (xs ++ spare) e ((xs ++ news) ++ spare.drop news.length) L (f ((Ow.own g cap (spare.drop news.length)).L e (xs ++ news))) := by
        rw [hL, hf]
        simp only [Ow.L, List.append_assoc, List.cons_append, List.nil_append]
        exact .app .here
      refine upon_value (w' := _) (v := _) (h := ?_) (k := kk (.slice (some ⟨g, 0, none⟩) (len + m) cap) _ R _ ⟨g, cap, spare.drop news.length, rfl, ⟨?_, hroom, o3, ?_⟩, rfl, rfl⟩ (hst.setRow hu1))
      · rw [e1, hx, hy]
        simp only [Ow.val, Sem.run_bind, hr, Result.andThen_ok, Sem.run_pure]
      · rw [List.length_append, o1, hnl, Nat.add_mul]
      · rw [List.length_append] at o4
        have h5 : (len + m) * n2 ≤ cap * n2 := Nat.mul_le_mul_right _ hroom
        rw [Nat.add_mul, ← o1, ← hnl] at h5
        simp only [List.length_append, List.length_drop]
        omega
    · have holds : ∀ j v, xs[j]? = some v → w.cell? ((⟨g, 0, none⟩ : Addr).add j) = some v := fun j v hj => by
        rw [add_none, Nat.zero_add, cell_own hst hmem]
        rw [List.getElem?_append_left (List.getElem?_eq_some_iff.1 hj).1]
        exact hj
      have hr := run_append_grow (P := P) w T ty e ti zv hu i1 i3 ⟨g, 0, none⟩ len cap xs (by rw [hsz]; exact o1) holds ad m cap2 news (by rw [hsz]; exact hnl) hcw (by omega) (by omega) (growslice_fits (by omega) (by rw [hbt]; exact hby))
      have hst0 : St c (A ++ B) R w := by
        refine hst.weak ?_ (fun r hr => ⟨r, hr, .here⟩)
        rw [hL]
        exact List.Sublist.append (List.sublist_append_left _ _) (List.Sublist.refl _)
      refine upon_value (w' := _) (v := _) (h := ?_) (k := newEnd cap _ rfl hst0 (by omega) o1 _ rfl)
      rw [e1, hx, hy]
      simp only [Ow.val, Sem.run_bind, hr, Result.andThen_ok, Sem.run_pure]
end

/-- a block of the call's own becomes a read-only slice -/
theorem St.frz {c : Ctx} {L : List Blk} {R : List Sl} {w : World} {b : Nat} {cs : List Value} {T : TypeId} {wd len cap : Nat} {rows : List (List Value)} {subs : List Sl} (h : St c (⟨b, cs, T⟩ :: L) R w)
    (hl : rows.length = len) (hc : len ≤ cap) (hm : cap < 9223372036854775808) (hw : ∀ r ∈ rows, r.length = wd) (hp : 0 < wd) (hcs : cs.take (len * wd) = rows.flatten) (hsub : ∀ s ∈ subs, InR s R) :
    St c L (.mk wd (some ⟨b, 0, none⟩) len cap rows subs :: R) w := by
  obtain ⟨⟨G, hh, hg⟩, ho, hk⟩ := h
  have hb := hh.own ⟨b, cs, T⟩ (by simp)
  have hnd := hh.nd
  simp only [List.map_cons, List.nodup_cons] at hnd
  have up : ∀ s, Rep w G s → Rep w (fun x => G x ∨ x = b) s := fun s hs => hs.mono (fun _ h => .inl h) (fun _ _ => rfl)
  have hlt : b < w.heap.size := hh.lt (e := ⟨b, cs, T⟩) (by simp)
  refine ⟨⟨fun x => G x ∨ x = b, ⟨hnd.2, fun e he => hh.own e (by simp [he]), fun e he hx => ?_, fun x hx => ?_, fun r hr => ?_⟩, fun x hx => ?_⟩, fun e he => ho e (by simp [he]), hk⟩
  · rcases hx with hx | hx
    · exact hh.ng e (by simp [he]) hx
    · exact hnd.1 (List.mem_map.2 ⟨e, he, hx⟩)
  · rcases hx with hx | rfl
    · exact hh.gs x hx
    · exact hlt
  · rcases List.mem_cons.1 hr with rfl | hr
    · refine .mk hl hc hm hw ?_ (fun s hs => ?_)
      · refine .inr ⟨b, 0, rfl, .inr rfl, fun i j hi hj => ?_⟩
        have h1 : w.cell? ⟨b, 0 + i * wd + j, none⟩ = cs[i * wd + j]? := by simp [World.cell?, hb]
        rw [h1]
        have h2 : i * wd + j < len * wd := by
          have : (i + 1) * wd ≤ len * wd := Nat.mul_le_mul_right _ hi
          rw [Nat.succ_mul] at this
          omega
        have h3 : cs[i * wd + j]? = rows.flatten[i * wd + j]? := by
          rw [← hcs, List.getElem?_take, if_pos h2]
        rw [h3, flatten_get rows hw _ hp]
        have d1 : (i * wd + j) / wd = i := by
          rw [Nat.mul_comm, Nat.mul_add_div hp, Nat.div_eq_of_lt hj, Nat.add_zero]
        have d2 : (i * wd + j) % wd = j := by
          rw [Nat.mul_comm, Nat.mul_add_mod, Nat.mod_eq_of_lt hj]
        rw [d1, d2]
      · obtain ⟨r, hr, hs2⟩ := hsub s hs
        exact up _ ((hh.rep r hr).sub hs2)
    · exact up _ (hh.rep r hr)
  · rcases hx with hx | rfl
    · exact hg x hx
    · rcases ho ⟨x, cs, T⟩ (by simp) with h | h
      · exact .inr (.inr h)
      · exact .inr (.inl h)

theorem LJ_frz {P : Program} {n : Nat} {all : Array Oper} {ops : List Oper} {t : Nat → Value} {L : List Blk} {R : List Sl} {Q : TPost} {b : Nat} {cs : List Value} {T : TypeId} {wd len cap : Nat} {rows : List (List Value)} {subs : List Sl}
    (hl : rows.length = len) (hc : len ≤ cap) (hm : cap < 9223372036854775808) (hw : ∀ r ∈ rows, r.length = wd) (hp : 0 < wd) (hcs : cs.take (len * wd) = rows.flatten) (hsub : ∀ s ∈ subs, InR s R)
    (h : LJ P n all ops t L (.mk wd (some ⟨b, 0, none⟩) len cap rows subs :: R) Q) : LJ P n all ops t (⟨b, cs, T⟩ :: L) R Q :=
  fun c a w hf hs => h c a w hf (hs.frz hl hc hm hw hp hcs hsub)
theorem CJ_frz {P : Program} {n : Nat} {code : Code} {t : Nat → Value} {L : List Blk} {R : List Sl} {Q : TPost} {b : Nat} {cs : List Value} {T : TypeId} {wd len cap : Nat} {rows : List (List Value)} {subs : List Sl}
    (hl : rows.length = len) (hc : len ≤ cap) (hm : cap < 9223372036854775808) (hw : ∀ r ∈ rows, r.length = wd) (hp : 0 < wd) (hcs : cs.take (len * wd) = rows.flatten) (hsub : ∀ s ∈ subs, InR s R)
    (h : CJ P n code t L (.mk wd (some ⟨b, 0, none⟩) len cap rows subs :: R) Q) : CJ P n code t (⟨b, cs, T⟩ :: L) R Q :=
  fun c a w hf hs => h c a w hf (hs.frz hl hc hm hw hp hcs hsub)
theorem CJ_perm {P : Program} {n : Nat} {code : Code} {t : Nat → Value} {L L' : List Blk} {R : List Sl} {Q : TPost} (hp : L.Perm L') (h : CJ P n code t L' R Q) : CJ P n code t L R Q :=
  fun c a w hf hs => h c a w hf (hs.perm hp)
theorem CJ_weak {P : Program} {n : Nat} {code : Code} {t : Nat → Value} {L L' : List Blk} {R R' : List Sl} {Q : TPost} (hL : L'.Sublist L) (hR : ∀ r ∈ R', InR r R) (h : CJ P n code t L' R' Q) : CJ P n code t L R Q :=
  fun c a w hf hs => h c a w hf (hs.weak hL hR)

end Go.Aw
