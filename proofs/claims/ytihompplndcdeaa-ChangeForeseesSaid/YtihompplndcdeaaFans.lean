/-
  Fans: FanN, FanS, FanW, Pipe, Search, AirS, Inner, Ref09, in one text. By an AI agent; no person has read it.
-/
import Derived.Test.YtihompplndcdeaaChecks
set_option linter.unusedVariables false
set_option linter.unusedSimpArgs false
section
variable {A9 B9:Prop}
theorem J4g (a:A9) (h:A9→B9:=by exact Jax (by first | exact Jaf tb rfl rfl rfl rfl (by first | assumption | exact zr (by simp)) (i:=r.toNat) (by first | rfl | omega | (simp;omega)) (by omega) | exact Jah tb rfl rfl rfl rfl (i:=r.toNat) (by first | rfl | omega | (simp;omega)) (by omega)) rfl):B9:=h a
theorem J51 (a:A9) (h:A9→B9:=by exact Jaz tb [92,93,94,95] [0,1,2,3,4,5,6,7,8,9,10,11,12] [13,14,15] (_) _ Jbh (by kernel_rfl) (by repeat (first | exact zs0 _ | exact zs1 _ | apply zs2 | apply zs3 | apply zs4 | apply zs5)) (by (repeat (first | apply List.Sublist.cons (a:=Blk.mk b13 _ _) | apply List.Sublist.cons_cons));exact List.Sublist.refl _)):B9:=h a
theorem J4n (a:A9) (h:A9→B9:=by exact Jaz tb [132,133,134] [0,1,2,3,4,5,6,7,8,9,10] [11,12,13] (_) _ Jbh (by kernel_rfl) (by repeat (first | exact zs0 _ | exact zs1 _ | apply zs2 | apply zs3 | apply zs4 | apply zs5)) (by (repeat (first | apply List.Sublist.cons (a:=Blk.mk b13 _ _) | apply List.Sublist.cons_cons));exact List.Sublist.refl _)):B9:=h a
end
section
namespace Go.Proofs.Ytihompplndcdeaa
open Go.Aw Go
set_option maxRecDepth 20000
attribute [local irreducible] CJ LJ DJ Tri YV Gives Jdn Jaw Jbk Jdo RV Jay
theorem Jyd (x y:Int) (L:List Blk) (R:List Sl) (hx:0≤x) (hx2:x≤2199023255552) (hy:0≤y) (hy2:y≤4194304):
    Tri Try.prog 102 [.int .u64 x,.int .u64 y].toArray L R (fun v L' R'=>v=.tuple #[.int .u64 0,.int .u64 (x * y)]∧L=L'∧R=R'):=by
  have e1:y % 4294967296=y:=by omega
  have e2:y / 4294967296=0:=by omega
  have b0:0≤x % 4294967296 * y:=Int.mul_nonneg (by omega) hy
  have b1:x % 4294967296 * y≤4294967296 * 4194304:=Int.mul_le_mul (by omega) hy2 hy (by omega)
  have c0:0≤x / 4294967296 * y:=Int.mul_nonneg (by omega) hy
  have c1:x / 4294967296 * y≤512 * 4194304:=Int.mul_le_mul (by omega) hy2 hy (by omega)
  have d0:0≤x * y:=Int.mul_nonneg hx hy
  have d1:x * y≤2199023255552 * 4194304:=Int.mul_le_mul hx2 hy2 hy (by omega)
  refine Jae 51 Try.call102 Try.func102 rfl rfl rfl ?_
  refine Xaf ?_
  refine Xax ?_
  refine Jax (Jnn rfl rfl (by omega) (by omega)) rfl ?_
  refine Xax ?_
  refine Jax (Jki rfl rfl) rfl ?_
  refine Xax ?_
  refine Jax (Jnn rfl rfl (by omega) (by omega)) rfl ?_
  refine Xax ?_
  refine Jax (Jki rfl rfl) rfl ?_
  refine Xb3 ?_
  simp only [e1,e2]
  refine Xbs ?_
  refine Xcc ?_
  refine Xax ?_
  refine Xcc ?_
  refine qaa ?_
  refine Jax (Jki rfl rfl) rfl ?_
  refine qar ?_
  refine Xax ?_
  refine Jax (Jnn rfl rfl (by omega) (by omega)) rfl ?_
  refine Xax ?_
  refine Jax (Jki rfl rfl) rfl ?_
  refine Xai ?_
  iterate 3 refine qaa ?_
  refine qcm ?_
  refine qar ?_
  refine Xax ?_
  refine Xcc ?_
  refine qaa ?_
  refine Xae ?_
  refine Jax (Jki rfl rfl) rfl ?_
  refine qar ?_
  refine Xax ?_
  refine Xcc ?_
  refine Xau ?_
  have key:(x / 4294967296 * y + x % 4294967296 * y / 4294967296) / 4294967296 + (x / 4294967296 * y + x % 4294967296 * y / 4294967296) % 4294967296 / 4294967296=0:=by omega
  refine q_r (L':=L) (R':=R) (Jfb rfl (Jal (show _=Value.int _ _ from rfl)) (Jal (show _=Value.int _ _ from rfl))) ?_
  exact ⟨by simp [key],rfl,rfl⟩
theorem Jye (lo y:Int) (L:List Blk) (R:List Sl) (hx:0≤lo) (hx2:lo≤18446744073709551615) (hy:0 < y) (hy2:y≤18446744073709551615):
    Tri Try.prog 103 [.int .u64 0,.int .u64 lo,.int .u64 y].toArray L R (fun v L' R'=>v=.tuple #[.int .u64 (lo / y),.int .u64 (lo % y)]∧L=L'∧R=R'):=by
  refine Jae 135 Try.call103 Try.func103 rfl rfl rfl ?_
  refine Xaf ?_
  refine Xcm ?_
  refine Xb2 ?_
  refine Jka (show _=Value.bool _ from rfl) (by simp;omega) ?_
  refine qbo ?_
  refine qaa ?_
  refine qaa ?_
  refine qbx ?_
  refine qaf ?_
  refine Jka (show _=Value.bool _ from rfl) (by simp;omega) ?_
  refine qbo ?_
  refine qaa ?_
  refine Xb2 ?_
  refine Jzx (show _=Value.bool _ from rfl) (by simp) ?_
  refine Jan ?_
  refine Ja5 tb [0,1,2,3,4,5,6,7] _ Jbh (by kernel_rfl) (List.Sublist.refl _) ?_
  refine qao ?_
  refine qao ?_
  refine Jbx (by first | exact Jv4 rfl rfl (by omega) (by omega) (by omega) | exact Jzd rfl rfl (by omega) (by omega) (by omega) | exact Jve rfl rfl (by omega)) rfl rfl rfl ?_
  refine qao ?_
  refine qao ?_
  refine Jbx (by first | exact Jy9 rfl rfl (by omega) (by omega) | exact Jx7 rfl rfl (by omega)) rfl rfl rfl ?_
  refine qcg ?_
  refine qcg ?_
  refine Jb8 (Jaa (Jee (Jbg ?_)))
  refine q_r (L':=L) (R':=R) (Jfb rfl (Jal (show _=Value.int _ _ from rfl)) (Jal (show _=Value.int _ _ from rfl))) ?_
  exact ⟨rfl,rfl,rfl⟩
def Jch (a b:XPoint) (q:Int):XSpan:=
  ⟨a.pres - (a.pres - b.pres) * (q - a.flow) / (b.flow - a.flow) - (if 0 < (a.pres - b.pres) * (q - a.flow) % (b.flow - a.flow) then 1 else 0),a.pres - (a.pres - b.pres) * (q - a.flow) / (b.flow - a.flow)⟩
theorem Jt9 (a b:XPoint) (q:Int) (L:List Blk) (R:List Sl) (hp:0≤b.pres∧b.pres≤a.pres∧a.pres≤2199023255552) (hf:-1048576≤a.flow∧a.flow≤q∧q≤b.flow∧a.flow < b.flow∧b.flow≤1048576):
    Tri Try.prog 101 [a.val,b.val,.int .i64 q].toArray L R (fun v L' R'=>v=(Jch a b q).val∧L=L'∧R=R'):=by
  have d0:0≤(a.pres - b.pres) * (q - a.flow):=Int.mul_nonneg (by omega) (by omega)
  have d1:(a.pres - b.pres) * (q - a.flow)≤2199023255552 * 4194304:=Int.mul_le_mul (by omega) (by omega) (by omega) (by omega)
  have d2:0≤(a.pres - b.pres) * (q - a.flow) / (b.flow - a.flow):=Int.ediv_nonneg d0 (by omega)
  have d3:(a.pres - b.pres) * (q - a.flow) / (b.flow - a.flow)≤a.pres - b.pres:=by
    refine Int.ediv_le_of_le_mul (by omega) ?_
    exact Int.mul_le_mul_of_nonneg_left (by omega) (by omega)
  refine Jae 57 Try.call101 Try.func101 rfl rfl rfl ?_
  refine Xaj ?_
  intro b3
  refine qax ?_
  intro b4
  refine qaq ?_
  intro b6
  refine qam ?_
  refine Xa1 ?_
  refine qa9 ?_
  refine qdg ?_
  refine qaa ?_
  refine Xaa ?_
  refine qa9 ?_
  refine qdg ?_
  refine q_l rfl (Jyd _ _ _ _ (by omega) (by omega) (by omega) (by omega)) ?_
  refine Jax (Jap rfl) rfl ?_
  refine Xa6 ?_
  refine qad ?_
  refine Xax ?_
  refine qaa ?_
  refine Xa1 ?_
  refine qa9 ?_
  refine qdg ?_
  refine q_l rfl (Jye _ _ _ _ (by omega) (by omega) (by omega) (by omega)) ?_
  refine Jax (Jap rfl) rfl ?_
  refine Xa6 ?_
  refine qad ?_
  refine Xai ?_
  refine Xah ?_
  refine qdg ?_
  refine qa9 ?_
  refine Xah ?_
  refine qdg ?_
  refine qa9 ?_
  refine qcd ?_
  refine qaq ?_
  intro b11
  refine Xbk ?_
  refine qaa ?_
  refine Xbx ?_
  refine q_c (fun hc0=>?_) (fun hc0=>?_)
  ·
   refine qay ?_
   refine Xaa ?_
   refine Xc6 ?_
   refine qam ?_
   refine Xcs ?_
   refine q_r (L':=L) (R':=R) (Jd4 rfl (Ja0 (row:=[_,_]) tb rfl rfl rfl (by repeat (first | exact zi0 | apply zi1 | apply zi2)) (by rfl) (by rfl))) ?_
   exact ⟨by simp [Jch,XSpan.val,hc0],rfl,rfl⟩
  refine qbv ?_
  refine Xcs ?_
  refine q_r (L':=L) (R':=R) (Jd4 rfl (Ja0 (row:=[_,_]) tb rfl rfl rfl (by repeat (first | exact zi0 | apply zi1 | apply zi2)) (by rfl) (by rfl))) ?_
  exact ⟨by simp [Jch,XSpan.val,hc0],rfl,rfl⟩
end Go.Proofs.Ytihompplndcdeaa
end
section
namespace Go.Proofs.Ytihompplndcdeaa
open Go.Aw Go
structure CurveOk (l:List XPoint):Prop where
  pt:∀(i:Nat) (p:XPoint),l[i]?=some p→-1048576≤p.flow∧p.flow≤1048576∧0≤p.pres∧p.pres≤2199023255552
  st:∀(i:Nat) (p r:XPoint),l[i]?=some p→l[i + 1]?=some r→p.flow < r.flow∧r.pres≤p.pres
structure FanOk (f:XFan):Prop where
  road:0≤f.road
  len1:1≤f.curve.l.length
  len8:f.curve.l.length≤8
  ok:CurveOk f.curve.l
theorem Jz7 {f:XFan} (h:Jfi f=0):FanOk f:=by
  unfold Jfi at h
  split at h
  · cases h
  rename_i h1
  split at h
  · cases h
  rename_i h2
  have hn:(List.range f.curve.l.length).findSome? (Jc8 f.curve.l)=none:=by
    cases hf:(List.range f.curve.l.length).findSome? (Jc8 f.curve.l) with
    | none=>rfl
    | some e=>
      rw [hf] at h
      simp only [Option.getD_some] at h
      subst h
      obtain ⟨i,_,hi⟩:=List.exists_of_findSome?_eq_some hf
      unfold Jc8 at hi
      split at hi
      · cases hi
      · split at hi
        · cases hi
        · split at hi
          · cases hi
          · split at hi
            · cases hi
            · split at hi <;> cases hi
  have hall:∀(i:Nat) (p:XPoint),f.curve.l[i]?=some p→Jc8 f.curve.l i=none:=fun i p hp=>by
    obtain ⟨hi,_⟩:=List.getElem?_eq_some_iff.1 hp
    exact List.findSome?_eq_none_iff.1 hn i (List.mem_range.2 hi)
  have hpt:∀(i:Nat) (p:XPoint),f.curve.l[i]?=some p→-1048576≤p.flow∧p.flow≤1048576∧0≤p.pres∧p.pres≤2199023255552:=fun i p hp=>by
    have:=hall i p hp
    by_cases hr:p.flow < -1048576∨1048576 < p.flow∨p.pres < 0∨2199023255552 < p.pres
    · rw [Jpl hp hr] at this;cases this
    · omega
  refine ⟨by omega,by omega,by omega,hpt,fun i p r hp hr=>?_⟩
  have:=hall (i + 1) r hr
  have b:=hpt _ _ hr
  by_cases hb:r.flow≤p.flow∨p.pres < r.pres
  · rw [Jn8 hr (by omega) (by omega) (by simpa using hp) hb] at this;cases this
  · omega
def Jdp (p : XPoint) : List XPoint → Int → XSpan
  | [],_=>⟨p.pres,p.pres⟩
  | r :: rest,q=>if q≤r.flow then Jch p r q else Jdp r rest q
def Jc6 (l:List XPoint) (q:Int):XSpan:=
  match l with
  | []=>⟨0,0⟩
  | p :: rest=>if q≤p.flow then ⟨p.pres,p.pres⟩ else Jdp p rest q
def J2m (s:XSpan):XSpan:=⟨-s.high,-s.low⟩
def Jdg (l:List XPoint) (back:Bool) (q:Int):XSpan:=if back then J2m (Jc6 l (-q)) else Jc6 l q
def Jb9 (f:XFan) (s q:Int):XSpan:=
  if s=1 then Jdg f.curve.l f.back q else if s=2 then Jdg f.curve.l (!f.back) q
  else if s= -1 then ⟨min (min 0 (Jdg f.curve.l false q).low) (Jdg f.curve.l true q).low,max (max 0 (Jdg f.curve.l false q).high) (Jdg f.curve.l true q).high⟩
  else ⟨0,0⟩
theorem Jjd {a b:XPoint} {q:Int} (hp:0≤b.pres∧b.pres≤a.pres∧a.pres≤2199023255552) (hf:-1048576≤a.flow∧a.flow≤q∧q≤b.flow∧a.flow < b.flow∧b.flow≤1048576):
    b.pres≤(Jch a b q).low∧(Jch a b q).low≤(Jch a b q).high∧(Jch a b q).high≤a.pres:=by
  unfold Jch
  have d0:0≤(a.pres - b.pres) * (q - a.flow):=Int.mul_nonneg (by omega) (by omega)
  have d1:(a.pres - b.pres) * (q - a.flow)≤(a.pres - b.pres) * (b.flow - a.flow):=Int.mul_le_mul_of_nonneg_left (by omega) (by omega)
  generalize (a.pres - b.pres) * (q - a.flow)=N at *
  have hw:0 < b.flow - a.flow:=by omega
  generalize b.flow - a.flow=w at *
  have d2:0≤N / w:=Int.ediv_nonneg d0 (by omega)
  have d3:N / w≤a.pres - b.pres:=Int.ediv_le_of_le_mul hw d1
  have d4:=Int.mul_ediv_add_emod N w
  have d5:0≤N % w:=Int.emod_nonneg _ (by omega)
  dsimp only
  split
  · rename_i hr
    have:N / w < a.pres - b.pres:=by
      rcases Int.lt_or_le (N / w) (a.pres - b.pres) with h | h
      · exact h
      · have e : N / w = a.pres - b.pres := by omega
        rw [e] at d4
        rw [Int.mul_comm] at d4
        omega
    omega
  · omega
theorem Jef:∀(l:List XPoint) (p:XPoint) (q:Int),CurveOk (p :: l)→p.flow≤q→
    0≤(Jdp p l q).low∧(Jdp p l q).low≤(Jdp p l q).high∧(Jdp p l q).high≤p.pres
  | [],p,q,h,_=>by have:=h.pt 0 p rfl;simp only [Jdp];omega
  | r :: rest,p,q,h,hq=>by
    have h0:=h.pt 0 p rfl
    have h1:=h.pt 1 r rfl
    have h2:=h.st 0 p r rfl rfl
    unfold Jdp
    split
    · have := Jjd (a := p) (b := r) (q := q) (by omega) (by omega)
      omega
    · have := Jef rest r q ⟨fun i => h.pt (i + 1), fun i => h.st (i + 1)⟩ (by omega)
      omega
theorem Jfj {l:List XPoint} (h:CurveOk l) (q:Int):0≤(Jc6 l q).low∧(Jc6 l q).low≤(Jc6 l q).high∧(Jc6 l q).high≤2199023255552:=by
  cases l with
  | nil=>simp [Jc6]
  | cons p rest=>
    have h0:=h.pt 0 p rfl
    unfold Jc6
    dsimp only
    split
    · first | omega | (dsimp only;omega)
    · have := Jef rest p q h (by omega)
      omega
theorem Jfl {l:List XPoint} (h:CurveOk l) (back:Bool) (q:Int):-2199023255552≤(Jdg l back q).low∧(Jdg l back q).low≤(Jdg l back q).high∧(Jdg l back q).high≤2199023255552:=by
  have h1:=Jfj h q
  have h2:=Jfj h (-q)
  unfold Jdg J2m
  split <;> first | omega | (dsimp only;omega)
theorem Jd9 {f:XFan} (h:FanOk f) (s q:Int):-2199023255552≤(Jb9 f s q).low∧(Jb9 f s q).low≤(Jb9 f s q).high∧(Jb9 f s q).high≤2199023255552:=by
  have h1:=Jfl h.ok f.back q
  have h2:=Jfl h.ok (!f.back) q
  have h3:=Jfl h.ok false q
  have h4:=Jfl h.ok true q
  unfold Jb9
  split
  · omega
  · split
    · omega
    · split <;> first | omega | (dsimp only;omega)
theorem J1k {a b:Int} (hb:0 < b):(if a.tmod b < 0 then a.tdiv b - 1 else a.tdiv b)=a / b:=by
  have h1:=Int.mul_tdiv_add_tmod a b
  have h2:-b < a.tmod b:=by have:=Int.lt_tmod_of_pos a hb;omega
  have h3:a.tmod b < b:=Int.tmod_lt_of_pos a hb
  split
  · have := (Int.ediv_emod_unique (a := a) (b := b) (q := a.tdiv b - 1) (r := a.tmod b + b) hb).2 ⟨by rw [Int.mul_sub]; omega, by omega, by omega⟩
    exact this.1.symm
  · have := (Int.ediv_emod_unique (a := a) (b := b) (q := a.tdiv b) (r := a.tmod b) hb).2 ⟨by omega, by omega, by omega⟩
    exact this.1.symm
theorem Joi {N w:Int} (hw:0 < w):(-N) / w= -(N / w) - (if 0 < N % w then 1 else 0):=by
  have h1:=Int.mul_ediv_add_emod N w
  have h2:=Int.emod_nonneg N (show w≠0 by omega)
  have h3:=Int.emod_lt_of_pos N hw
  split
  · have := (Int.ediv_emod_unique (a := -N) (b := w) (q := -(N / w) - 1) (r := w - N % w) hw).2 ⟨by rw [Int.mul_sub, Int.mul_neg]; omega, by omega, by omega⟩
    exact this.1
  · have := (Int.ediv_emod_unique (a := -N) (b := w) (q := -(N / w)) (r := 0) hw).2 ⟨by rw [Int.mul_neg]; omega, by omega, by omega⟩
    rw [this.1];omega
theorem Jt4 {a b:XPoint} {q:Int} (hw:a.flow < b.flow):
    (⟨a.pres + (b.pres - a.pres) * (q - a.flow) / (b.flow - a.flow),a.pres + -(-((b.pres - a.pres) * (q - a.flow)) / (b.flow - a.flow))⟩:XSpan)=Jch a b q:=by
  have e:(b.pres - a.pres) * (q - a.flow)= -((a.pres - b.pres) * (q - a.flow)):=by rw [← Int.neg_mul];congr 1;omega
  rw [e,Int.neg_neg,Joi (by omega)]
  unfold Jch
  congr 1 <;> omega
theorem Jhf : ∀ (l : List XPoint) (r pn : XPoint), CurveOk (r :: l) → (r :: l)[l.length]? = some pn → r.flow ≤ pn.flow ∧ (l ≠ [] → r.flow < pn.flow)
  | [],r,pn,_,hn=>by simp at hn;subst hn;exact ⟨Int.le_refl _,fun h=>absurd rfl h⟩
  | s :: l,r,pn,ok,hn=>by
    have hs:=ok.st 0 r s rfl rfl
    have:=Jhf l s pn ⟨fun i=>ok.pt (i + 1),fun i=>ok.st (i + 1)⟩ (by simpa using hn)
    exact ⟨by omega,fun _=>by omega⟩
theorem Jl0 : ∀ (l : List XPoint) (p pn : XPoint) (q : Int), CurveOk (p :: l) → (p :: l)[l.length]? = some pn → pn.flow ≤ q → (l = [] ∨ p.flow < q) → Jdp p l q = ⟨pn.pres, pn.pres⟩
  | [],p,pn,q,_,hn,_,_=>by simp at hn;subst hn;rfl
  | r :: rest,p,pn,q,h,hn,hq,_=>by
    have h2:=h.st 0 p r rfl rfl
    have hn':(r :: rest)[rest.length]?=some pn:=by simpa using hn
    have ok':CurveOk (r :: rest):=⟨fun i=>h.pt (i + 1),fun i=>h.st (i + 1)⟩
    have hle:=Jhf rest r pn ok' hn'
    unfold Jdp
    split
    · rename_i hqr
      have hre:rest=[]:=by
        rcases rest with _ | ⟨s,rest⟩
        · rfl
        · have:=hle.2 (by simp);omega
      subst hre
      simp at hn';subst hn'
      have hqe:q=r.flow:=by omega
      subst hqe
      unfold Jch
      have hw:0 < r.flow - p.flow:=by omega
      rw [Int.mul_ediv_cancel _ (by omega),Int.mul_emod_left]
      simp
      omega
    · exact Jl0 rest r pn q ok' hn' hq (.inr (by omega))
theorem Jut {l:List XPoint} (h:CurveOk l) (h1:1≤l.length) {pn:XPoint} (hn:l[l.length - 1]?=some pn) (q:Int) (hq:pn.flow≤q):Jc6 l q=⟨pn.pres,pn.pres⟩:=by
  cases l with
  | nil=>simp at h1
  | cons p rest=>
    have hn':(p :: rest)[rest.length]?=some pn:=by simpa using hn
    unfold Jc6
    dsimp only
    split
    · rename_i hp
      have hre:rest=[]:=by
        rcases rest with _ | ⟨s,rest⟩
        · rfl
        · exfalso
          have h2:=h.st 0 p s rfl rfl
          have:=Jhf rest s pn ⟨fun i=>h.pt (i + 1),fun i=>h.st (i + 1)⟩ (by simpa using hn')
          omega
      subst hre
      simp at hn';subst hn';rfl
    · exact Jl0 rest p pn q h hn' hq (.inr (by omega))
theorem Jpt : ∀ (l : List XPoint) (p0 : XPoint) (k : Nat) (p r : XPoint) (q : Int), CurveOk (p0 :: l) → (p0 :: l)[k]? = some p → (p0 :: l)[k + 1]? = some r → p.flow ≤ q → q < r.flow → p0.flow < q → Jdp p0 l q = Jch p r q
  | [],p0,k,p,r,q,_,_,hr,_,_,_=>by simp at hr
  | s :: rest,p0,0,p,r,q,h,hp,hr,h1,h2,h3=>by
    simp at hp hr;subst hp;subst hr
    unfold Jdp
    rw [if_pos (by omega)]
  | s :: rest,p0,k + 1,p,r,q,h,hp,hr,h1,h2,h3=>by
    have ok':CurveOk (s :: rest):=⟨fun i=>h.pt (i + 1),fun i=>h.st (i + 1)⟩
    have h4:=h.st 0 p0 s rfl rfl
    have hp':(s :: rest)[k]?=some p:=by simpa using hp
    have hr':(s :: rest)[k + 1]?=some r:=by simpa using hr
    have hr2:=ok'.st k p r hp' hr'
    unfold Jdp
    split
    · rename_i hqs
      -- then the point at k is this one, and the flow is its own
      have mono:∀(j:Nat) (x y:XPoint),(s :: rest)[0]?=some x→(s :: rest)[j]?=some y→x.flow + j≤y.flow:=by
        intro j
        induction j with
        | zero=>intro x y hx hy;rw [hx] at hy;cases hy;omega
        | succ j ih=>
          intro x y hx hy
          obtain ⟨hj,_⟩:=List.getElem?_eq_some_iff.1 hy
          obtain ⟨z,hz⟩:=Jar (l:=s :: rest) (k:=j) (by omega)
          have:=ih x z hx hz
          have:=ok'.st j z y hz hy
          omega
      have hm:=mono k s p rfl hp'
      have hk:k=0:=by omega
      subst hk
      simp at hp';subst hp'
      have hqe:q=s.flow:=by omega
      subst hqe
      have hpr:=ok'.pt 0 s rfl
      unfold Jch
      have hw:0 < s.flow - p0.flow:=by omega
      rw [Int.mul_ediv_cancel _ (by omega),Int.mul_emod_left,Int.sub_self,Int.mul_zero,Int.zero_ediv,Int.zero_emod]
      simp
      omega
    · exact Jpt rest s k p r q ok' hp' hr' h1 h2 (by omega)
theorem Jy5 {l:List XPoint} (h:CurveOk l) {k:Nat} {p r:XPoint} {q:Int} (hp:l[k]?=some p) (hr:l[k + 1]?=some r) (h1:p.flow≤q) (h2:q < r.flow):Jc6 l q=Jch p r q:=by
  cases l with
  | nil=>simp at hp
  | cons p0 rest=>
    unfold Jc6
    dsimp only
    split
    · rename_i hq
      have mono:∀(j:Nat) (y:XPoint),(p0 :: rest)[j]?=some y→p0.flow + j≤y.flow:=by
        intro j
        induction j with
        | zero=>intro y hy;simp at hy;subst hy;omega
        | succ j ih=>
          intro y hy
          obtain ⟨hj,_⟩:=List.getElem?_eq_some_iff.1 hy
          obtain ⟨z,hz⟩:=Jar (l:=p0 :: rest) (k:=j) (by omega)
          have:=ih z hz
          have:=h.st j z y hz hy
          omega
      have hm:=mono k p hp
      have hk:k=0:=by omega
      subst hk
      simp at hp;subst hp
      have hqe:q=p0.flow:=by omega
      subst hqe
      unfold Jch
      rw [Int.sub_self,Int.mul_zero,Int.zero_ediv,Int.zero_emod]
      simp
    · exact Jpt rest p0 k p r q h hp hr h1 h2 (by omega)
end Go.Proofs.Ytihompplndcdeaa
end
section
namespace Go.Proofs.Ytihompplndcdeaa
open Go.Aw Go
set_option maxRecDepth 20000
attribute [local irreducible] CJ LJ DJ Tri YV Gives Jdn Jaw Jbk Jdo RV Jay
theorem Jsi (f:XFan) (q:Int) (L:List Blk) (R:List Sl) (hm:InR f.sl R) (hf:FanOk f) (hq:-1048577≤q∧q≤1048577):
    Tri Try.prog 100 [f.val,.int .i64 q].toArray L R (fun v L' R'=>v=(Jc6 f.curve.l q).val∧L=L'∧R=R'):=by
  have hl1:=hf.len1
  have hl8:=hf.len8
  obtain ⟨p0,hp0⟩:=Jar (l:=f.curve.l) (k:=0) (by omega)
  obtain ⟨pn,hpn⟩:=Jar (l:=f.curve.l) (k:=f.curve.l.length - 1) (by omega)
  refine Jae 62 Try.call100 Try.func100 rfl rfl rfl ?_
  refine Xaj ?_
  intro b2
  refine qaq ?_
  intro b4
  refine qa4 ?_
  refine Ja5 tb [0,1,2,3,4,5,6,7,8,9,10,11,12,13,14,15] _ Jbh (by kernel_rfl) (List.Sublist.refl _) ?_
  refine Xad ?_
  refine qdu ?_
  refine qdo ?_
  refine Xad ?_
  refine Xad ?_
  refine Jbx (Jew tb rfl rfl rfl) rfl rfl rfl ?_
  refine qb7 ?_
  refine Jbx (by first | exact Jaf tb rfl rfl rfl rfl (by first | assumption | exact zr (by simp)) (i:=f.curve.l.length - 1) (by first | rfl | omega | (simp;omega)) (by omega) | exact Jah tb rfl rfl rfl rfl (i:=f.curve.l.length - 1) (by first | rfl | omega | (simp;omega)) (by omega)) rfl rfl rfl ?_
  refine qdo ?_
  refine qbr ?_
  intro b5
  refine qbr ?_
  intro b6
  refine qbg ?_
  refine qbg ?_
  refine qc6 ?_
  refine qaa ?_
  refine Xaa ?_
  refine qbx ?_
  refine qaf ?_
  refine q_c (fun hc0=>?_) (fun hc0=>?_)
  ·
   refine qae ?_
   refine Xa1 ?_
   refine qcd ?_
   refine qak ?_
   refine qbh ?_
   obtain ⟨rest,hrest⟩:∃rest,f.curve.l=p0 :: rest:=⟨_,by have:=Jd2 hp0;simpa using this⟩
   refine q_r (L':=L) (R':=R) (Jd4 rfl (Ja0 (row:=[_,_]) tb rfl rfl rfl (by repeat (first | exact zi0 | apply zi1 | apply zi2)) (by rfl) (by rfl))) ?_
   exact ⟨by rw [hrest];simp only [Jc6,if_pos hc0],rfl,rfl⟩
  refine Xcq ?_
  refine Jag [(1,Value.int _ _),(2,Value.pointer _),(4,Value.pointer _),(6,Value.pointer _),(7,Value.int _ _)] (by repeat' (first | exact trivial | refine And.intro rfl ?_)) fun tq0=>?_
  refine q_s [7,29,30,31,32,33,34,35,36,37,38,39,40,41,42,43,44,45,46,47,48,49,50,51,52,53,54,55,56] (fun g:{k:Nat // 1≤k∧k≤f.curve.l.length∧∃p,f.curve.l[k - 1]?=some p∧p.flow < q∧Jc6 f.curve.l q=Jdp p (f.curve.l.drop k) q}=>[(7,.int .i64 ((g.1:Nat):Int))]) (fun g=>f.curve.l.length - g.1) (⟨1,by omega,by omega,p0,hp0,by omega,by have h:=Jd2 hp0;simp only [List.drop_zero,Nat.zero_add] at h;rw [h];simp only [Jc6,if_neg hc0,List.drop_one,List.tail_cons]⟩) ?_
  rintro ⟨k,hk1,hk2,p,hp,hpq,hs⟩ junk
  try dsimp only
  refine Xbq ?_
  refine q_c (fun hc1=>?_) (fun hc1=>?_)
  ·
   obtain ⟨r,hr⟩:=Jar (l:=f.curve.l) (k:=k) (by omega)
   have hb1:=hf.ok.pt _ _ hp
   have hb2:=hf.ok.pt _ _ hr
   have hb3:=hf.ok.st (k - 1) p r hp (by rw [show k - 1 + 1=k by omega];exact hr)
   rw [Jd2 hr] at hs
   simp only [Jdp] at hs
   refine Xa8 ?_
   refine Xah ?_
   refine qa3 ?_
   refine Xbc ?_
   refine qbx ?_
   refine qaf ?_
   refine q_c (fun hc2=>?_) (fun hc2=>?_)
   ·
    refine Jan ?_
    refine Jaz tb [] [0,1,2,3,4,5,6,7,8,9,10,11,12] [13] (_) _ Jbh (by kernel_rfl) (by repeat (first | exact zs0 _ | exact zs1 _ | apply zs2 | apply zs3 | apply zs4 | apply zs5)) (by (repeat (first | apply List.Sublist.cons (a:=Blk.mk b4 _ _) | apply List.Sublist.cons_cons));exact List.Sublist.refl _) ?_
    refine Xba ?_
    refine qcc ?_
    refine Jb1 (by first | exact Jaf tb rfl rfl rfl rfl (by first | assumption | exact zr (by simp)) (i:=k - 1) (by first | rfl | omega | (simp;omega)) (by omega) | exact Jah tb rfl rfl rfl rfl (i:=k - 1) (by first | rfl | omega | (simp;omega)) (by omega)) rfl rfl rfl rfl ?_
    refine qd1 ?_
    refine Xba ?_
    refine qc5 ?_
    refine qd1 ?_
    refine qbf ?_
    refine Jbt rfl (Jt9 p r q _ _ (by omega) (by omega)) rfl rfl ?_
    rintro v L' R' ⟨rfl,rfl,rfl⟩
    refine qas ?_
    refine qba ?_
    refine qbg ?_
    refine Jb8 (Jaa (Jee (Ja6 (Jbg (Jdb (Ja6 (Jbg ?_)))))))
    refine q_r (L':=L) (R':=R) (Jd4 rfl (Ja0 (row:=[_,_]) tb rfl rfl rfl (by repeat (first | exact zi0 | apply zi1 | apply zi2)) (by rfl) (by rfl))) ?_
    exact ⟨by rw [hs,if_pos hc2],rfl,rfl⟩
   refine Xbg ?_
   exact q_k (⟨k + 1,by omega,by omega,r,by simpa using hr,by omega,by rw [hs,if_neg hc2]⟩)
  obtain rfl:k=f.curve.l.length:=by omega
  obtain rfl:p=pn:=by rw [hp] at hpn;exact Option.some.inj hpn
  rw [List.drop_eq_nil_of_le (Nat.le_refl _)] at hs
  refine qbk ?_
  refine Xa1 ?_
  refine qcd ?_
  refine Xbp ?_
  refine q_r (L':=L) (R':=R) (Jd4 rfl (Ja0 (row:=[_,_]) tb rfl rfl rfl (by repeat (first | exact zi0 | apply zi1 | apply zi2)) (by rfl) (by rfl))) ?_
  exact ⟨by rw [hs];rfl,rfl,rfl⟩
theorem Jk0 (f:XFan) (back:Bool) (q:Int) (L:List Blk) (R:List Sl) (hm:InR f.sl R) (hf:FanOk f) (hq:-1048577≤q∧q≤1048577):
    Tri Try.prog 99 [f.val,.bool back,.int .i64 q].toArray L R (fun v L' R'=>v=(Jdg f.curve.l back q).val∧L=L'∧R=R'):=by
  have hb1:=Jfj hf.ok (-q)
  refine Jae 24 Try.call99 Try.func99 rfl rfl rfl ?_
  refine Xaj ?_
  intro b3
  refine qaq ?_
  intro b6
  refine qaw ?_
  refine qah ?_
  refine Xbu ?_
  refine q_c (fun hc0=>?_) (fun hc0=>?_)
  ·
   refine qae ?_
   refine qa8 ?_
   refine qaa ?_
   refine q_l rfl (Jsi f q _ _ hm hf hq) ?_
   refine qak ?_
   refine qbh ?_
   refine q_r (L':=L) (R':=R) (Jd4 rfl (Ja0 (row:=[_,_]) tb rfl rfl rfl (by repeat (first | exact zi0 | apply zi1 | apply zi2)) (by rfl) (by rfl))) ?_
   exact ⟨by simp [Jdg,hc0],rfl,rfl⟩
  refine qbv ?_
  refine qa8 ?_
  refine qaa ?_
  refine qcq ?_
  refine q_l rfl (Jsi f (-q) _ _ hm hf (by omega)) ?_
  refine qaq ?_
  intro b7
  refine Xcd ?_
  refine qcq ?_
  refine Xaa ?_
  refine qcq ?_
  refine qcd ?_
  refine Xbp ?_
  refine q_r (L':=L) (R':=R) (Jd4 rfl (Ja0 (row:=[_,_]) tb rfl rfl rfl (by repeat (first | exact zi0 | apply zi1 | apply zi2)) (by rfl) (by rfl))) ?_
  exact ⟨by simp [Jdg,hc0,J2m],rfl,rfl⟩
theorem Jvp (f:XFan) (s q:Int) (L:List Blk) (R:List Sl) (hm:InR f.sl R) (hf:FanOk f) (hq:-1048577≤q∧q≤1048577):
    Tri Try.prog 94 [f.val,.int .i64 s,.int .i64 q].toArray L R (fun v L' R'=>v=(Jb9 f s q).val∧L=L'∧R=R'):=by
  refine Jae 45 Try.call94 Try.func94 rfl rfl rfl ?_
  refine Xaj ?_
  intro b3
  refine qaq ?_
  intro b6
  refine qaw ?_
  refine qaa ?_
  refine Jbr (Jaa (Ja9 (Jan (Jaj ?_))))
  refine qbn ?_
  refine Xbt ?_
  refine q_c (fun hc0=>?_) (fun hc0=>?_)
  ·
   refine qae ?_
   refine qa8 ?_
   refine Xah ?_
   refine q_l rfl (Jk0 f f.back q _ _ hm hf hq) ?_
   refine qak ?_
   refine qdb ?_
   refine q_r (L':=L) (R':=R) (Jd4 rfl (Ja0 (row:=[_,_]) tb rfl rfl rfl (by repeat (first | exact zi0 | apply zi1 | apply zi2)) (by rfl) (by rfl))) ?_
   exact ⟨by rw [Jb9,if_pos hc0],rfl,rfl⟩
  refine qae ?_
  refine qbn ?_
  refine Xbt ?_
  refine q_c (fun hc1=>?_) (fun hc1=>?_)
  ·
   refine qae ?_
   refine qa8 ?_
   refine Xaa ?_
   refine qb4 ?_
   refine qaa ?_
   refine q_l rfl (Jk0 f (!f.back) q _ _ hm hf hq) ?_
   refine qak ?_
   refine qdb ?_
   refine q_r (L':=L) (R':=R) (Jd4 rfl (Ja0 (row:=[_,_]) tb rfl rfl rfl (by repeat (first | exact zi0 | apply zi1 | apply zi2)) (by rfl) (by rfl))) ?_
   exact ⟨by rw [Jb9,if_neg hc0,if_pos hc1],rfl,rfl⟩
  refine qae ?_
  refine qbn ?_
  refine Xbt ?_
  refine q_c (fun hc2=>?_) (fun hc2=>?_)
  ·
   refine Jan ?_
   refine Ja5 tb [0,1,3,4,2,5,6,7,8,9] _ Jbh (by kernel_rfl) (List.Sublist.refl _) ?_
   refine qbc ?_
   refine qao ?_
   refine qbc ?_
   refine qao ?_
   refine q_d rfl (Jk0 f false q _ _ hm hf hq) ?_
   refine q_d rfl (Jk0 f true q _ _ hm hf hq) ?_
   refine qbr ?_
   intro b7
   refine qbr ?_
   intro b8
   refine qbg ?_
   refine qbg ?_
   refine Jb8 (Jaa (Jan (Jaj ?_)))
   refine Xa1 ?_
   refine Jax (Jyt rfl rfl rfl) rfl ?_
   refine Xa1 ?_
   refine Jax (Jyu rfl rfl rfl) rfl ?_
   refine qcd ?_
   refine qak ?_
   refine qdb ?_
   refine q_r (L':=L) (R':=R) (Jd4 rfl (Ja0 (row:=[_,_]) tb rfl rfl rfl (by repeat (first | exact zi0 | apply zi1 | apply zi2)) (by rfl) (by rfl))) ?_
   exact ⟨by rw [Jb9,if_neg hc0,if_neg hc1,if_pos hc2],rfl,rfl⟩
  refine Ja4 (Ja7 (Jaa (Jan (Jaj ?_))))
  refine qck ?_
  refine Xbp ?_
  refine q_r (L':=L) (R':=R) (Jd4 rfl (Ja0 (row:=[_,_]) tb rfl rfl rfl (by repeat (first | exact zi0 | apply zi1 | apply zi2)) (by rfl) (by rfl))) ?_
  exact ⟨by rw [Jb9,if_neg hc0,if_neg hc1,if_neg hc2],rfl,rfl⟩
theorem Js0 (a b:Int) (L:List Blk) (R:List Sl) (ha:-9223372036854775807≤a∧a≤9223372036854775807) (hb:0 < b∧b≤9223372036854775807):
    Tri Try.prog 97 [.int .i64 a,.int .i64 b].toArray L R (fun v L' R'=>v=.int .i64 (a / b)∧L=L'∧R=R'):=by
  have hfl:=J1k (a:=a) hb.1
  have hc:-9223372036854775807≤a / b∧a / b≤9223372036854775807:=by
    rcases Int.lt_or_le a 0 with h | h
    · have h1 : a / b ≤ 0 := Int.ediv_nonpos_of_nonpos_of_neg (by omega) hb.1
      have h2:a≤a / b:=by
        refine Int.le_ediv_of_mul_le hb.1 ?_
        have:=Int.mul_le_mul_of_nonpos_left (a:=a) (b:=b) (c:=1) (by omega) (by omega)
        omega
      omega
    · have h1 := Int.ediv_nonneg h (show 0 ≤ b by omega)
      have h2:=Int.ediv_le_self b h
      omega
  have hd:-9223372036854775807≤a.tdiv b∧a.tdiv b≤9223372036854775807:=by
    split at hfl
    · constructor
      · omega
      · have h1 := Int.mul_tdiv_add_tmod a b
        rename_i h
        have:a < 0:=by
          rcases Int.lt_or_le a 0 with h' | h'
          · exact h'
          · have:=Int.tmod_nonneg b h';omega
        have h3:a / b≤0:=Int.ediv_nonpos_of_nonpos_of_neg (by omega) hb.1
        omega
    · omega
  refine Jae 16 Try.call97 Try.func97 rfl rfl rfl ?_
  refine Xaf ?_
  refine qam ?_
  refine qaa ?_
  refine qaa ?_
  refine qdd ?_
  refine Xcm ?_
  refine qaa ?_
  refine qda ?_
  refine Xan ?_
  refine q_c (fun hc0=>?_) (fun hc0=>?_)
  ·
   rw [if_pos hc0] at hfl
   refine Xbs ?_
   refine qa9 ?_
   refine Xax ?_
   refine Xau ?_
   refine q_i (L':=L) (R':=R) ?_
   exact ⟨by rw [hfl],rfl,rfl⟩
  rw [if_neg hc0] at hfl
  refine qbv ?_
  refine qaa ?_
  refine Xau ?_
  refine q_i (L':=L) (R':=R) ?_
  exact ⟨by rw [hfl],rfl,rfl⟩
theorem J0g (a b:Int) (L:List Blk) (R:List Sl) (ha:-9223372036854775807≤a∧a≤9223372036854775807) (hb:0 < b∧b≤9223372036854775807) (hq:-9223372036854775807≤(-a) / b∧(-a) / b≤9223372036854775807):
    Tri Try.prog 98 [.int .i64 a,.int .i64 b].toArray L R (fun v L' R'=>v=.int .i64 (-((-a) / b))∧L=L'∧R=R'):=by
  refine Jae 10 Try.call98 Try.func98 rfl rfl rfl ?_
  refine Xaf ?_
  refine qam ?_
  refine qaa ?_
  refine qcq ?_
  refine qaa ?_
  refine q_l rfl (Js0 (-a) b _ _ (by omega) hb) ?_
  refine qcq ?_
  refine Xau ?_
  refine q_i (L':=L) (R':=R) ?_
  exact ⟨rfl,rfl,rfl⟩
theorem Js1 (f:XFan) (q:Int) (L:List Blk) (R:List Sl) (hm:InR f.sl R) (hf:FanOk f) (hq:-1048577≤q∧q≤1048577):
    Tri Try.prog 85 [f.val,.int .i64 q].toArray L R (fun v L' R'=>v=(Jc6 f.curve.l q).val∧L=L'∧R=R'):=by
  have hl1:=hf.len1
  have hl8:=hf.len8
  obtain ⟨p0,hp0⟩:=Jar (l:=f.curve.l) (k:=0) (by omega)
  obtain ⟨pn,hpn⟩:=Jar (l:=f.curve.l) (k:=f.curve.l.length - 1) (by omega)
  have hcl:=Jut hf.ok (by omega) hpn
  have hc0':q≤p0.flow→Jc6 f.curve.l q=⟨p0.pres,p0.pres⟩:=fun h=>by
    have h':=Jd2 hp0
    simp only [List.drop_zero,Nat.zero_add] at h'
    rw [h'];simp only [Jc6,if_pos h]
  refine Jae 106 Try.call85 Try.func85 rfl rfl rfl ?_
  refine Xaj ?_
  intro b2
  refine qaq ?_
  intro b4
  refine qam ?_
  refine Xab ?_
  refine Xcm ?_
  refine Xaa ?_
  refine qdt ?_
  refine Xbc ?_
  refine qbx ?_
  refine qaf ?_
  refine q_c (fun hc0=>?_) (fun hc0=>?_)
  ·
   refine Jan ?_
   refine Jaz tb [] [0,1,2,3,4,5,6,7,8,9,10] [11] (_) _ Jbh (by kernel_rfl) (by repeat (first | exact zs0 _ | exact zs1 _ | apply zs2 | apply zs3 | apply zs4 | apply zs5)) (by (repeat (first | apply List.Sublist.cons (a:=Blk.mk b4 _ _) | apply List.Sublist.cons_cons));exact List.Sublist.refl _) ?_
   refine Xac ?_
   refine qd2 ?_
   refine qcv ?_
   refine qci ?_
   refine Xac ?_
   refine qd2 ?_
   refine qcv ?_
   refine qci ?_
   refine qcw ?_
   refine qba ?_
   refine qbg ?_
   refine Jb8 (Jaa (Jee (Jbg ?_)))
   refine q_r (L':=L) (R':=R) (Jd4 rfl (Ja0 (row:=[_,_]) tb rfl rfl rfl (by repeat (first | exact zi0 | apply zi1 | apply zi2)) (by rfl) (by rfl))) ?_
   exact ⟨by rw [hc0' hc0],rfl,rfl⟩
  refine qbo ?_
  refine qaa ?_
  refine Xah ?_
  refine qa9 ?_
  refine Jax (by first | exact Jaf tb rfl rfl rfl rfl (by first | assumption | exact zr (by simp)) (i:=f.curve.l.length - 1) (by first | rfl | omega | (simp;omega)) (by omega) | exact Jah tb rfl rfl rfl rfl (i:=f.curve.l.length - 1) (by first | rfl | omega | (simp;omega)) (by omega)) rfl ?_
  refine Xbc ?_
  refine qbz ?_
  refine qaf ?_
  refine q_c (fun hc1=>?_) (fun hc1=>?_)
  ·
   refine Jan ?_
   refine Jaz tb [] [0,1,2,3,4,5,6,7,8,9,10,11,12,13,14] [15] (_) _ Jbh (by kernel_rfl) (by repeat (first | exact zs0 _ | exact zs1 _ | apply zs2 | apply zs3 | apply zs4 | apply zs5)) (by (repeat (first | apply List.Sublist.cons (a:=Blk.mk b4 _ _) | apply List.Sublist.cons_cons));exact List.Sublist.refl _) ?_
   refine Xba ?_
   refine qcc ?_
   refine qd3 ?_
   refine qcv ?_
   refine qci ?_
   refine Xba ?_
   refine qcc ?_
   refine qd3 ?_
   refine qcv ?_
   refine qci ?_
   refine qcw ?_
   refine qba ?_
   refine qbg ?_
   refine Jb8 (Jaa (Jee (Jbg ?_)))
   refine q_r (L':=L) (R':=R) (Jd4 rfl (Ja0 (row:=[_,_]) tb rfl rfl rfl (by repeat (first | exact zi0 | apply zi1 | apply zi2)) (by rfl) (by rfl))) ?_
   exact ⟨by rw [hcl q hc1],rfl,rfl⟩
  refine qbv ?_
  refine qad ?_
  refine Jbr (Jaa (Jan (Ja9 ?_)))
  refine Jag [(1,Value.int _ _),(2,Value.pointer _),(4,Value.pointer _),(6,Value.int _ _)] (by repeat' (first | exact trivial | refine And.intro rfl ?_)) fun tq0=>?_
  refine q_s [6,56,57,58,59,60,61,62,63,64,65,66] (fun g:{k:Nat // k + 1 < f.curve.l.length∧∃p,f.curve.l[k]?=some p∧p.flow≤q}=>[(6,.int .i64 ((g.1:Nat):Int))]) (fun g=>f.curve.l.length - g.1) (⟨0,by rcases Nat.lt_or_ge 1 f.curve.l.length with h | h;exact h;exfalso;rw [show f.curve.l.length - 1=0 by omega,hp0] at hpn;cases hpn;omega,p0,hp0,by omega⟩) ?_
  rintro ⟨k,hk,p,hp,hpq⟩ junk
  try dsimp only
  refine Jan (Jan ?_)
  obtain ⟨r,hr⟩:=Jar (l:=f.curve.l) (k:=k + 1) (by omega)
  refine qay ?_
  refine Xah ?_
  refine qar ?_
  refine Jax (by first | exact Jaf tb rfl rfl rfl rfl (by first | assumption | exact zr (by simp)) (i:=k + 1) (by first | rfl | omega | (simp;omega)) (by omega) | exact Jah tb rfl rfl rfl rfl (i:=k + 1) (by first | rfl | omega | (simp;omega)) (by omega)) rfl ?_
  refine Xbc ?_
  refine qaa ?_
  refine qbx ?_
  refine qaf ?_
  refine q_c (fun hc2=>?_) (fun hc2=>?_)
  ·
   refine Ja4 (Jaa (Ja9 (Jaj ?_)))
   refine Xam ?_
   refine qad ?_
   refine Jbr (Ja7 ?_)
   exact q_k (⟨k + 1,by rcases Nat.lt_or_ge (k + 1 + 1) f.curve.l.length with h | h;exact h;exfalso;rw [show f.curve.l.length - 1=k + 1 by omega,hr] at hpn;cases hpn;omega,r,hr,by omega⟩)
  have hb1:=hf.ok.pt _ _ hp
  have hb2:=hf.ok.pt _ _ hr
  have hb3:=hf.ok.st k p r hp hr
  have hcr:=Jy5 hf.ok hp hr hpq (by omega)
  have d0:0≤(p.pres - r.pres) * (q - p.flow):=Int.mul_nonneg (by omega) (by omega)
  have d1:(p.pres - r.pres) * (q - p.flow)≤2199023255552 * 2097153:=Int.mul_le_mul (by omega) (by omega) (by omega) (by omega)
  have de:(r.pres - p.pres) * (q - p.flow)= -((p.pres - r.pres) * (q - p.flow)):=by rw [← Int.neg_mul];congr 1;omega
  have d2:0≤(p.pres - r.pres) * (q - p.flow) / (r.flow - p.flow):=Int.ediv_nonneg d0 (by omega)
  have d3:(p.pres - r.pres) * (q - p.flow) / (r.flow - p.flow)≤(p.pres - r.pres) * (q - p.flow):=Int.ediv_le_self _ d0
  have d4:=Joi (N:=(p.pres - r.pres) * (q - p.flow)) (w:=r.flow - p.flow) (by omega)
  have d7:-((p.pres - r.pres) * (q - p.flow)) - 1≤ -((p.pres - r.pres) * (q - p.flow)) / (r.flow - p.flow)∧-((p.pres - r.pres) * (q - p.flow)) / (r.flow - p.flow)≤0:=by split at d4 <;> omega
  have d5:-((r.pres - p.pres) * (q - p.flow)) / (r.flow - p.flow)=(p.pres - r.pres) * (q - p.flow) / (r.flow - p.flow):=by rw [de,Int.neg_neg]
  have d6:(r.pres - p.pres) * (q - p.flow) / (r.flow - p.flow)= -((p.pres - r.pres) * (q - p.flow)) / (r.flow - p.flow):=by rw [de]
  refine qc3 ?_
  refine Ja5 tb [0,1,2,3,4,5,6,7,8,9,10,11,12,13,14] _ Jbh (by kernel_rfl) (List.Sublist.refl _) ?_
  refine Xa0 ?_
  refine qds ?_
  refine qdo ?_
  refine Xa0 ?_
  refine qc2 ?_
  refine qdy ?_
  refine qdo ?_
  refine qbr ?_
  intro b7
  refine qbr ?_
  intro b8
  refine qbg ?_
  refine qbg ?_
  refine qb9 ?_
  refine Ja5 tb [0,1,2,3,4,5,6,7,8,9,10,11,12,13,14,15,16] _ Jbh (by kernel_rfl) (List.Sublist.refl _) ?_
  refine Xad ?_
  refine Xad ?_
  refine qb7 ?_
  refine qao ?_
  refine Xad ?_
  refine qb7 ?_
  refine qdh ?_
  refine Xad ?_
  refine Xad ?_
  refine qb7 ?_
  refine qcg ?_
  refine qcg ?_
  refine qb9 ?_
  refine Jaz tb [] [0,1,2,3,6,7,8,9,4,5,10,11,12] [13] (_) _ Jbh (by kernel_rfl) (by repeat (first | exact zs0 _ | exact zs1 _ | apply zs2 | apply zs3 | apply zs4 | apply zs5)) (by (repeat (first | apply List.Sublist.cons (a:=Blk.mk b4 _ _) | apply List.Sublist.cons_cons));exact List.Sublist.refl _) ?_
  refine Xba ?_
  refine qbf ?_
  refine Xba ?_
  refine qbf ?_
  refine Jbt rfl (Js0 _ _ _ _ (by omega) (by omega)) rfl rfl ?_
  rintro v L' R' ⟨rfl,rfl,rfl⟩
  refine qas ?_
  refine qcj ?_
  refine Jbt rfl (J0g _ _ _ _ (by omega) (by omega) (by omega)) rfl rfl ?_
  rintro v L' R' ⟨rfl,rfl,rfl⟩
  refine qas ?_
  refine qcj ?_
  refine qcw ?_
  refine qba ?_
  refine qbg ?_
  refine Jb8 (Jaa (Jee ?_))
  refine q_r (L':=L) (R':=R) (Jd4 rfl (Ja0 (row:=[_,_]) tb rfl rfl rfl (by repeat (first | exact zi0 | apply zi1 | apply zi2)) (by rfl) (by rfl))) ?_
  exact ⟨by rw [hcr,← Jt4 (by omega)],rfl,rfl⟩
theorem Jhq (f:XFan) (back:Bool) (q:Int) (L:List Blk) (R:List Sl) (hm:InR f.sl R) (hf:FanOk f) (hq:-1048577≤q∧q≤1048577):
    Tri Try.prog 68 [f.val,.bool back,.int .i64 q].toArray L R (fun v L' R'=>v=(Jdg f.curve.l back q).val∧L=L'∧R=R'):=by
  have hb1:=Jfj hf.ok (-q)
  refine Jae 23 Try.call68 Try.func68 rfl rfl rfl ?_
  refine Xaj ?_
  intro b3
  refine qaq ?_
  intro b6
  refine qaw ?_
  refine qah ?_
  refine qaf ?_
  refine q_c (fun hc0=>?_) (fun hc0=>?_)
  ·
   refine qae ?_
   refine qa8 ?_
   refine qaa ?_
   refine qcq ?_
   refine q_l rfl (Js1 f (-q) _ _ hm hf (by omega)) ?_
   refine qaq ?_
   intro b7
   refine Xcd ?_
   refine qcq ?_
   refine Xaa ?_
   refine qcq ?_
   refine qcd ?_
   refine qak ?_
   refine qbh ?_
   refine q_r (L':=L) (R':=R) (Jd4 rfl (Ja0 (row:=[_,_]) tb rfl rfl rfl (by repeat (first | exact zi0 | apply zi1 | apply zi2)) (by rfl) (by rfl))) ?_
   exact ⟨by simp [Jdg,hc0,J2m],rfl,rfl⟩
  refine qbv ?_
  refine qa8 ?_
  refine qaa ?_
  refine q_l rfl (Js1 f q _ _ hm hf hq) ?_
  refine Xbp ?_
  refine q_r (L':=L) (R':=R) (Jd4 rfl (Ja0 (row:=[_,_]) tb rfl rfl rfl (by repeat (first | exact zi0 | apply zi1 | apply zi2)) (by rfl) (by rfl))) ?_
  exact ⟨by simp [Jdg,hc0],rfl,rfl⟩
theorem Jjz (f:XFan) (s q:Int) (L:List Blk) (R:List Sl) (hm:InR f.sl R) (hf:FanOk f) (hq:-1048577≤q∧q≤1048577) (hs:-1≤s∧s≤2):
    Tri Try.prog 45 [f.val,.int .i64 s,.int .i64 q].toArray L R (fun v L' R'=>v=(Jb9 f s q).val∧L=L'∧R=R'):=by
  refine Jae 45 Try.call45 Try.func45 rfl rfl rfl ?_
  refine Xaj ?_
  intro b3
  refine qaq ?_
  intro b6
  refine qaw ?_
  refine qaa ?_
  refine Jbr (Jaa (Ja9 (Jan (Jaj ?_))))
  refine qbn ?_
  refine Xbt ?_
  refine q_c (fun hc0=>?_) (fun hc0=>?_)
  ·
   refine qae ?_
   refine qck ?_
   refine qak ?_
   refine qdb ?_
   refine q_r (L':=L) (R':=R) (Jd4 rfl (Ja0 (row:=[_,_]) tb rfl rfl rfl (by repeat (first | exact zi0 | apply zi1 | apply zi2)) (by rfl) (by rfl))) ?_
   exact ⟨by rw [Jb9,if_neg (by omega),if_neg (by omega),if_neg (by omega)],rfl,rfl⟩
  refine qae ?_
  refine qbn ?_
  refine Xbt ?_
  refine q_c (fun hc1=>?_) (fun hc1=>?_)
  ·
   refine qae ?_
   refine qa8 ?_
   refine Xah ?_
   refine q_l rfl (Jhq f f.back q _ _ hm hf hq) ?_
   refine qak ?_
   refine qdb ?_
   refine q_r (L':=L) (R':=R) (Jd4 rfl (Ja0 (row:=[_,_]) tb rfl rfl rfl (by repeat (first | exact zi0 | apply zi1 | apply zi2)) (by rfl) (by rfl))) ?_
   exact ⟨by rw [Jb9,if_pos hc1],rfl,rfl⟩
  refine qae ?_
  refine qbn ?_
  refine Xbt ?_
  refine q_c (fun hc2=>?_) (fun hc2=>?_)
  ·
   refine qae ?_
   refine qa8 ?_
   refine Xaa ?_
   refine qb4 ?_
   refine qaa ?_
   refine q_l rfl (Jhq f (!f.back) q _ _ hm hf hq) ?_
   refine qak ?_
   refine qdb ?_
   refine q_r (L':=L) (R':=R) (Jd4 rfl (Ja0 (row:=[_,_]) tb rfl rfl rfl (by repeat (first | exact zi0 | apply zi1 | apply zi2)) (by rfl) (by rfl))) ?_
   exact ⟨by rw [Jb9,if_neg hc1,if_pos hc2],rfl,rfl⟩
  refine Ja4 (Ja7 (Jaa (Jan ?_)))
  refine Ja5 tb [0,1,3,4,2,5,6,7,8,9] _ Jbh (by kernel_rfl) (List.Sublist.refl _) ?_
  refine qbc ?_
  refine qao ?_
  refine qbc ?_
  refine qao ?_
  refine q_d rfl (Jhq f false q _ _ hm hf hq) ?_
  refine q_d rfl (Jhq f true q _ _ hm hf hq) ?_
  refine qbr ?_
  intro b7
  refine qbr ?_
  intro b8
  refine qbg ?_
  refine qbg ?_
  refine Jb8 (Jaa (Jan (Jaj ?_)))
  refine Xa1 ?_
  refine Jax (Jyt rfl rfl rfl) rfl ?_
  refine Xa1 ?_
  refine Jax (Jyu rfl rfl rfl) rfl ?_
  refine qcd ?_
  refine Xbp ?_
  refine q_r (L':=L) (R':=R) (Jd4 rfl (Ja0 (row:=[_,_]) tb rfl rfl rfl (by repeat (first | exact zi0 | apply zi1 | apply zi2)) (by rfl) (by rfl))) ?_
  exact ⟨by rw [Jb9,if_neg hc1,if_neg hc2,if_pos (by omega),Int.min_comm 0,Int.max_comm 0];simp only [Int.min_assoc,Int.max_assoc,Int.min_comm 0,Int.max_comm 0],rfl,rfl⟩
end Go.Proofs.Ytihompplndcdeaa
end
section
namespace Go.Proofs.Ytihompplndcdeaa
open Go.Aw Go
set_option maxRecDepth 20000
attribute [local irreducible] CJ LJ DJ Tri YV Gives Jdn Jaw Jbk Jdo RV Jay
structure PipeOk (p:XPipe):Prop where
  rest:0≤p.road.rest.low∧p.road.rest.low≤p.road.rest.high∧p.road.rest.high≤4456448
  lift:-2199023255552≤p.road.lift.low∧p.road.lift.low≤p.road.lift.high∧p.road.lift.high≤2199023255552
  len:p.fans.l.length≤8
  fan:∀(i:Nat) (b:XBlow),p.fans.l[i]?=some b→FanOk b.fan
def Je3 (p : XPipe) (q : Int) : Nat → XSpan
  | 0=>if q < 0 then ⟨-p.road.rest.high * (q * q) - p.road.lift.high,-p.road.rest.low * (q * q) - p.road.lift.low⟩ else ⟨p.road.rest.low * (q * q) - p.road.lift.high,p.road.rest.high * (q * q) - p.road.lift.low⟩
  | k + 1=>⟨(Je3 p q k).low - (Jb9 (p.fans.l.getD k default).fan (p.fans.l.getD k default).state q).high,(Je3 p q k).high - (Jb9 (p.fans.l.getD k default).fan (p.fans.l.getD k default).state q).low⟩
def Jjn (p:XPipe) (q:Int):XSpan:=Je3 p q p.fans.l.length
theorem Jfk {q:Int} (hq:-1048577≤q∧q≤1048577):0≤q * q∧q * q≤1099513724929:=by
  rcases Int.lt_or_le q 0 with h | h
  · have h1 := Int.mul_nonneg (show 0 ≤ -q by omega) (show 0 ≤ -q by omega)
    have h2:=Int.mul_le_mul (show -q≤1048577 by omega) (show -q≤1048577 by omega) (by omega) (by omega)
    rw [Int.neg_mul_neg] at h1 h2
    omega
  · have h1 := Int.mul_nonneg h h
    have h2:=Int.mul_le_mul hq.2 hq.2 h (by omega)
    omega
theorem Jd0 {r s:Int} (hr:0≤r∧r≤4456448) (hs:0≤s∧s≤1099513724929):0≤r * s∧r * s≤4899925740432392192∧-r * s= -(r * s):=by
  have h1:=Int.mul_nonneg hr.1 hs.1
  have h2:=Int.mul_le_mul hr.2 hs.2 hs.1 (by omega)
  exact ⟨h1,by omega,Int.neg_mul r s⟩
theorem Jla {p:XPipe} {q:Int} (h:q < 0):Je3 p q 0=⟨-p.road.rest.high * (q * q) - p.road.lift.high,-p.road.rest.low * (q * q) - p.road.lift.low⟩:=if_pos h
theorem Jlk {p:XPipe} {q:Int} (h:¬ q < 0):Je3 p q 0=⟨p.road.rest.low * (q * q) - p.road.lift.high,p.road.rest.high * (q * q) - p.road.lift.low⟩:=if_neg h
theorem Jg0 {p:XPipe} (h:PipeOk p) {q:Int} (hq:-1048577≤q∧q≤1048577):∀(k:Nat),k≤p.fans.l.length→
    -4899925740432392192 - 2199023255552 * (k + 1)≤(Je3 p q k).low∧(Je3 p q k).low≤(Je3 p q k).high∧(Je3 p q k).high≤4899925740432392192 + 2199023255552 * (k + 1)
  | 0,_=>by
    have hs:=Jfk hq
    have hr:=h.rest
    have hl:=h.lift
    have h1:=Jd0 (r:=p.road.rest.low) (by omega) hs
    have h2:=Jd0 (r:=p.road.rest.high) (by omega) hs
    have h3:p.road.rest.low * (q * q)≤p.road.rest.high * (q * q):=Int.mul_le_mul_of_nonneg_right hr.2.1 hs.1
    unfold Je3
    split <;> dsimp only <;> omega
  | k + 1,hk=>by
    have ih:=Jg0 h hq k (by omega)
    have hb:=Jd9 (h.fan k _ (Jai default (by omega))) (p.fans.l.getD k default).state q
    simp only [Je3]
    omega
theorem Ju1 (p:XPipe) (q:Int) (L:List Blk) (R:List Sl) (hm:InR p.sl R) (hp:PipeOk p) (hq:-1048577≤q∧q≤1048577):
    Tri Try.prog 83 [p.val,.int .i64 q].toArray L R (fun v L' R'=>v=(Jjn p q).val∧L=L'∧R=R'):=by
  have hs:=Jfk hq
  have hr:=hp.rest
  have hl:=hp.lift
  have hln:=hp.len
  have h1:=Jd0 (r:=p.road.rest.low) (by omega) hs
  have h2:=Jd0 (r:=p.road.rest.high) (by omega) hs
  refine Jae 86 Try.call83 Try.func83 rfl rfl rfl ?_
  refine Xaj ?_
  intro b2
  refine qaq ?_
  intro b4
  refine qam ?_
  refine qaa ?_
  refine Xcc ?_
  refine Xai ?_
  iterate 3 refine qab ?_
  refine qac ?_
  refine Xcc ?_
  iterate 3 refine qab ?_
  refine qac ?_
  refine Xcc ?_
  refine qcd ?_
  refine qaq ?_
  intro b6
  refine Xbk ?_
  refine qaa ?_
  refine Xan ?_
  refine q_c (fun hc0=>?_) (fun hc0=>?_)
  ·
   refine qay ?_
   iterate 3 refine qab ?_
   refine qac ?_
   refine qcq ?_
   refine Xcc ?_
   iterate 3 refine qab ?_
   refine qac ?_
   refine qcq ?_
   refine Xcc ?_
   refine qcd ?_
   refine Xcd ?_
   iterate 3 refine qab ?_
   refine qac ?_
   refine Xc6 ?_
   refine qam ?_
   refine Xaa ?_
   iterate 3 refine qab ?_
   refine qac ?_
   refine Xc6 ?_
   refine qaw ?_
   refine Xbm ?_
   refine Jag [(1,Value.int _ _),(4,Value.pointer _),(6,Value.pointer _),(60,Value.slice _ _ _),(61,Value.int _ _),(62,Value.int _ _)] (by repeat' (first | exact trivial | refine And.intro rfl ?_)) fun tq0=>?_
   refine Jcc [8,9,62,63,64,65,66,67,68,69,70,71,72,73,74,75,76,77,78,79,80,81,82,83,84] ((⟨fun g=>[(62,.int .i64 ((g.1:Nat):Int))],fun g=>⟨b6,[.int .i64 (Je3 p q g.1).low,.int .i64 (Je3 p q g.1).high],54⟩ :: ⟨b4,[.int .i64 0,.int .i64 0],54⟩ :: ⟨b2,p.cells,128⟩ :: L,fun _=>R,fun g=>p.fans.l.length - g.1⟩:Head {k:Nat // k≤p.fans.l.length})) (⟨0,by omega⟩) (by repeat' (first | exact trivial | refine And.intro rfl ?_)) (by dsimp only;first | (rw [Jla hc0];exact List.Sublist.refl _) | (rw [Jlk hc0];exact List.Sublist.refl _)) (Jac _) ?_
   rintro ⟨k,hk⟩ junk
   try dsimp only
   refine Xar ?_
   refine q_c (fun hc1=>?_) (fun hc1=>?_)
   ·
    have hx:=Jai (l:=p.fans.l) (k:=k) default (by omega)
    have hdb:=Jg0 hp hq k (by omega)
    have hfo:=hp.fan _ _ hx
    have hsb:=Jd9 hfo (p.fans.l.getD k default).state q
    refine qbb ?_
    refine qa3 ?_
    refine qdw ?_
    refine qaq ?_
    intro b8
    refine Xbe ?_
    refine qab ?_
    refine qa8 ?_
    refine Xah ?_
    refine q_l rfl (Jvp (p.fans.l.getD k default).fan (p.fans.l.getD k default).state q _ _ (hm.blow hx) hfo hq) ?_
    refine qaq ?_
    intro b9
    refine Xbe ?_
    refine Xa1 ?_
    refine Xc6 ?_
    refine Jbr (Jaa (Jaj ?_))
    refine Xa1 ?_
    refine Xc6 ?_
    refine Xa5 ?_
    exact q_k ⟨k + 1,by omega⟩
   obtain rfl:k=p.fans.l.length:=by omega
   refine qbk ?_
   refine Xcs ?_
   refine q_r (L':=L) (R':=R) (Jd4 rfl (Ja0 (row:=[_,_]) tb rfl rfl rfl (by repeat (first | exact zi0 | apply zi1 | apply zi2)) (by rfl) (by rfl))) ?_
   exact ⟨rfl,rfl,rfl⟩
  refine qbv ?_
  refine Xaa ?_
  iterate 3 refine qab ?_
  refine qac ?_
  refine Xc6 ?_
  refine qam ?_
  refine Xaa ?_
  iterate 3 refine qab ?_
  refine qac ?_
  refine Xc6 ?_
  refine qaw ?_
  refine Xbm ?_
  refine Jag [(1,Value.int _ _),(4,Value.pointer _),(6,Value.pointer _),(60,Value.slice _ _ _),(61,Value.int _ _),(62,Value.int _ _)] (by repeat' (first | exact trivial | refine And.intro rfl ?_)) fun tq0=>?_
  refine Jcc [8,9,62,63,64,65,66,67,68,69,70,71,72,73,74,75,76,77,78,79,80,81,82,83,84] ((⟨fun g=>[(62,.int .i64 ((g.1:Nat):Int))],fun g=>⟨b6,[.int .i64 (Je3 p q g.1).low,.int .i64 (Je3 p q g.1).high],54⟩ :: ⟨b4,[.int .i64 0,.int .i64 0],54⟩ :: ⟨b2,p.cells,128⟩ :: L,fun _=>R,fun g=>p.fans.l.length - g.1⟩:Head {k:Nat // k≤p.fans.l.length})) (⟨0,by omega⟩) (by repeat' (first | exact trivial | refine And.intro rfl ?_)) (by dsimp only;first | (rw [Jla hc0];exact List.Sublist.refl _) | (rw [Jlk hc0];exact List.Sublist.refl _)) (Jac _) ?_
  rintro ⟨k,hk⟩ junk
  try dsimp only
  refine Xar ?_
  refine q_c (fun hc1=>?_) (fun hc1=>?_)
  ·
   have hx:=Jai (l:=p.fans.l) (k:=k) default (by omega)
   have hdb:=Jg0 hp hq k (by omega)
   have hfo:=hp.fan _ _ hx
   have hsb:=Jd9 hfo (p.fans.l.getD k default).state q
   refine qbb ?_
   refine qa3 ?_
   refine qdw ?_
   refine qaq ?_
   intro b8
   refine Xbe ?_
   refine qab ?_
   refine qa8 ?_
   refine Xah ?_
   refine q_l rfl (Jvp (p.fans.l.getD k default).fan (p.fans.l.getD k default).state q _ _ (hm.blow hx) hfo hq) ?_
   refine qaq ?_
   intro b9
   refine Xbe ?_
   refine Xa1 ?_
   refine Xc6 ?_
   refine Jbr (Jaa (Jaj ?_))
   refine Xa1 ?_
   refine Xc6 ?_
   refine Xa5 ?_
   exact q_k ⟨k + 1,by omega⟩
  obtain rfl:k=p.fans.l.length:=by omega
  refine qbk ?_
  refine Xcs ?_
  refine q_r (L':=L) (R':=R) (Jd4 rfl (Ja0 (row:=[_,_]) tb rfl rfl rfl (by repeat (first | exact zi0 | apply zi1 | apply zi2)) (by rfl) (by rfl))) ?_
  exact ⟨rfl,rfl,rfl⟩
end Go.Proofs.Ytihompplndcdeaa
end
section
namespace Go.Proofs.Ytihompplndcdeaa
open Go.Aw Go
set_option maxRecDepth 20000
attribute [local irreducible] CJ LJ DJ Tri YV Gives Jdn Jaw Jbk Jdo RV Jay
theorem Jih {x:Int} (h:0≤x):x.tdiv 2=x / 2:=Int.tdiv_eq_ediv_of_nonneg h
def Js5 (f:Int→Int) (pr lo hi:Int):Int:=
  if h:lo < hi then (if f (lo + (hi - lo + 1).tdiv 2)≤pr then Js5 f pr (lo + (hi - lo + 1).tdiv 2) hi else Js5 f pr lo (lo + (hi - lo + 1).tdiv 2 - 1)) else lo
termination_by (hi - lo).toNat
decreasing_by all_goals (have:=Jih (x:=hi - lo + 1) (by omega);omega)
def Ji4 (f:Int→Int) (pr lo hi:Int):Int:=
  if h:lo < hi then (if pr≤f (lo + (hi - lo).tdiv 2) then Ji4 f pr lo (lo + (hi - lo).tdiv 2) else Ji4 f pr (lo + (hi - lo).tdiv 2 + 1) hi) else lo
termination_by (hi - lo).toNat
decreasing_by all_goals (have:=Jih (x:=hi - lo) (by omega);omega)
theorem Jzg {f:Int→Int} {pr lo hi:Int} (h:lo < hi) (hf:f (lo + (hi - lo + 1).tdiv 2)≤pr):Js5 f pr lo hi=Js5 f pr (lo + (hi - lo + 1).tdiv 2) hi:=by rw [Js5,dif_pos h,if_pos hf]
theorem Jxq {f:Int→Int} {pr lo hi:Int} (h:lo < hi) (hf:¬ f (lo + (hi - lo + 1).tdiv 2)≤pr):Js5 f pr lo hi=Js5 f pr lo (lo + (hi - lo + 1).tdiv 2 - 1):=by rw [Js5,dif_pos h,if_neg hf]
theorem Jvt {f:Int→Int} {pr lo hi:Int} (h:¬ lo < hi):Js5 f pr lo hi=lo:=by rw [Js5,dif_neg h]
theorem Jvl {f:Int→Int} {pr lo hi:Int} (h:lo < hi) (hf:pr≤f (lo + (hi - lo).tdiv 2)):Ji4 f pr lo hi=Ji4 f pr lo (lo + (hi - lo).tdiv 2):=by rw [Ji4,dif_pos h,if_pos hf]
theorem Juw {f:Int→Int} {pr lo hi:Int} (h:lo < hi) (hf:¬ pr≤f (lo + (hi - lo).tdiv 2)):Ji4 f pr lo hi=Ji4 f pr (lo + (hi - lo).tdiv 2 + 1) hi:=by rw [Ji4,dif_pos h,if_neg hf]
theorem Jro {f:Int→Int} {pr lo hi:Int} (h:¬ lo < hi):Ji4 f pr lo hi=lo:=by rw [Ji4,dif_neg h]
def Jbp (f:Int→XSpan) (pr:Int):Int:=Js5 (fun q=>(f q).high) pr (-1048577) 1048576
def Jbc (f:Int→XSpan) (pr:Int):Int:=Ji4 (fun q=>(f q).low) pr (-1048576) 1048577
theorem Jjk (p:XPipe) (pr:Int) (L:List Blk) (R:List Sl) (hm:InR p.sl R) (hp:PipeOk p):
    Tri Try.prog 64 [p.val,.int .i64 pr].toArray L R (fun v L' R'=>v=.int .i64 (Jbp (Jjn p) pr)∧L=L'∧R=R'):=by
  refine Jae 28 Try.call64 Try.func64 rfl rfl rfl ?_
  refine Xaj ?_
  intro b2
  refine Xai ?_
  refine qad ?_
  refine qad ?_
  refine Jbr (Jaa (Jan (Ja9 ?_)))
  refine Jag [(1,Value.int _ _),(2,Value.pointer _),(5,Value.int _ _),(6,Value.int _ _)] (by repeat' (first | exact trivial | refine And.intro rfl ?_)) fun tq0=>?_
  refine q_s [5,6,7,8,9,10,11,12,13,14,15,16,17,18,19,20,21,22,23,24,25,26] (fun g:{g:Int×Int // -1048577≤g.1∧g.1≤g.2∧g.2≤1048576∧Jbp (Jjn p) pr=Js5 (fun q=>(Jjn p q).high) pr g.1 g.2}=>[(5,.int .i64 g.1.1),(6,.int .i64 g.1.2)]) (fun g=>(g.1.2 - g.1.1).toNat) (⟨(-1048577,1048576),by omega,by omega,by omega,rfl⟩) ?_
  rintro ⟨⟨lo,hi⟩,h1,h2,h3,h4⟩ junk
  try dsimp only
  refine Xap ?_
  refine qaa ?_
  refine Xan ?_
  refine q_c (fun hc0=>?_) (fun hc0=>?_)
  ·
   dsimp only at h1 h2 h3 h4 hc0
   have he:=Jih (x:=hi - lo + 1) (by omega)
   refine Ja4 (Jaa (Ja9 (Jan (Jaj ?_))))
   iterate 3 refine qaa ?_
   refine qa9 ?_
   refine qar ?_
   refine qdd ?_
   refine qar ?_
   refine Xai ?_
   refine qdi ?_
   refine qaa ?_
   refine q_l rfl (Ju1 p (lo + (hi - lo + 1).tdiv 2) _ _ hm hp (by omega)) ?_
   refine qcz ?_
   refine qaa ?_
   refine qbx ?_
   refine qaf ?_
   refine q_c (fun hc1=>?_) (fun hc1=>?_)
   ·
    have e:=h4.trans (Jzg hc0 hc1)
    refine Xbs ?_
    refine qad ?_
    refine Jbr (Ja7 ?_)
    exact qc0
   have e:=h4.trans (Jxq hc0 hc1)
   refine Xbs ?_
   refine qa9 ?_
   refine qad ?_
   refine Jbr (Ja7 ?_)
   exact qc0
  dsimp only at h1 h2 h3 h4 hc0
  refine qbk ?_
  refine qaa ?_
  refine Xau ?_
  refine q_i (L':=L) (R':=R) ?_
  exact ⟨by rw [h4,Jvt hc0],rfl,rfl⟩
theorem Jh9 (p:XPipe) (pr:Int) (L:List Blk) (R:List Sl) (hm:InR p.sl R) (hp:PipeOk p):
    Tri Try.prog 65 [p.val,.int .i64 pr].toArray L R (fun v L' R'=>v=.int .i64 (Jbc (Jjn p) pr)∧L=L'∧R=R'):=by
  refine Jae 27 Try.call65 Try.func65 rfl rfl rfl ?_
  refine Xaj ?_
  intro b2
  refine Xai ?_
  refine qad ?_
  refine qad ?_
  refine Jbr (Jaa (Jan (Ja9 ?_)))
  refine Jag [(1,Value.int _ _),(2,Value.pointer _),(5,Value.int _ _),(6,Value.int _ _)] (by repeat' (first | exact trivial | refine And.intro rfl ?_)) fun tq0=>?_
  refine q_s [5,6,7,8,9,10,11,12,13,14,15,16,17,18,19,20,21,22,23,24,25] (fun g:{g:Int×Int // -1048576≤g.1∧g.1≤g.2∧g.2≤1048577∧Jbc (Jjn p) pr=Ji4 (fun q=>(Jjn p q).low) pr g.1 g.2}=>[(5,.int .i64 g.1.1),(6,.int .i64 g.1.2)]) (fun g=>(g.1.2 - g.1.1).toNat) (⟨(-1048576,1048577),by omega,by omega,by omega,rfl⟩) ?_
  rintro ⟨⟨lo,hi⟩,h1,h2,h3,h4⟩ junk
  try dsimp only
  refine Xap ?_
  refine qaa ?_
  refine Xan ?_
  refine q_c (fun hc0=>?_) (fun hc0=>?_)
  ·
   dsimp only at h1 h2 h3 h4 hc0
   have he:=Jih (x:=hi - lo) (by omega)
   refine Ja4 (Jaa (Ja9 (Jan (Jaj ?_))))
   iterate 3 refine qaa ?_
   refine qa9 ?_
   refine qdd ?_
   refine qar ?_
   refine Xai ?_
   refine qdi ?_
   refine qaa ?_
   refine q_l rfl (Ju1 p (lo + (hi - lo).tdiv 2) _ _ hm hp (by omega)) ?_
   refine qcz ?_
   refine qaa ?_
   refine qbz ?_
   refine qaf ?_
   refine q_c (fun hc1=>?_) (fun hc1=>?_)
   ·
    have e:=h4.trans (Jvl hc0 hc1)
    refine Xbs ?_
    refine qad ?_
    refine Jbr (Ja7 ?_)
    exact qc0
   have e:=h4.trans (Juw hc0 hc1)
   refine qay ?_
   refine Xam ?_
   refine qad ?_
   refine Jbr (Ja7 ?_)
   exact qc0
  dsimp only at h1 h2 h3 h4 hc0
  refine qbk ?_
  refine qaa ?_
  refine Xau ?_
  refine q_i (L':=L) (R':=R) ?_
  exact ⟨by rw [h4,Jro hc0],rfl,rfl⟩
end Go.Proofs.Ytihompplndcdeaa
end
section
namespace Go.Proofs.Ytihompplndcdeaa
open Go.Aw Go
theorem Jhc {α:Type} {f:α→Option Int} {l:List α} (hf:∀x e,f x=some e→e≠0) (h:(l.findSome? f).getD 0=0):∀x∈l,f x=none:=by
  have hn:l.findSome? f=none:=by
    cases hs:l.findSome? f with
    | none=>rfl
    | some e=>
      rw [hs] at h
      obtain ⟨x,_,hx⟩:=List.exists_of_findSome?_eq_some hs
      exact absurd h (hf x e hx)
  exact List.findSome?_eq_none_iff.1 hn
structure RoadOk (n:Nat) (r:XRoad):Prop where
  fr:0≤r.fr∧r.fr < n
  to:0≤r.to∧r.to < n
  ne:r.fr≠r.to
  rest:1≤r.rest.low∧r.rest.low≤r.rest.high∧r.rest.high≤262144
  lift:-2199023255552≤r.lift.low∧r.lift.low≤r.lift.high∧r.lift.high≤2199023255552
theorem Jj4 {s:XSpan} {lo hi:Int}:Jl6 s lo hi=true↔lo≤s.low∧s.low≤s.high∧s.high≤hi:=by simp [Jl6]
structure MineOk (m:XMine):Prop where
  places:m.places.l.length≤64
  roads:m.roads.l.length≤128
  road:∀(i:Nat) (r:XRoad),m.roads.l[i]?=some r→RoadOk m.places.l.length r
theorem Jip {m:XMine} (h:Jbs m=0):MineOk m:=by
  unfold Jbs at h
  split at h
  · cases h
  rename_i hlen
  split at h
  · rename_i e he
    subst h
    obtain ⟨x,_,hx⟩:=List.exists_of_findSome?_eq_some he
    unfold Jez at hx
    split at hx <;> cases hx
  have hall:=Jhc (f:=Jc5 m.places.l.length) (fun x e hx he=>by
    subst he
    unfold Jc5 at hx
    split at hx
    · cases hx
    · split at hx <;> cases hx) h
  refine ⟨by omega,by omega,fun i r hr=>?_⟩
  have:=hall r (List.mem_of_getElem? hr)
  unfold Jc5 at this
  split at this
  · cases this
  rename_i h1
  split at this
  · cases this
  rename_i h2
  have e1:Jl6 r.rest 1 262144=true:=by
    cases hb:Jl6 r.rest 1 262144 with
    | true=>rfl
    | false=>exact absurd (.inr (.inr (.inr (.inr (.inl hb))))) h2
  have e2:Jl6 r.lift (-2199023255552) 2199023255552=true:=by
    cases hb:Jl6 r.lift (-2199023255552) 2199023255552 with
    | true=>rfl
    | false=>exact absurd (.inr (.inr (.inr (.inr (.inr hb))))) h2
  exact ⟨by omega,by omega,by omega,Jj4.1 e1,Jj4.1 e2⟩
structure DoorOk (d:XDoor):Prop where
  road:0≤d.road
  len:2≤d.rests.l.length∧d.rests.l.length≤6
  rest:∀(i:Nat) (x:Int),d.rests.l[i]?=some x→0≤x∧x≤262144
  falls:Jde d.rests.l d.rests.l.length=true
theorem Ji2 {l:List XDoor} (h:Jbm l=0):l.length≤16∧∀(i:Nat) (d:XDoor),l[i]?=some d→DoorOk d∧¬ Jjw l i d:=by
  unfold Jbm at h
  split at h
  · cases h
  rename_i hlen
  have hre:∀(x:Int) (e:Int),Jib x=some e→e=1:=fun x e he=>by
    unfold Jib at he
    split at he <;> cases he
    rfl
  have hall:=Jhc (f:=Jev l) (fun i e hx he=>by
    subst he
    unfold Jev at hx
    split at hx
    · cases hx
    · split at hx
      · cases hx
      · split at hx
        · cases hx
        · split at hx
          · rename_i e' he'
            obtain ⟨x,_,hx'⟩:=List.exists_of_findSome?_eq_some he'
            have:=hre x _ hx'
            cases hx
            cases this
          · split at hx
            · cases hx
            · split at hx <;> cases hx) h
  refine ⟨by omega,fun i d hd=>?_⟩
  obtain ⟨hi,_⟩:=List.getElem?_eq_some_iff.1 hd
  have:=hall i (List.mem_range.2 hi)
  rw [Ji3 hd] at this
  split at this
  · cases this
  rename_i h1
  split at this
  · cases this
  rename_i h2
  split at this
  · cases this
  rename_i h3
  split at this
  · cases this
  rename_i h4
  split at this
  · cases this
  rename_i h5
  refine ⟨⟨by omega,by omega,fun k x hx=>?_,by simpa using h4⟩,h5⟩
  have:=List.findSome?_eq_none_iff.1 h3 x (List.mem_of_getElem? hx)
  unfold Jib at this
  split at this
  · cases this
  · omega
theorem Jln {l : List Int} (h : ∀ (i : Nat) (x : Int), l[i]? = some x → 0 ≤ x ∧ x ≤ 262144) : ∀ (k : Nat), k ≤ l.length → 1 ≤ l.length → 0 ≤ Jol l k ∧ Jol l k ≤ l.getD 0 0 ∧ l.getD 0 0 ≤ Jmu l k ∧ Jmu l k ≤ 262144
  | 0,_,hl=>by have:=h 0 _ (Jai 0 (by omega));simp only [Jol,Jmu];omega
  | k + 1,hk,hl=>by
    have ih:=Jln h k (by omega) hl
    have:=h k _ (Jai 0 (by omega))
    simp only [Jol,Jmu]
    omega
theorem Jh8 {d:XDoor} (h:DoorOk d) (s:Int):0≤(Jeh d s).low∧(Jeh d s).low≤(Jeh d s).high∧(Jeh d s).high≤262144:=by
  unfold Jeh
  split
  · simp
  · rename_i hc
    split
    · have := Jln h.rest d.rests.l.length (Nat.le_refl _) (by omega)
      dsimp only;omega
    · have := h.rest s.toNat _ (Jai 0 (by omega))
      dsimp only;omega
structure AirOk (a:XAir):Prop where
  mine:MineOk a.mine
  nfans:a.fans.l.length≤8
  fan:∀(i:Nat) (f:XFan),a.fans.l[i]?=some f→FanOk f∧f.road < a.mine.roads.l.length
  ndoors:a.doors.l.length≤16
  door:∀(i:Nat) (d:XDoor),a.doors.l[i]?=some d→DoorOk d∧d.road < a.mine.roads.l.length
theorem Jey {a:XAir} (h:Jat a=0):AirOk a:=by
  unfold Jat at h
  split at h
  · rename_i h1;exact absurd h h1
  rename_i h1
  split at h
  · cases h
  rename_i h2
  split at h
  · rename_i e he
    subst h
    obtain ⟨x,_,hx⟩:=List.exists_of_findSome?_eq_some he
    unfold Jsu at hx
    split at hx
    · rename_i hne
      exact absurd (Option.some.inj hx) hne
    · split at hx <;> cases hx
  rename_i hfn
  split at h
  · rename_i h3;exact absurd h h3
  rename_i h3
  have hdo:=Ji2 (by simpa using h3)
  have hdi:=Jhc (f:=Jlq a.mine.roads.l.length) (fun x e hx he=>by
    subst he
    unfold Jlq at hx
    split at hx <;> cases hx) h
  refine ⟨Jip (by simpa using h1),by omega,fun i f hf=>?_,hdo.1,fun i d hd=>⟨(hdo.2 i d hd).1,?_⟩⟩
  · have := List.findSome?_eq_none_iff.1 hfn f (List.mem_of_getElem? hf)
    unfold Jsu at this
    split at this
    · cases this
    rename_i h4
    split at this
    · cases this
    exact ⟨Jz7 (by simpa using h4),by omega⟩
  · have := hdi d (List.mem_of_getElem? hd)
    unfold Jlq at this
    split at this
    · cases this
    · omega
structure FitOk (a:XAir) (s:XSetting):Prop where
  lf:s.fans.l.length=a.fans.l.length
  ld:s.doors.l.length=a.doors.l.length
  fan:∀(i:Nat) (x:Int),s.fans.l[i]?=some x→-1≤x∧x≤2
  door:∀(i:Nat) (x:Int) (d:XDoor),s.doors.l[i]?=some x→a.doors.l[i]?=some d→-1≤x∧x < d.rests.l.length
theorem Jf3 {a:XAir} {s:XSetting} (h:Jdl a s=true):FitOk a s:=by
  unfold Jdl at h
  split at h
  · cases h
  rename_i h1
  simp only [Bool.and_eq_true,Option.isNone_iff_eq_none] at h
  refine ⟨by omega,by omega,fun i x hx=>?_,fun i x d hx hd=>?_⟩
  · have := List.findSome?_eq_none_iff.1 h.1 x (List.mem_of_getElem? hx)
    unfold Jgb at this
    split at this
    · cases this
    · omega
  · obtain ⟨hi, _⟩ := List.getElem?_eq_some_iff.1 hx
    have:=List.findSome?_eq_none_iff.1 h.2 i (List.mem_range.2 hi)
    rw [Jf5 hx hd] at this
    split at this
    · cases this
    · omega
theorem Jfr {a:XAir} {s:XSetting} (h:Jea a s=true):AirOk a∧FitOk a s:=by
  simp only [Jea,Bool.and_eq_true,decide_eq_true_eq] at h
  exact ⟨Jey h.1,Jf3 h.2⟩
end Go.Proofs.Ytihompplndcdeaa
end
section
namespace Go.Proofs.Ytihompplndcdeaa
open Go.Aw Go
set_option maxRecDepth 20000
attribute [local irreducible] CJ LJ DJ Tri YV Gives Jdn Jaw Jbk Jdo RV Jay
def Jbq (a : XAir) (s : XSetting) (r : Int) : Nat → XSpan
  | 0=>(a.mine.roads.l.getD r.toNat default).rest
  | k + 1=>if (a.doors.l.getD k default).road=r then ⟨(Jbq a s r k).low + (Jeh (a.doors.l.getD k default) (s.doors.l.getD k 0)).low,(Jbq a s r k).high + (Jeh (a.doors.l.getD k default) (s.doors.l.getD k 0)).high⟩ else Jbq a s r k
def Jlb (rest lift:XSpan) (q:Int):XSpan:=
  if q < 0 then ⟨-(rest.high * q * q) - lift.high,-(rest.low * q * q) - lift.low⟩ else ⟨rest.low * q * q - lift.high,rest.high * q * q - lift.low⟩
def innerTo (a : XAir) (s : XSetting) (r q : Int) : Nat → XSpan
  | 0=>Jlb (Jbq a s r a.doors.l.length) (a.mine.roads.l.getD r.toNat default).lift q
  | k + 1=>if (a.fans.l.getD k default).road=r then ⟨(innerTo a s r q k).low - (Jb9 (a.fans.l.getD k default) (s.fans.l.getD k 0) q).high,(innerTo a s r q k).high - (Jb9 (a.fans.l.getD k default) (s.fans.l.getD k 0) q).low⟩ else innerTo a s r q k
def Ja8 (a:XAir) (s:XSetting) (r q:Int):XSpan:=innerTo a s r q a.fans.l.length
theorem Jcz {a:XAir} {s:XSetting} (h:AirOk a) {r:Int} (hr:0≤r∧r < a.mine.roads.l.length):∀(k:Nat),k≤a.doors.l.length→
    1≤(Jbq a s r k).low∧(Jbq a s r k).low≤(Jbq a s r k).high∧(Jbq a s r k).high≤262144 * (k + 1)
  | 0,_=>by
    have:=(h.mine.road r.toNat _ (Jai default (by omega))).rest
    simp only [Jbq];omega
  | k + 1,hk=>by
    have ih:=Jcz (s:=s) h hr k (by omega)
    have hb:=Jh8 (h.door k _ (Jai default (by omega))).1 (s.doors.l.getD k 0)
    simp only [Jbq]
    split
    · dsimp only;omega
    · omega
theorem Jpr {r q:Int} (hr:0≤r∧r≤4456448) (hq:-1048577≤q∧q≤1048577):-4672928874496≤r * q∧r * q≤4672928874496:=by
  rcases Int.lt_or_le q 0 with h | h
  · have h1 := Int.mul_le_mul hr.2 (show -q ≤ 1048577 by omega) (by omega) (by omega)
    have h2:=Int.mul_nonneg hr.1 (show 0≤ -q by omega)
    rw [Int.mul_neg] at h1 h2
    omega
  · have h1 := Int.mul_le_mul hr.2 hq.2 h (by omega)
    have h2:=Int.mul_nonneg hr.1 h
    omega
theorem Jhs {a:XAir} {s:XSetting} {r q:Int} (h:q < 0):innerTo a s r q 0=⟨-((Jbq a s r a.doors.l.length).high * q * q) - (a.mine.roads.l.getD r.toNat default).lift.high,-((Jbq a s r a.doors.l.length).low * q * q) - (a.mine.roads.l.getD r.toNat default).lift.low⟩:=if_pos h
theorem Jg2 {a:XAir} {s:XSetting} {r q:Int} (h:¬ q < 0):innerTo a s r q 0=⟨(Jbq a s r a.doors.l.length).low * q * q - (a.mine.roads.l.getD r.toNat default).lift.high,(Jbq a s r a.doors.l.length).high * q * q - (a.mine.roads.l.getD r.toNat default).lift.low⟩:=if_neg h
theorem Jgg {a:XAir} {s:XSetting} (h:AirOk a) {r q:Int} (hr:0≤r∧r < a.mine.roads.l.length) (hq:-1048577≤q∧q≤1048577):∀(k:Nat),k≤a.fans.l.length→
    -4899925740432392192 - 2199023255552 * (k + 1)≤(innerTo a s r q k).low∧(innerTo a s r q k).low≤(innerTo a s r q k).high∧(innerTo a s r q k).high≤4899925740432392192 + 2199023255552 * (k + 1)
  | 0,_=>by
    have hs:=Jfk hq
    have hn:=h.ndoors
    have hrb:=Jcz (s:=s) h hr a.doors.l.length (Nat.le_refl _)
    have hl:=(h.mine.road r.toNat _ (Jai default (by omega))).lift
    have h1:=Jd0 (r:=(Jbq a s r a.doors.l.length).low) (by omega) hs
    have h2:=Jd0 (r:=(Jbq a s r a.doors.l.length).high) (by omega) hs
    have h3:(Jbq a s r a.doors.l.length).low * (q * q)≤(Jbq a s r a.doors.l.length).high * (q * q):=Int.mul_le_mul_of_nonneg_right hrb.2.1 hs.1
    rcases Int.lt_or_le q 0 with h' | h'
    · rw [Jhs h',Int.mul_assoc,Int.mul_assoc];dsimp only;omega
    · rw [Jg2 (by omega),Int.mul_assoc,Int.mul_assoc];dsimp only;omega
  | k + 1,hk=>by
    have ih:=Jgg (s:=s) h hr hq k (by omega)
    have hb:=Jd9 (h.fan k _ (Jai default (by omega))).1 (s.fans.l.getD k 0) q
    simp only [innerTo]
    split
    · dsimp only;omega
    · omega
theorem Jt3 (a:XAir) (s:XSetting) (r q:Int) (L:List Blk) (R:List Sl) (hm:AirR a R) (hs:SetR s R) (ha:AirOk a) (hf:FitOk a s) (hr:0≤r∧r < a.mine.roads.l.length) (hq:-1048577≤q∧q≤1048577):
    Tri Try.prog 50 [a.val,s.val,.int .i64 r,.int .i64 q].toArray L R (fun v L' R'=>v=(Ja8 a s r q).val∧L=L'∧R=R'):=by
  have hmr:=hm.roads
  have hfa:=hm.fans
  have hdo:=hm.doors
  have hsf:=hs.fans
  have hsd:=hs.doors
  have hnd:=ha.ndoors
  have hnf:=ha.nfans
  have hlf:=hf.lf
  have hld:=hf.ld
  have hro:=Jai (l:=a.mine.roads.l) (k:=r.toNat) default (by omega)
  have hrl:=(ha.mine.road _ _ hro).lift
  have hsq:=Jfk hq
  refine Jae 138 Try.call50 Try.func50 rfl rfl rfl ?_
  refine Xaj ?_
  intro b4
  refine qax ?_
  intro b5
  refine qaq ?_
  intro b8
  refine qam ?_
  refine Xc2 ?_
  refine J4g ?_
  refine qc8 ?_
  refine qaq ?_
  intro b9
  refine Xbe ?_
  refine Xb4 ?_
  refine qaq ?_
  intro b10
  refine Xbk ?_
  refine Xav ?_
  refine Jag [(2,Value.int _ _),(3,Value.int _ _),(4,Value.pointer _),(5,Value.pointer _),(8,Value.pointer _),(9,Value.pointer _),(10,Value.pointer _),(11,Value.int _ _)] (by repeat' (first | exact trivial | refine And.intro rfl ?_)) fun tq0=>?_
  refine q_p [11,12,24,25,26,27,28,29,30,31,32,33,34,35,36,37,38,39,40,41,42,43,44,45,46,47,48,49,50,51,52,53,54,55,56,57,58,59,60,61] ((⟨fun g=>[(11,.int .i64 ((g.1:Nat):Int))],fun g=>⟨b10,[.int .i64 (Jbq a s r g.1).low,.int .i64 (Jbq a s r g.1).high],54⟩ :: ⟨b9,(a.mine.roads.l.getD r.toNat default).cells,75⟩ :: ⟨b8,[.int .i64 0,.int .i64 0],54⟩ :: ⟨b5,s.cells,35⟩ :: ⟨b4,a.cells,32⟩ :: L,fun _=>R,fun g=>a.doors.l.length - g.1⟩:Head {k:Nat // k≤a.doors.l.length})) (⟨0,by omega⟩) ?_
  rintro ⟨k,hk⟩ junk
  try dsimp only
  refine Xbq ?_
  refine q_c (fun hc0=>?_) (fun hc0=>?_)
  ·
   have hx:=Jai (l:=a.doors.l) (k:=k) default (by omega)
   have hy:=Jai (l:=s.doors.l) (k:=k) 0 (by omega)
   have hrb:=Jcz (s:=s) ha hr k (by omega)
   have hdb:=Jh8 (ha.door _ _ hx).1 (s.doors.l.getD k 0)
   refine Xci ?_
   refine qa3 ?_
   refine Xbc ?_
   refine qaa ?_
   refine Xb2 ?_
   refine q_c (fun hc1=>?_) (fun hc1=>?_)
   ·
    have e:Jbq a s r (k + 1)=_:=if_pos hc1
    refine Jan ?_
    refine Ja5 tb [0,1,2,3,4,5,6,7,8,9,10,11,12] _ Jbh (by kernel_rfl) (List.Sublist.refl _) ?_
    refine Xb6 ?_
    refine qdv ?_
    refine Xb6 ?_
    refine qbl ?_
    refine q_d rfl (Jkr (a.doors.l.getD k default) (s.doors.l.getD k 0) _ _ (hdo.door hx)) ?_
    refine qbr ?_
    intro b12
    refine qbg ?_
    refine qbu ?_
    refine Jaz tb [57,58,59] [0,1,2,3,4,5,6,7,8,9,10] [11,12,13] (_) _ Jbh (by kernel_rfl) (by repeat (first | exact zs0 _ | exact zs1 _ | apply zs2 | apply zs3 | apply zs4 | apply zs5)) (by (repeat (first | apply List.Sublist.cons (a:=Blk.mk b10 _ _) | apply List.Sublist.cons_cons));exact List.Sublist.refl _) ?_
    refine Xac ?_
    refine Xac ?_
    refine qcj ?_
    refine Xac ?_
    refine Xb8 ?_
    refine Jgf (by first | exact Jkb rfl rfl (by omega) (by omega) | exact Jn7 rfl rfl (by omega) (by omega) | exact Jny rfl rfl) rfl rfl rfl rfl ?_
    refine Xc0 ?_
    refine qal ?_
    refine qb6 ?_
    refine Xb7 ?_
    exact Jau ⟨k + 1,by omega⟩ (by repeat (first | exact Off.refl | apply Off.upd rfl | apply Off.havoc rfl | apply Off.updL rfl | apply Off.left rfl)) (by repeat' (first | exact trivial | refine And.intro rfl ?_)) (by dsimp only;rw [e];exact (by repeat (first | exact zs0 _ | exact zs1 _ | apply zs2 | apply zs3 | apply zs4 | apply zs5))) (Jac _) (by dsimp only;omega)
   have e:Jbq a s r (k + 1)=_:=if_neg hc1
   refine Xbg ?_
   exact Jau ⟨k + 1,by omega⟩ (by repeat (first | exact Off.refl | apply Off.upd rfl | apply Off.havoc rfl | apply Off.updL rfl | apply Off.left rfl)) (by repeat' (first | exact trivial | refine And.intro rfl ?_)) (by dsimp only;rw [e];exact (by repeat (first | exact zs0 _ | exact zs1 _ | apply zs2 | apply zs3 | apply zs4 | apply zs5))) (Jac _) (by dsimp only;omega)
  obtain rfl:k=a.doors.l.length:=by omega
  have hrb:=Jcz (s:=s) ha hr a.doors.l.length (Nat.le_refl _)
  have g1:=Jd0 (r:=(Jbq a s r a.doors.l.length).low) (by omega) hsq
  have g2:=Jd0 (r:=(Jbq a s r a.doors.l.length).high) (by omega) hsq
  have g3:=Jpr (r:=(Jbq a s r a.doors.l.length).low) (by omega) hq
  have g4:=Jpr (r:=(Jbq a s r a.doors.l.length).high) (by omega) hq
  rw [← Int.mul_assoc] at g1 g2
  refine qbk ?_
  refine Xah ?_
  refine qcm ?_
  refine Xcc ?_
  refine Xah ?_
  refine qcm ?_
  refine Xcc ?_
  refine qcd ?_
  refine qaq ?_
  intro b13
  refine Xbk ?_
  refine qaa ?_
  refine Xan ?_
  refine q_c (fun hc2=>?_) (fun hc2=>?_)
  ·
   refine qay ?_
   refine Xaa ?_
   refine qcq ?_
   refine Xaa ?_
   refine qcq ?_
   refine qcd ?_
   refine qak ?_
   refine qa4 ?_
   refine J51 ?_
   refine Xac ?_
   refine Xcn ?_
   refine qcc ?_
   refine Xac ?_
   refine qcp ?_
   refine Xb8 ?_
   refine qdj ?_
   refine Xc0 ?_
   refine qal ?_
   refine qb6 ?_
   refine qc6 ?_
   refine Xav ?_
   refine Jag [(2,Value.int _ _),(3,Value.int _ _),(4,Value.pointer _),(5,Value.pointer _),(8,Value.pointer _),(13,Value.pointer _),(14,Value.int _ _)] (by repeat' (first | exact trivial | refine And.intro rfl ?_)) fun tq1=>?_
   refine Jcc [14,15,98,99,100,101,102,103,104,105,106,107,108,109,110,111,112,113,114,115,116,117,118,119,120,121,122,123,124,125,126,127,128,129,130,131,132,133,134,135,136] ((⟨fun g=>[(14,.int .i64 ((g.1:Nat):Int))],fun g=>⟨b13,[.int .i64 (innerTo a s r q g.1).low,.int .i64 (innerTo a s r q g.1).high],54⟩ :: ⟨b8,[.int .i64 0,.int .i64 0],54⟩ :: ⟨b5,s.cells,35⟩ :: ⟨b4,a.cells,32⟩ :: L,fun _=>R,fun g=>a.fans.l.length - g.1⟩:Head {k:Nat // k≤a.fans.l.length})) (⟨0,by omega⟩) (by repeat' (first | exact trivial | refine And.intro rfl ?_)) (by dsimp only;first | (rw [Jhs hc2];exact (by repeat (first | exact zs0 _ | exact zs1 _ | apply zs2 | apply zs3 | apply zs4 | apply zs5))) | (rw [Jg2 hc2];exact (by repeat (first | exact zs0 _ | exact zs1 _ | apply zs2 | apply zs3 | apply zs4 | apply zs5)))) (Jac _) ?_
   rintro ⟨k,hk⟩ junk
   try dsimp only
   refine Xbq ?_
   refine q_c (fun hc3=>?_) (fun hc3=>?_)
   ·
    have hx:=Jai (l:=a.fans.l) (k:=k) default (by omega)
    have hy:=Jai (l:=s.fans.l) (k:=k) 0 (by omega)
    have hib:=Jgg (s:=s) ha hr hq k (by omega)
    have hfo:=(ha.fan _ _ hx).1
    have hsb:=Jd9 hfo (s.fans.l.getD k 0) q
    refine Xci ?_
    refine qa3 ?_
    refine Xbc ?_
    refine qaa ?_
    refine Xb2 ?_
    refine q_c (fun hc4=>?_) (fun hc4=>?_)
    ·
     have e:innerTo a s r q (k + 1)=_:=if_pos hc4
     refine Jan ?_
     refine Ja5 tb [0,1,2,3,4,5,6,7,8,9,10,11,12,13] _ Jbh (by kernel_rfl) (List.Sublist.refl _) ?_
     refine Xb6 ?_
     refine qdp ?_
     refine Xb6 ?_
     refine qbl ?_
     refine qao ?_
     refine q_d rfl (Jjz (a.fans.l.getD k default) (s.fans.l.getD k 0) q _ _ (hfa.fan hx) hfo hq (hf.fan _ _ hy)) ?_
     refine qbr ?_
     intro b15
     refine qbg ?_
     refine qbu ?_
     refine J4n ?_
     refine Xac ?_
     refine Xac ?_
     refine qcc ?_
     refine Xac ?_
     refine Xb8 ?_
     refine qdj ?_
     refine Xc0 ?_
     refine qal ?_
     refine qb6 ?_
     refine Xb7 ?_
     exact Jau ⟨k + 1,by omega⟩ (by repeat (first | exact Off.refl | apply Off.upd rfl | apply Off.havoc rfl | apply Off.updL rfl | apply Off.left rfl)) (by repeat' (first | exact trivial | refine And.intro rfl ?_)) (by dsimp only;rw [e];exact (by repeat (first | exact zs0 _ | exact zs1 _ | apply zs2 | apply zs3 | apply zs4 | apply zs5))) (Jac _) (by dsimp only;omega)
    have e:innerTo a s r q (k + 1)=_:=if_neg hc4
    refine Xbg ?_
    exact Jau ⟨k + 1,by omega⟩ (by repeat (first | exact Off.refl | apply Off.upd rfl | apply Off.havoc rfl | apply Off.updL rfl | apply Off.left rfl)) (by repeat' (first | exact trivial | refine And.intro rfl ?_)) (by dsimp only;rw [e];exact (by repeat (first | exact zs0 _ | exact zs1 _ | apply zs2 | apply zs3 | apply zs4 | apply zs5))) (Jac _) (by dsimp only;omega)
   obtain rfl:k=a.fans.l.length:=by omega
   refine qbk ?_
   refine Xcs ?_
   refine q_r (L':=L) (R':=R) (Jd4 rfl (Ja0 (row:=[_,_]) tb rfl rfl rfl (by repeat (first | exact zi0 | apply zi1 | apply zi2)) (by rfl) (by rfl))) ?_
   exact ⟨rfl,rfl,rfl⟩
  refine qcl ?_
  refine J51 ?_
  refine Xac ?_
  refine Xcn ?_
  refine qcc ?_
  refine Xac ?_
  refine qcp ?_
  refine Xb8 ?_
  refine qdj ?_
  refine Xc0 ?_
  refine qal ?_
  refine qb6 ?_
  refine qc6 ?_
  refine Xav ?_
  refine Jag [(2,Value.int _ _),(3,Value.int _ _),(4,Value.pointer _),(5,Value.pointer _),(8,Value.pointer _),(13,Value.pointer _),(14,Value.int _ _)] (by repeat' (first | exact trivial | refine And.intro rfl ?_)) fun tq1=>?_
  refine Jcc [14,15,98,99,100,101,102,103,104,105,106,107,108,109,110,111,112,113,114,115,116,117,118,119,120,121,122,123,124,125,126,127,128,129,130,131,132,133,134,135,136] ((⟨fun g=>[(14,.int .i64 ((g.1:Nat):Int))],fun g=>⟨b13,[.int .i64 (innerTo a s r q g.1).low,.int .i64 (innerTo a s r q g.1).high],54⟩ :: ⟨b8,[.int .i64 0,.int .i64 0],54⟩ :: ⟨b5,s.cells,35⟩ :: ⟨b4,a.cells,32⟩ :: L,fun _=>R,fun g=>a.fans.l.length - g.1⟩:Head {k:Nat // k≤a.fans.l.length})) (⟨0,by omega⟩) (by repeat' (first | exact trivial | refine And.intro rfl ?_)) (by dsimp only;first | (rw [Jhs hc2];exact (by repeat (first | exact zs0 _ | exact zs1 _ | apply zs2 | apply zs3 | apply zs4 | apply zs5))) | (rw [Jg2 hc2];exact (by repeat (first | exact zs0 _ | exact zs1 _ | apply zs2 | apply zs3 | apply zs4 | apply zs5)))) (Jac _) ?_
  rintro ⟨k,hk⟩ junk
  try dsimp only
  refine Xbq ?_
  refine q_c (fun hc3=>?_) (fun hc3=>?_)
  ·
   have hx:=Jai (l:=a.fans.l) (k:=k) default (by omega)
   have hy:=Jai (l:=s.fans.l) (k:=k) 0 (by omega)
   have hib:=Jgg (s:=s) ha hr hq k (by omega)
   have hfo:=(ha.fan _ _ hx).1
   have hsb:=Jd9 hfo (s.fans.l.getD k 0) q
   refine Xci ?_
   refine qa3 ?_
   refine Xbc ?_
   refine qaa ?_
   refine Xb2 ?_
   refine q_c (fun hc4=>?_) (fun hc4=>?_)
   ·
    have e:innerTo a s r q (k + 1)=_:=if_pos hc4
    refine Jan ?_
    refine Ja5 tb [0,1,2,3,4,5,6,7,8,9,10,11,12,13] _ Jbh (by kernel_rfl) (List.Sublist.refl _) ?_
    refine Xb6 ?_
    refine qdp ?_
    refine Xb6 ?_
    refine qbl ?_
    refine qao ?_
    refine q_d rfl (Jjz (a.fans.l.getD k default) (s.fans.l.getD k 0) q _ _ (hfa.fan hx) hfo hq (hf.fan _ _ hy)) ?_
    refine qbr ?_
    intro b15
    refine qbg ?_
    refine qbu ?_
    refine J4n ?_
    refine Xac ?_
    refine Xac ?_
    refine qcc ?_
    refine Xac ?_
    refine Xb8 ?_
    refine qdj ?_
    refine Xc0 ?_
    refine qal ?_
    refine qb6 ?_
    refine Xb7 ?_
    exact Jau ⟨k + 1,by omega⟩ (by repeat (first | exact Off.refl | apply Off.upd rfl | apply Off.havoc rfl | apply Off.updL rfl | apply Off.left rfl)) (by repeat' (first | exact trivial | refine And.intro rfl ?_)) (by dsimp only;rw [e];exact (by repeat (first | exact zs0 _ | exact zs1 _ | apply zs2 | apply zs3 | apply zs4 | apply zs5))) (Jac _) (by dsimp only;omega)
   have e:innerTo a s r q (k + 1)=_:=if_neg hc4
   refine Xbg ?_
   exact Jau ⟨k + 1,by omega⟩ (by repeat (first | exact Off.refl | apply Off.upd rfl | apply Off.havoc rfl | apply Off.updL rfl | apply Off.left rfl)) (by repeat' (first | exact trivial | refine And.intro rfl ?_)) (by dsimp only;rw [e];exact (by repeat (first | exact zs0 _ | exact zs1 _ | apply zs2 | apply zs3 | apply zs4 | apply zs5))) (Jac _) (by dsimp only;omega)
  obtain rfl:k=a.fans.l.length:=by omega
  refine qbk ?_
  refine Xcs ?_
  refine q_r (L':=L) (R':=R) (Jd4 rfl (Ja0 (row:=[_,_]) tb rfl rfl rfl (by repeat (first | exact zi0 | apply zi1 | apply zi2)) (by rfl) (by rfl))) ?_
  exact ⟨rfl,rfl,rfl⟩
end Go.Proofs.Ytihompplndcdeaa
end
section
namespace Go.Proofs.Ytihompplndcdeaa
open Go.Aw Go
set_option maxRecDepth 20000
attribute [local irreducible] CJ LJ DJ Tri YV Gives Jdn Jaw Jbk Jdo RV Jay
def Jwv (a:XAir) (s:XSetting) (r:Int):Bool:=
  ((Jea a s && decide (0≤r)) && decide (r < (a.mine.roads.l.length:Int))) && !(a.mine.roads.l.getD r.toNat default).closed
def Jyx (a:XAir) (s:XSetting) (r q:Int):XSpan:=if Jwv a s r=false∨q < -1048577∨1048577 < q then ⟨0,0⟩ else Ja8 a s r q
theorem J21 {a:XAir} {s:XSetting} {r:Int} (h:Jwv a s r=true):AirOk a∧FitOk a s∧(0≤r∧r < a.mine.roads.l.length)∧(a.mine.roads.l.getD r.toNat default).closed=false:=by
  simp only [Jwv,Bool.and_eq_true,decide_eq_true_eq,Bool.not_eq_true'] at h
  obtain ⟨⟨⟨h1,h2⟩,h3⟩,h4⟩:=h
  exact ⟨(Jfr h1).1,(Jfr h1).2,⟨h2,h3⟩,h4⟩
theorem J1i (a:XAir) (s:XSetting) (r:Int) (L:List Blk) (R:List Sl) (hm:AirR a R) (hs:SetR s R):
    Tri Try.prog 49 [a.val,s.val,.int .i64 r].toArray L R (fun v L' R'=>v=.bool (Jwv a s r)∧L=L'∧R=R'):=by
  have hmr:=hm.roads
  refine Jae 32 Try.call49 Try.func49 rfl rfl rfl ?_
  refine Xaj ?_
  intro b3
  refine qax ?_
  intro b4
  refine Xct ?_
  refine Xaz ?_
  refine q_l rfl (Jjc a s _ _ hm hs) ?_
  refine qah ?_
  apply Jb3 (G:=[_,_]) (j:=3) (cj:=10) rfl rfl (by rfl) rfl (show _=Value.bool _ from rfl) rfl
  ·
   intro hg4
   replace hg4:=qb hg4
   refine qaa ?_
   refine qbz ?_
   exact qai
  intro junk4
  refine qah ?_
  apply Jb3 (G:=[_,_,_,_,_,_]) (j:=7) (cj:=14) rfl rfl (by rfl) rfl (show _=Value.bool _ from rfl) rfl
  ·
   intro hg8
   replace hg8:=qb hg8
   refine qaa ?_
   refine Xa7 ?_
   refine qaj ?_
   exact qai
  intro junk8
  refine qah ?_
  apply Jb3 (G:=[_,_,_,_,_,_,_,_]) (j:=15) (cj:=22) rfl rfl (by rfl) rfl (show _=Value.bool _ from rfl) rfl
  ·
   intro hg16
   replace hg16:=qb hg16
   have hro:=Jai (l:=a.mine.roads.l) (k:=r.toNat) default (by omega)
   refine Xc2 ?_
   refine J4g ?_
   refine Xbc ?_
   refine qb4 ?_
   exact qai
  intro junk16
  refine Xa9 ?_
  refine q_b (L':=L) (R':=R) ?_
  exact ⟨rfl,rfl,rfl⟩
theorem Jq9 (a:XAir) (s:XSetting) (r q:Int) (L:List Blk) (R:List Sl) (hm:AirR a R) (hs:SetR s R):
    Tri Try.prog 31 [a.val,s.val,.int .i64 r,.int .i64 q].toArray L R (fun v L' R'=>v=(Jyx a s r q).val∧L=L'∧R=R'):=by
  refine Jae 28 Try.call31 Try.func31 rfl rfl rfl ?_
  refine Xaj ?_
  intro b4
  refine qax ?_
  intro b5
  refine qaq ?_
  intro b8
  refine qaw ?_
  refine Xaz ?_
  refine qaa ?_
  refine q_l rfl (J1i a s r _ _ hm hs) ?_
  refine qb4 ?_
  refine qah ?_
  apply Jbi (G:=[_,_]) (j:=5) (cj:=14) rfl rfl (by rfl) rfl (show _=Value.bool _ from rfl) rfl
  ·
   intro hg6
   replace hg6:=qb hg6
   refine qaa ?_
   refine qaj ?_
   exact qai
  intro junk6
  refine qah ?_
  apply Jbi (G:=[_,_]) (j:=9) (cj:=18) rfl rfl (by rfl) rfl (show _=Value.bool _ from rfl) rfl
  ·
   intro hg10
   replace hg10:=qb hg10
   refine qaa ?_
   refine qa5 ?_
   exact qai
  intro junk10
  refine qaf ?_
  refine q_c (fun hc0=>?_) (fun hc0=>?_)
  ·
   refine qae ?_
   refine qck ?_
   refine qak ?_
   refine qbh ?_
   refine q_r (L':=L) (R':=R) (Jd4 rfl (Ja0 (row:=[_,_]) tb rfl rfl rfl (by repeat (first | exact zi0 | apply zi1 | apply zi2)) (by rfl) (by rfl))) ?_
   exact ⟨by rw [Jyx,if_pos (by simpa [or_assoc] using hc0)],rfl,rfl⟩
  obtain ⟨ha,hf,hr,hcl⟩:=J21 (by simpa using hc0.1.1)
  refine qbv ?_
  refine Xaz ?_
  refine qaa ?_
  refine qaa ?_
  refine q_l rfl (Jt3 a s r q _ _ hm hs ha hf hr (by omega)) ?_
  refine Xbp ?_
  refine q_r (L':=L) (R':=R) (Jd4 rfl (Ja0 (row:=[_,_]) tb rfl rfl rfl (by repeat (first | exact zi0 | apply zi1 | apply zi2)) (by rfl) (by rfl))) ?_
  exact ⟨by rw [Jyx,if_neg (by simpa [and_assoc] using hc0)],rfl,rfl⟩
end Go.Proofs.Ytihompplndcdeaa
end
