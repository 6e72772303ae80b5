/-
  Fans: FanN, FanS, FanW, Pipe, Search, AirS, Inner, Ref09, in one text. By an AI agent; no person has read it.
-/
import Derived.Test.YtihompplndcdeaaGreatChecks
section
variable {A9 B9:Prop}
theorem J6f (a:A9) (h:A9→B9:=by exact Ja8 tb [92,93,94,95] [0,1,2,3,4,5,6,7,8,9,10,11,12] [13,14,15] (_) _ Jbn (by kernel_rfl) (by repeat (first | exact zs0 _ | exact zs1 _ | apply zs2 | apply zs3 | apply zs4 | apply zs5)) (by (repeat (first | apply List.Sublist.cons (a:=Blk.mk b13 _ _) | apply List.Sublist.cons_cons));exact List.Sublist.refl _)):B9:=h a
theorem J72 (a:A9) (h:A9→B9:=by exact Ja8 tb [132,133,134] [0,1,2,3,4,5,6,7,8,9,10] [11,12,13] (_) _ Jbn (by kernel_rfl) (by repeat (first | exact zs0 _ | exact zs1 _ | apply zs2 | apply zs3 | apply zs4 | apply zs5)) (by (repeat (first | apply List.Sublist.cons (a:=Blk.mk b13 _ _) | apply List.Sublist.cons_cons));exact List.Sublist.refl _)):B9:=h a
end
section
namespace Go.Proofs.YtihompplndcdeaaGreat
open Go.Aw Go
set_option maxRecDepth 20000
attribute [local irreducible] CJ LJ DJ Tri YV Gives Jd5 Jbd Jbz Jd4 RV Jbf
theorem J0v (x y:Int) (L:List Blk) (R:List Sl) (hx:0≤x) (hx2:x≤2199023255552) (hy:0≤y) (hy2:y≤4194304):
    Tri Tryz.prog 135 [.int .u64 x,.int .u64 y].toArray L R (fun v L' R'=>v=.tuple #[.int .u64 0,.int .u64 (x * y)]∧L=L'∧R=R'):=by
  have e1:y % 4294967296=y:=by omega
  have e2:y / 4294967296=0:=by omega
  have b0:0≤x % 4294967296 * y:=Int.mul_nonneg (by omega) hy
  have b1:x % 4294967296 * y≤4294967296 * 4194304:=Int.mul_le_mul (by omega) hy2 hy (by omega)
  have c0:0≤x / 4294967296 * y:=Int.mul_nonneg (by omega) hy
  have c1:x / 4294967296 * y≤512 * 4194304:=Int.mul_le_mul (by omega) hy2 hy (by omega)
  have d0:0≤x * y:=Int.mul_nonneg hx hy
  have d1:x * y≤2199023255552 * 4194304:=Int.mul_le_mul hx2 hy2 hy (by omega)
  refine Jae 51 Tryz.call135 Tryz.func135 rfl rfl rfl ?_
  refine Xaj ?_
  refine Xav ?_
  refine Ja2 (Jpd rfl rfl (by omega) (by omega)) rfl ?_
  refine Xav ?_
  refine Ja2 (Jk1 rfl rfl) rfl ?_
  refine Xav ?_
  refine Ja2 (Jpd rfl rfl (by omega) (by omega)) rfl ?_
  refine Xav ?_
  refine Ja2 (Jk1 rfl rfl) rfl ?_
  refine Xd9 ?_
  simp only [e1,e2]
  refine qay ?_
  refine Xbx ?_
  refine qcm ?_
  refine Xav ?_
  refine Xdt ?_
  refine qaa ?_
  refine Ja2 (Jk1 rfl rfl) rfl ?_
  refine Xac ?_
  refine qam ?_
  refine qaa ?_
  refine Ja2 (Jpd rfl rfl (by omega) (by omega)) rfl ?_
  refine Xav ?_
  refine Ja2 (Jk1 rfl rfl) rfl ?_
  refine Xal ?_
  iterate 3 refine qaa ?_
  refine qcm ?_
  refine Xac ?_
  refine qam ?_
  refine Xbx ?_
  refine qcm ?_
  refine qaa ?_
  refine Xam ?_
  refine Ja2 (Jk1 rfl rfl) rfl ?_
  refine Xac ?_
  refine qam ?_
  refine Xbx ?_
  refine qcm ?_
  refine Xbe ?_
  have key:(x / 4294967296 * y + x % 4294967296 * y / 4294967296) / 4294967296 + (x / 4294967296 * y + x % 4294967296 * y / 4294967296) % 4294967296 / 4294967296=0:=by omega
  refine q_r (L':=L) (R':=R) (Jc8 rfl (Jah (show _=Value.int _ _ from rfl)) (Jah (show _=Value.int _ _ from rfl))) ?_
  exact ⟨by simp [key],rfl,rfl⟩
theorem J0w (lo y:Int) (L:List Blk) (R:List Sl) (hx:0≤lo) (hx2:lo≤18446744073709551615) (hy:0 < y) (hy2:y≤18446744073709551615):
    Tri Tryz.prog 136 [.int .u64 0,.int .u64 lo,.int .u64 y].toArray L R (fun v L' R'=>v=.tuple #[.int .u64 (lo / y),.int .u64 (lo % y)]∧L=L'∧R=R'):=by
  refine Jae 135 Tryz.call136 Tryz.func136 rfl rfl rfl ?_
  refine Xaj ?_
  refine Xa5 ?_
  refine Xdy ?_
  refine Jls (show _=Value.bool _ from rfl) (by simp;omega) ?_
  refine qbo ?_
  refine Xbx ?_
  refine Xdu ?_
  refine Jls (show _=Value.bool _ from rfl) (by simp;omega) ?_
  refine qbo ?_
  refine Xdy ?_
  refine J0t (show _=Value.bool _ from rfl) (by simp) ?_
  refine Jam ?_
  refine Jbb tb [0,1,2,3,4,5,6,7] _ Jbn (by kernel_rfl) (List.Sublist.refl _) ?_
  refine Xeb ?_
  refine Jbu (by first | exact Jwa rfl rfl (by omega) (by omega) (by omega) | exact J0y rfl rfl (by omega) (by omega) (by omega) | exact Jxp rfl rfl (by omega)) rfl rfl rfl ?_
  refine Xeb ?_
  refine Jbu (by first | exact J0q rfl rfl (by omega) (by omega) | exact J0k rfl rfl (by omega)) rfl rfl rfl ?_
  refine qcg ?_
  refine qcg ?_
  refine Jbt (Jaa (Jc5 (Ja7 ?_)))
  refine q_r (L':=L) (R':=R) (Jc8 rfl (Jah (show _=Value.int _ _ from rfl)) (Jah (show _=Value.int _ _ from rfl))) ?_
  exact ⟨rfl,rfl,rfl⟩
def Jc4 (a b:XPoint) (q:Int):XSpan:=
  ⟨a.pres - (a.pres - b.pres) * (q - a.flow) / (b.flow - a.flow) - (if 0 < (a.pres - b.pres) * (q - a.flow) % (b.flow - a.flow) then 1 else 0),a.pres - (a.pres - b.pres) * (q - a.flow) / (b.flow - a.flow)⟩
theorem Jvx (a b:XPoint) (q:Int) (L:List Blk) (R:List Sl) (hp:0≤b.pres∧b.pres≤a.pres∧a.pres≤2199023255552) (hf:-1048576≤a.flow∧a.flow≤q∧q≤b.flow∧a.flow < b.flow∧b.flow≤1048576):
    Tri Tryz.prog 134 [a.val,b.val,.int .i64 q].toArray L R (fun v L' R'=>v=(Jc4 a b q).val∧L=L'∧R=R'):=by
  have d0:0≤(a.pres - b.pres) * (q - a.flow):=Int.mul_nonneg (by omega) (by omega)
  have d1:(a.pres - b.pres) * (q - a.flow)≤2199023255552 * 4194304:=Int.mul_le_mul (by omega) (by omega) (by omega) (by omega)
  have d2:0≤(a.pres - b.pres) * (q - a.flow) / (b.flow - a.flow):=Int.ediv_nonneg d0 (by omega)
  have d3:(a.pres - b.pres) * (q - a.flow) / (b.flow - a.flow)≤a.pres - b.pres:=by
    refine Int.ediv_le_of_le_mul (by omega) ?_
    exact Int.mul_le_mul_of_nonneg_left (by omega) (by omega)
  refine Jae 57 Tryz.call134 Tryz.func134 rfl rfl rfl ?_
  refine Xai ?_
  intro b3
  refine qax ?_
  intro b4
  refine qaq ?_
  intro b6
  refine qam ?_
  refine Xa3 ?_
  refine qa9 ?_
  refine qdg ?_
  refine qaa ?_
  refine Xaa ?_
  refine qa9 ?_
  refine qdg ?_
  refine q_l rfl (J0v _ _ _ _ (by omega) (by omega) (by omega) (by omega)) ?_
  refine Ja2 (Jar rfl) rfl ?_
  refine Xdw ?_
  refine Xav ?_
  refine qaa ?_
  refine Xa3 ?_
  refine qa9 ?_
  refine qdg ?_
  refine q_l rfl (J0w _ _ _ _ (by omega) (by omega) (by omega) (by omega)) ?_
  refine Ja2 (Jar rfl) rfl ?_
  refine Xdw ?_
  refine Xal ?_
  refine Xak ?_
  refine qdg ?_
  refine qa9 ?_
  refine Xak ?_
  refine qdg ?_
  refine qa9 ?_
  refine qcd ?_
  refine qaq ?_
  intro b11
  refine Xbm ?_
  refine qaa ?_
  refine Xb9 ?_
  refine q_c (fun hc0=>?_) (fun hc0=>?_)
  ·
   refine qay ?_
   refine Xaa ?_
   refine Xed ?_
   refine qam ?_
   refine Xdg ?_
   refine q_r (L':=L) (R':=R) (Jdi rfl (Jax (row:=[_,_]) tb rfl rfl rfl (by repeat (first | exact zi0 | apply zi1 | apply zi2)) (by rfl) (by rfl))) ?_
   exact ⟨by simp [Jc4,XSpan.val,hc0],rfl,rfl⟩
  refine qbv ?_
  refine Xdg ?_
  refine q_r (L':=L) (R':=R) (Jdi rfl (Jax (row:=[_,_]) tb rfl rfl rfl (by repeat (first | exact zi0 | apply zi1 | apply zi2)) (by rfl) (by rfl))) ?_
  exact ⟨by simp [Jc4,XSpan.val,hc0],rfl,rfl⟩
end Go.Proofs.YtihompplndcdeaaGreat
end
section
namespace Go.Proofs.YtihompplndcdeaaGreat
open Go.Aw Go
structure CurveOk (l:List XPoint):Prop where
  pt:∀(i:Nat) (p:XPoint),l[i]?=some p→-1048576≤p.flow∧p.flow≤1048576∧0≤p.pres∧p.pres≤2199023255552
  st:∀(i:Nat) (p r:XPoint),l[i]?=some p→l[i + 1]?=some r→p.flow < r.flow∧r.pres≤p.pres
structure FanOk (f:XFan):Prop where
  road:0≤f.road
  len1:1≤f.curve.l.length
  len8:f.curve.l.length≤8
  ok:CurveOk f.curve.l
theorem J3a {f:XFan} (h:Jf2 f=0):FanOk f:=by
  unfold Jf2 at h
  split at h
  · cases h
  rename_i h1
  split at h
  · cases h
  rename_i h2
  have hn:(List.range f.curve.l.length).findSome? (Jdp f.curve.l)=none:=by
    cases hf:(List.range f.curve.l.length).findSome? (Jdp f.curve.l) with
    | none=>rfl
    | some e=>
      rw [hf] at h
      simp only [Option.getD_some] at h
      subst h
      obtain ⟨i,_,hi⟩:=List.exists_of_findSome?_eq_some hf
      unfold Jdp at hi
      split at hi
      · cases hi
      · split at hi
        · cases hi
        · split at hi
          · cases hi
          · split at hi
            · cases hi
            · split at hi <;> cases hi
  have hall:∀(i:Nat) (p:XPoint),f.curve.l[i]?=some p→Jdp f.curve.l i=none:=fun i p hp=>by
    obtain ⟨hi,_⟩:=List.getElem?_eq_some_iff.1 hp
    exact List.findSome?_eq_none_iff.1 hn i (List.mem_range.2 hi)
  have hpt:∀(i:Nat) (p:XPoint),f.curve.l[i]?=some p→-1048576≤p.flow∧p.flow≤1048576∧0≤p.pres∧p.pres≤2199023255552:=fun i p hp=>by
    have:=hall i p hp
    by_cases hr:p.flow < -1048576∨1048576 < p.flow∨p.pres < 0∨2199023255552 < p.pres
    · rw [Jp9 hp hr] at this;cases this
    · omega
  refine ⟨by omega,by omega,by omega,hpt,fun i p r hp hr=>?_⟩
  have:=hall (i + 1) r hr
  have b:=hpt _ _ hr
  by_cases hb:r.flow≤p.flow∨p.pres < r.pres
  · rw [Jnm hr (by omega) (by omega) (by simpa using hp) hb] at this;cases this
  · omega
def Jd7 (p : XPoint) : List XPoint → Int → XSpan
  | [],_=>⟨p.pres,p.pres⟩
  | r :: rest,q=>if q≤r.flow then Jc4 p r q else Jd7 r rest q
def Jdo (l:List XPoint) (q:Int):XSpan:=
  match l with
  | []=>⟨0,0⟩
  | p :: rest=>if q≤p.flow then ⟨p.pres,p.pres⟩ else Jd7 p rest q
def J40 (s:XSpan):XSpan:=⟨-s.high,-s.low⟩
def Jdx (l:List XPoint) (back:Bool) (q:Int):XSpan:=if back then J40 (Jdo l (-q)) else Jdo l q
def Jcn (f:XFan) (s q:Int):XSpan:=
  if s=1 then Jdx f.curve.l f.back q else if s=2 then Jdx f.curve.l (!f.back) q
  else if s= -1 then ⟨min (min 0 (Jdx f.curve.l false q).low) (Jdx f.curve.l true q).low,max (max 0 (Jdx f.curve.l false q).high) (Jdx f.curve.l true q).high⟩
  else ⟨0,0⟩
theorem Jjt {a b:XPoint} {q:Int} (hp:0≤b.pres∧b.pres≤a.pres∧a.pres≤2199023255552) (hf:-1048576≤a.flow∧a.flow≤q∧q≤b.flow∧a.flow < b.flow∧b.flow≤1048576):
    b.pres≤(Jc4 a b q).low∧(Jc4 a b q).low≤(Jc4 a b q).high∧(Jc4 a b q).high≤a.pres:=by
  unfold Jc4
  have d0:0≤(a.pres - b.pres) * (q - a.flow):=Int.mul_nonneg (by omega) (by omega)
  have d1:(a.pres - b.pres) * (q - a.flow)≤(a.pres - b.pres) * (b.flow - a.flow):=Int.mul_le_mul_of_nonneg_left (by omega) (by omega)
  generalize (a.pres - b.pres) * (q - a.flow)=N at *
  have hw:0 < b.flow - a.flow:=by omega
  generalize b.flow - a.flow=w at *
  have d2:0≤N / w:=Int.ediv_nonneg d0 (by omega)
  have d3:N / w≤a.pres - b.pres:=Int.ediv_le_of_le_mul hw d1
  have d4:=Int.mul_ediv_add_emod N w
  have d5:0≤N % w:=Int.emod_nonneg _ (by omega)
  dsimp only
  split
  · rename_i hr
    have:N / w < a.pres - b.pres:=by
      rcases Int.lt_or_le (N / w) (a.pres - b.pres) with h | h
      · exact h
      · have e : N / w = a.pres - b.pres := by omega
        rw [e] at d4
        rw [Int.mul_comm] at d4
        omega
    omega
  · omega
theorem Jev:∀(l:List XPoint) (p:XPoint) (q:Int),CurveOk (p :: l)→p.flow≤q→
    0≤(Jd7 p l q).low∧(Jd7 p l q).low≤(Jd7 p l q).high∧(Jd7 p l q).high≤p.pres
  | [],p,q,h,_=>by have:=h.pt 0 p rfl;simp only [Jd7];omega
  | r :: rest,p,q,h,hq=>by
    have h0:=h.pt 0 p rfl
    have h1:=h.pt 1 r rfl
    have h2:=h.st 0 p r rfl rfl
    unfold Jd7
    split
    · have := Jjt (a := p) (b := r) (q := q) (by omega) (by omega)
      omega
    · have := Jev rest r q ⟨fun i => h.pt (i + 1), fun i => h.st (i + 1)⟩ (by omega)
      omega
theorem Jf7 {l:List XPoint} (h:CurveOk l) (q:Int):0≤(Jdo l q).low∧(Jdo l q).low≤(Jdo l q).high∧(Jdo l q).high≤2199023255552:=by
  cases l with
  | nil=>simp [Jdo]
  | cons p rest=>
    have h0:=h.pt 0 p rfl
    unfold Jdo
    dsimp only
    split
    · first | omega | (dsimp only;omega)
    · have := Jev rest p q h (by omega)
      omega
theorem Jf8 {l:List XPoint} (h:CurveOk l) (back:Bool) (q:Int):-2199023255552≤(Jdx l back q).low∧(Jdx l back q).low≤(Jdx l back q).high∧(Jdx l back q).high≤2199023255552:=by
  have h1:=Jf7 h q
  have h2:=Jf7 h (-q)
  unfold Jdx J40
  split <;> first | omega | (dsimp only;omega)
theorem Jek {f:XFan} (h:FanOk f) (s q:Int):-2199023255552≤(Jcn f s q).low∧(Jcn f s q).low≤(Jcn f s q).high∧(Jcn f s q).high≤2199023255552:=by
  have h1:=Jf8 h.ok f.back q
  have h2:=Jf8 h.ok (!f.back) q
  have h3:=Jf8 h.ok false q
  have h4:=Jf8 h.ok true q
  unfold Jcn
  split
  · omega
  · split
    · omega
    · split <;> first | omega | (dsimp only;omega)
theorem J23 {a b:Int} (hb:0 < b):(if a.tmod b < 0 then a.tdiv b - 1 else a.tdiv b)=a / b:=by
  have h1:=Int.mul_tdiv_add_tmod a b
  have h2:-b < a.tmod b:=by have:=Int.lt_tmod_of_pos a hb;omega
  have h3:a.tmod b < b:=Int.tmod_lt_of_pos a hb
  split
  · have := (Int.ediv_emod_unique (a := a) (b := b) (q := a.tdiv b - 1) (r := a.tmod b + b) hb).2 ⟨by rw [Int.mul_sub]; omega, by omega, by omega⟩
    exact this.1.symm
  · have := (Int.ediv_emod_unique (a := a) (b := b) (q := a.tdiv b) (r := a.tmod b) hb).2 ⟨by omega, by omega, by omega⟩
    exact this.1.symm
theorem Jo1 {N w:Int} (hw:0 < w):(-N) / w= -(N / w) - (if 0 < N % w then 1 else 0):=by
  have h1:=Int.mul_ediv_add_emod N w
  have h2:=Int.emod_nonneg N (show w≠0 by omega)
  have h3:=Int.emod_lt_of_pos N hw
  split
  · have := (Int.ediv_emod_unique (a := -N) (b := w) (q := -(N / w) - 1) (r := w - N % w) hw).2 ⟨by rw [Int.mul_sub, Int.mul_neg]; omega, by omega, by omega⟩
    exact this.1
  · have := (Int.ediv_emod_unique (a := -N) (b := w) (q := -(N / w)) (r := 0) hw).2 ⟨by rw [Int.mul_neg]; omega, by omega, by omega⟩
    rw [this.1];omega
theorem Ju3 {a b:XPoint} {q:Int} (hw:a.flow < b.flow):
    (⟨a.pres + (b.pres - a.pres) * (q - a.flow) / (b.flow - a.flow),a.pres + -(-((b.pres - a.pres) * (q - a.flow)) / (b.flow - a.flow))⟩:XSpan)=Jc4 a b q:=by
  have e:(b.pres - a.pres) * (q - a.flow)= -((a.pres - b.pres) * (q - a.flow)):=by rw [← Int.neg_mul];congr 1;omega
  rw [e,Int.neg_neg,Jo1 (by omega)]
  unfold Jc4
  congr 1 <;> omega
theorem Jhs : ∀ (l : List XPoint) (r pn : XPoint), CurveOk (r :: l) → (r :: l)[l.length]? = some pn → r.flow ≤ pn.flow ∧ (l ≠ [] → r.flow < pn.flow)
  | [],r,pn,_,hn=>by simp at hn;subst hn;exact ⟨Int.le_refl _,fun h=>absurd rfl h⟩
  | s :: l,r,pn,ok,hn=>by
    have hs:=ok.st 0 r s rfl rfl
    have:=Jhs l s pn ⟨fun i=>ok.pt (i + 1),fun i=>ok.st (i + 1)⟩ (by simpa using hn)
    exact ⟨by omega,fun _=>by omega⟩
theorem Jmk : ∀ (l : List XPoint) (p pn : XPoint) (q : Int), CurveOk (p :: l) → (p :: l)[l.length]? = some pn → pn.flow ≤ q → (l = [] ∨ p.flow < q) → Jd7 p l q = ⟨pn.pres, pn.pres⟩
  | [],p,pn,q,_,hn,_,_=>by simp at hn;subst hn;rfl
  | r :: rest,p,pn,q,h,hn,hq,_=>by
    have h2:=h.st 0 p r rfl rfl
    have hn':(r :: rest)[rest.length]?=some pn:=by simpa using hn
    have ok':CurveOk (r :: rest):=⟨fun i=>h.pt (i + 1),fun i=>h.st (i + 1)⟩
    have hle:=Jhs rest r pn ok' hn'
    unfold Jd7
    split
    · rename_i hqr
      have hre:rest=[]:=by
        rcases rest with _ | ⟨s,rest⟩
        · rfl
        · have:=hle.2 (by simp);omega
      subst hre
      simp at hn';subst hn'
      have hqe:q=r.flow:=by omega
      subst hqe
      unfold Jc4
      have hw:0 < r.flow - p.flow:=by omega
      rw [Int.mul_ediv_cancel _ (by omega),Int.mul_emod_left]
      simp
      omega
    · exact Jmk rest r pn q ok' hn' hq (.inr (by omega))
theorem Juh {l:List XPoint} (h:CurveOk l) (h1:1≤l.length) {pn:XPoint} (hn:l[l.length - 1]?=some pn) (q:Int) (hq:pn.flow≤q):Jdo l q=⟨pn.pres,pn.pres⟩:=by
  cases l with
  | nil=>simp at h1
  | cons p rest=>
    have hn':(p :: rest)[rest.length]?=some pn:=by simpa using hn
    unfold Jdo
    dsimp only
    split
    · rename_i hp
      have hre:rest=[]:=by
        rcases rest with _ | ⟨s,rest⟩
        · rfl
        · exfalso
          have h2:=h.st 0 p s rfl rfl
          have:=Jhs rest s pn ⟨fun i=>h.pt (i + 1),fun i=>h.st (i + 1)⟩ (by simpa using hn')
          omega
      subst hre
      simp at hn';subst hn';rfl
    · exact Jmk rest p pn q h hn' hq (.inr (by omega))
theorem Jp3 : ∀ (l : List XPoint) (p0 : XPoint) (k : Nat) (p r : XPoint) (q : Int), CurveOk (p0 :: l) → (p0 :: l)[k]? = some p → (p0 :: l)[k + 1]? = some r → p.flow ≤ q → q < r.flow → p0.flow < q → Jd7 p0 l q = Jc4 p r q
  | [],p0,k,p,r,q,_,_,hr,_,_,_=>by simp at hr
  | s :: rest,p0,0,p,r,q,h,hp,hr,h1,h2,h3=>by
    simp at hp hr;subst hp;subst hr
    unfold Jd7
    rw [if_pos (by omega)]
  | s :: rest,p0,k + 1,p,r,q,h,hp,hr,h1,h2,h3=>by
    have ok':CurveOk (s :: rest):=⟨fun i=>h.pt (i + 1),fun i=>h.st (i + 1)⟩
    have h4:=h.st 0 p0 s rfl rfl
    have hp':(s :: rest)[k]?=some p:=by simpa using hp
    have hr':(s :: rest)[k + 1]?=some r:=by simpa using hr
    have hr2:=ok'.st k p r hp' hr'
    unfold Jd7
    split
    · rename_i hqs
      -- then the point at k is this one, and the flow is its own
      have mono:∀(j:Nat) (x y:XPoint),(s :: rest)[0]?=some x→(s :: rest)[j]?=some y→x.flow + j≤y.flow:=by
        intro j
        induction j with
        | zero=>intro x y hx hy;rw [hx] at hy;cases hy;omega
        | succ j ih=>
          intro x y hx hy
          obtain ⟨hj,_⟩:=List.getElem?_eq_some_iff.1 hy
          obtain ⟨z,hz⟩:=Ja0 (l:=s :: rest) (k:=j) (by omega)
          have:=ih x z hx hz
          have:=ok'.st j z y hz hy
          omega
      have hm:=mono k s p rfl hp'
      have hk:k=0:=by omega
      subst hk
      simp at hp';subst hp'
      have hqe:q=s.flow:=by omega
      subst hqe
      have hpr:=ok'.pt 0 s rfl
      unfold Jc4
      have hw:0 < s.flow - p0.flow:=by omega
      rw [Int.mul_ediv_cancel _ (by omega),Int.mul_emod_left,Int.sub_self,Int.mul_zero,Int.zero_ediv,Int.zero_emod]
      simp
      omega
    · exact Jp3 rest s k p r q ok' hp' hr' h1 h2 (by omega)
theorem J0f {l:List XPoint} (h:CurveOk l) {k:Nat} {p r:XPoint} {q:Int} (hp:l[k]?=some p) (hr:l[k + 1]?=some r) (h1:p.flow≤q) (h2:q < r.flow):Jdo l q=Jc4 p r q:=by
  cases l with
  | nil=>simp at hp
  | cons p0 rest=>
    unfold Jdo
    dsimp only
    split
    · rename_i hq
      have mono:∀(j:Nat) (y:XPoint),(p0 :: rest)[j]?=some y→p0.flow + j≤y.flow:=by
        intro j
        induction j with
        | zero=>intro y hy;simp at hy;subst hy;omega
        | succ j ih=>
          intro y hy
          obtain ⟨hj,_⟩:=List.getElem?_eq_some_iff.1 hy
          obtain ⟨z,hz⟩:=Ja0 (l:=p0 :: rest) (k:=j) (by omega)
          have:=ih z hz
          have:=h.st j z y hz hy
          omega
      have hm:=mono k p hp
      have hk:k=0:=by omega
      subst hk
      simp at hp;subst hp
      have hqe:q=p0.flow:=by omega
      subst hqe
      unfold Jc4
      rw [Int.sub_self,Int.mul_zero,Int.zero_ediv,Int.zero_emod]
      simp
    · exact Jp3 rest p0 k p r q h hp hr h1 h2 (by omega)
end Go.Proofs.YtihompplndcdeaaGreat
end
section
namespace Go.Proofs.YtihompplndcdeaaGreat
open Go.Aw Go
set_option maxRecDepth 20000
attribute [local irreducible] CJ LJ DJ Tri YV Gives Jd5 Jbd Jbz Jd4 RV Jbf
theorem Jsr (f:XFan) (q:Int) (L:List Blk) (R:List Sl) (hm:InR f.sl R) (hf:FanOk f) (hq:-1048577≤q∧q≤1048577):
    Tri Tryz.prog 133 [f.val,.int .i64 q].toArray L R (fun v L' R'=>v=(Jdo f.curve.l q).val∧L=L'∧R=R'):=by
  have hl1:=hf.len1
  have hl8:=hf.len8
  obtain ⟨p0,hp0⟩:=Ja0 (l:=f.curve.l) (k:=0) (by omega)
  obtain ⟨pn,hpn⟩:=Ja0 (l:=f.curve.l) (k:=f.curve.l.length - 1) (by omega)
  refine Jae 62 Tryz.call133 Tryz.func133 rfl rfl rfl ?_
  refine Xai ?_
  intro b2
  refine qaq ?_
  intro b4
  refine qa4 ?_
  refine Jbb tb [0,1,2,3,4,5,6,7,8,9,10,11,12,13,14,15] _ Jbn (by kernel_rfl) (List.Sublist.refl _) ?_
  refine Xae ?_
  refine qdu ?_
  refine qdo ?_
  refine Xae ?_
  refine Xae ?_
  refine Jbu (Je0 tb rfl rfl rfl) rfl rfl rfl ?_
  refine qb7 ?_
  refine Jbu (by first | exact Jag tb rfl rfl rfl rfl (by first | assumption | exact zr (by simp)) (i:=f.curve.l.length - 1) (by first | rfl | omega | (simp;omega)) (by omega) | exact Jal tb rfl rfl rfl rfl (i:=f.curve.l.length - 1) (by first | rfl | omega | (simp;omega)) (by omega)) rfl rfl rfl ?_
  refine qdo ?_
  refine qbr ?_
  intro b5
  refine qbr ?_
  intro b6
  refine qbg ?_
  refine qbg ?_
  refine qc6 ?_
  refine qaa ?_
  refine Xaa ?_
  refine Xdu ?_
  refine q_c (fun hc0=>?_) (fun hc0=>?_)
  ·
   refine qae ?_
   refine Xa3 ?_
   refine qcd ?_
   refine qak ?_
   refine qbh ?_
   obtain ⟨rest,hrest⟩:∃rest,f.curve.l=p0 :: rest:=⟨_,by have:=Jd2 hp0;simpa using this⟩
   refine q_r (L':=L) (R':=R) (Jdi rfl (Jax (row:=[_,_]) tb rfl rfl rfl (by repeat (first | exact zi0 | apply zi1 | apply zi2)) (by rfl) (by rfl))) ?_
   exact ⟨by rw [hrest];simp only [Jdo,if_pos hc0],rfl,rfl⟩
  refine Xdr ?_
  refine Jai [(1,Value.int _ _),(2,Value.pointer _),(4,Value.pointer _),(6,Value.pointer _),(7,Value.int _ _)] (by repeat' (first | exact trivial | refine And.intro rfl ?_)) fun tq0=>?_
  refine q_s [7,29,30,31,32,33,34,35,36,37,38,39,40,41,42,43,44,45,46,47,48,49,50,51,52,53,54,55,56] (fun g:{k:Nat // 1≤k∧k≤f.curve.l.length∧∃p,f.curve.l[k - 1]?=some p∧p.flow < q∧Jdo f.curve.l q=Jd7 p (f.curve.l.drop k) q}=>[(7,.int .i64 ((g.1:Nat):Int))]) (fun g=>f.curve.l.length - g.1) (⟨1,by omega,by omega,p0,hp0,by omega,by have h:=Jd2 hp0;simp only [List.drop_zero,Nat.zero_add] at h;rw [h];simp only [Jdo,if_neg hc0,List.drop_one,List.tail_cons]⟩) ?_
  rintro ⟨k,hk1,hk2,p,hp,hpq,hs⟩ junk
  try dsimp only
  refine Xbo ?_
  refine q_c (fun hc1=>?_) (fun hc1=>?_)
  ·
   obtain ⟨r,hr⟩:=Ja0 (l:=f.curve.l) (k:=k) (by omega)
   have hb1:=hf.ok.pt _ _ hp
   have hb2:=hf.ok.pt _ _ hr
   have hb3:=hf.ok.st (k - 1) p r hp (by rw [show k - 1 + 1=k by omega];exact hr)
   rw [Jd2 hr] at hs
   simp only [Jd7] at hs
   refine Xb3 ?_
   refine Xak ?_
   refine qa3 ?_
   refine Xba ?_
   refine Xdu ?_
   refine q_c (fun hc2=>?_) (fun hc2=>?_)
   ·
    refine Jam ?_
    refine Ja8 tb [] [0,1,2,3,4,5,6,7,8,9,10,11,12] [13] (_) _ Jbn (by kernel_rfl) (by repeat (first | exact zs0 _ | exact zs1 _ | apply zs2 | apply zs3 | apply zs4 | apply zs5)) (by (repeat (first | apply List.Sublist.cons (a:=Blk.mk b4 _ _) | apply List.Sublist.cons_cons));exact List.Sublist.refl _) ?_
    refine Xbk ?_
    refine qcc ?_
    refine Jca (by first | exact Jag tb rfl rfl rfl rfl (by first | assumption | exact zr (by simp)) (i:=k - 1) (by first | rfl | omega | (simp;omega)) (by omega) | exact Jal tb rfl rfl rfl rfl (i:=k - 1) (by first | rfl | omega | (simp;omega)) (by omega)) rfl rfl rfl rfl ?_
    refine qd1 ?_
    refine Xbk ?_
    refine qc5 ?_
    refine qd1 ?_
    refine qbf ?_
    refine Jbl rfl (Jvx p r q _ _ (by omega) (by omega)) rfl rfl ?_
    rintro v L' R' ⟨rfl,rfl,rfl⟩
    refine qas ?_
    refine qba ?_
    refine qbg ?_
    refine Jbt (Jaa (Jc5 (Jay (Ja7 (Jcm (Jay (Ja7 ?_)))))))
    refine q_r (L':=L) (R':=R) (Jdi rfl (Jax (row:=[_,_]) tb rfl rfl rfl (by repeat (first | exact zi0 | apply zi1 | apply zi2)) (by rfl) (by rfl))) ?_
    exact ⟨by rw [hs,if_pos hc2],rfl,rfl⟩
   refine Xa1 ?_
   exact q_k (⟨k + 1,by omega,by omega,r,by simpa using hr,by omega,by rw [hs,if_neg hc2]⟩)
  obtain rfl:k=f.curve.l.length:=by omega
  obtain rfl:p=pn:=by rw [hp] at hpn;exact Option.some.inj hpn
  rw [List.drop_eq_nil_of_le (Nat.le_refl _)] at hs
  refine qbk ?_
  refine Xa3 ?_
  refine qcd ?_
  refine Xbh ?_
  refine q_r (L':=L) (R':=R) (Jdi rfl (Jax (row:=[_,_]) tb rfl rfl rfl (by repeat (first | exact zi0 | apply zi1 | apply zi2)) (by rfl) (by rfl))) ?_
  exact ⟨by rw [hs];rfl,rfl,rfl⟩
theorem Jk2 (f:XFan) (back:Bool) (q:Int) (L:List Blk) (R:List Sl) (hm:InR f.sl R) (hf:FanOk f) (hq:-1048577≤q∧q≤1048577):
    Tri Tryz.prog 132 [f.val,.bool back,.int .i64 q].toArray L R (fun v L' R'=>v=(Jdx f.curve.l back q).val∧L=L'∧R=R'):=by
  have hb1:=Jf7 hf.ok (-q)
  refine Jae 24 Tryz.call132 Tryz.func132 rfl rfl rfl ?_
  refine Xai ?_
  intro b3
  refine qaq ?_
  intro b6
  refine qaw ?_
  refine Xc3 ?_
  refine q_c (fun hc0=>?_) (fun hc0=>?_)
  ·
   refine qae ?_
   refine qa8 ?_
   refine qaa ?_
   refine q_l rfl (Jsr f q _ _ hm hf hq) ?_
   refine qak ?_
   refine qbh ?_
   refine q_r (L':=L) (R':=R) (Jdi rfl (Jax (row:=[_,_]) tb rfl rfl rfl (by repeat (first | exact zi0 | apply zi1 | apply zi2)) (by rfl) (by rfl))) ?_
   exact ⟨by simp [Jdx,hc0],rfl,rfl⟩
  refine qbv ?_
  refine qa8 ?_
  refine qaa ?_
  refine qcq ?_
  refine q_l rfl (Jsr f (-q) _ _ hm hf (by omega)) ?_
  refine qaq ?_
  intro b7
  refine Xc0 ?_
  refine qcq ?_
  refine Xaa ?_
  refine qcq ?_
  refine qcd ?_
  refine Xbh ?_
  refine q_r (L':=L) (R':=R) (Jdi rfl (Jax (row:=[_,_]) tb rfl rfl rfl (by repeat (first | exact zi0 | apply zi1 | apply zi2)) (by rfl) (by rfl))) ?_
  exact ⟨by simp [Jdx,hc0,J40],rfl,rfl⟩
theorem Jwt (f:XFan) (s q:Int) (L:List Blk) (R:List Sl) (hm:InR f.sl R) (hf:FanOk f) (hq:-1048577≤q∧q≤1048577):
    Tri Tryz.prog 128 [f.val,.int .i64 s,.int .i64 q].toArray L R (fun v L' R'=>v=(Jcn f s q).val∧L=L'∧R=R'):=by
  refine Jae 45 Tryz.call128 Tryz.func128 rfl rfl rfl ?_
  refine Xai ?_
  intro b3
  refine qaq ?_
  intro b6
  refine qaw ?_
  refine qaa ?_
  refine Ja9 (Jaa (Ja1 (Jam (Jaf ?_))))
  refine Xcc ?_
  refine q_c (fun hc0=>?_) (fun hc0=>?_)
  ·
   refine qae ?_
   refine qa8 ?_
   refine Xak ?_
   refine q_l rfl (Jk2 f f.back q _ _ hm hf hq) ?_
   refine qak ?_
   refine qdb ?_
   refine q_r (L':=L) (R':=R) (Jdi rfl (Jax (row:=[_,_]) tb rfl rfl rfl (by repeat (first | exact zi0 | apply zi1 | apply zi2)) (by rfl) (by rfl))) ?_
   exact ⟨by rw [Jcn,if_pos hc0],rfl,rfl⟩
  refine qae ?_
  refine Xcc ?_
  refine q_c (fun hc1=>?_) (fun hc1=>?_)
  ·
   refine qae ?_
   refine qa8 ?_
   refine Xaa ?_
   refine qb4 ?_
   refine qaa ?_
   refine q_l rfl (Jk2 f (!f.back) q _ _ hm hf hq) ?_
   refine qak ?_
   refine qdb ?_
   refine q_r (L':=L) (R':=R) (Jdi rfl (Jax (row:=[_,_]) tb rfl rfl rfl (by repeat (first | exact zi0 | apply zi1 | apply zi2)) (by rfl) (by rfl))) ?_
   exact ⟨by rw [Jcn,if_neg hc0,if_pos hc1],rfl,rfl⟩
  refine qae ?_
  refine Xcc ?_
  refine q_c (fun hc2=>?_) (fun hc2=>?_)
  ·
   refine Jam ?_
   refine Jbb tb [0,1,3,4,2,5,6,7,8,9] _ Jbn (by kernel_rfl) (List.Sublist.refl _) ?_
   refine qbc ?_
   refine qao ?_
   refine qbc ?_
   refine qao ?_
   refine q_d rfl (Jk2 f false q _ _ hm hf hq) ?_
   refine q_d rfl (Jk2 f true q _ _ hm hf hq) ?_
   refine qbr ?_
   intro b7
   refine qbr ?_
   intro b8
   refine qbg ?_
   refine qbg ?_
   refine Jbt (Jaa (Jam (Jaf ?_)))
   refine Xa3 ?_
   refine Ja2 (Jza rfl rfl rfl) rfl ?_
   refine Xa3 ?_
   refine Ja2 (Jzt rfl rfl rfl) rfl ?_
   refine qcd ?_
   refine qak ?_
   refine qdb ?_
   refine q_r (L':=L) (R':=R) (Jdi rfl (Jax (row:=[_,_]) tb rfl rfl rfl (by repeat (first | exact zi0 | apply zi1 | apply zi2)) (by rfl) (by rfl))) ?_
   exact ⟨by rw [Jcn,if_neg hc0,if_neg hc1,if_pos hc2],rfl,rfl⟩
  refine Ja3 (Jao (Jaa (Jam (Jaf ?_))))
  refine qck ?_
  refine Xbh ?_
  refine q_r (L':=L) (R':=R) (Jdi rfl (Jax (row:=[_,_]) tb rfl rfl rfl (by repeat (first | exact zi0 | apply zi1 | apply zi2)) (by rfl) (by rfl))) ?_
  exact ⟨by rw [Jcn,if_neg hc0,if_neg hc1,if_neg hc2],rfl,rfl⟩
theorem Jsi (a b:Int) (L:List Blk) (R:List Sl) (ha:-9223372036854775807≤a∧a≤9223372036854775807) (hb:0 < b∧b≤9223372036854775807):
    Tri Tryz.prog 120 [.int .i64 a,.int .i64 b].toArray L R (fun v L' R'=>v=.int .i64 (a / b)∧L=L'∧R=R'):=by
  have hfl:=J23 (a:=a) hb.1
  have hc:-9223372036854775807≤a / b∧a / b≤9223372036854775807:=by
    rcases Int.lt_or_le a 0 with h | h
    · have h1 : a / b ≤ 0 := Int.ediv_nonpos_of_nonpos_of_neg (by omega) hb.1
      have h2:a≤a / b:=by
        refine Int.le_ediv_of_mul_le hb.1 ?_
        have:=Int.mul_le_mul_of_nonpos_left (a:=a) (b:=b) (c:=1) (by omega) (by omega)
        omega
      omega
    · have h1 := Int.ediv_nonneg h (show 0 ≤ b by omega)
      have h2:=Int.ediv_le_self b h
      omega
  have hd:-9223372036854775807≤a.tdiv b∧a.tdiv b≤9223372036854775807:=by
    split at hfl
    · constructor
      · omega
      · have h1 := Int.mul_tdiv_add_tmod a b
        rename_i h
        have:a < 0:=by
          rcases Int.lt_or_le a 0 with h' | h'
          · exact h'
          · have:=Int.tmod_nonneg b h';omega
        have h3:a / b≤0:=Int.ediv_nonpos_of_nonpos_of_neg (by omega) hb.1
        omega
    · omega
  refine Jae 16 Tryz.call120 Tryz.func120 rfl rfl rfl ?_
  refine Xaj ?_
  refine qam ?_
  refine Xbx ?_
  refine qdd ?_
  refine Xa5 ?_
  refine Xbx ?_
  refine qda ?_
  refine Xao ?_
  refine q_c (fun hc0=>?_) (fun hc0=>?_)
  ·
   rw [if_pos hc0] at hfl
   refine Xb7 ?_
   refine qa9 ?_
   refine Xav ?_
   refine Xbe ?_
   refine q_i (L':=L) (R':=R) ?_
   exact ⟨by rw [hfl],rfl,rfl⟩
  rw [if_neg hc0] at hfl
  refine qbv ?_
  refine Xa2 ?_
  refine qa0 ?_
  refine q_i (L':=L) (R':=R) ?_
  exact ⟨by rw [hfl],rfl,rfl⟩
theorem J11 (a b:Int) (L:List Blk) (R:List Sl) (ha:-9223372036854775807≤a∧a≤9223372036854775807) (hb:0 < b∧b≤9223372036854775807) (hq:-9223372036854775807≤(-a) / b∧(-a) / b≤9223372036854775807):
    Tri Tryz.prog 121 [.int .i64 a,.int .i64 b].toArray L R (fun v L' R'=>v=.int .i64 (-((-a) / b))∧L=L'∧R=R'):=by
  refine Jae 10 Tryz.call121 Tryz.func121 rfl rfl rfl ?_
  refine Xaj ?_
  refine qam ?_
  refine qaa ?_
  refine qcq ?_
  refine qaa ?_
  refine q_l rfl (Jsi (-a) b _ _ (by omega) hb) ?_
  refine qcq ?_
  refine Xbe ?_
  refine q_i (L':=L) (R':=R) ?_
  exact ⟨rfl,rfl,rfl⟩
theorem Js0 (f:XFan) (q:Int) (L:List Blk) (R:List Sl) (hm:InR f.sl R) (hf:FanOk f) (hq:-1048577≤q∧q≤1048577):
    Tri Tryz.prog 101 [f.val,.int .i64 q].toArray L R (fun v L' R'=>v=(Jdo f.curve.l q).val∧L=L'∧R=R'):=by
  have hl1:=hf.len1
  have hl8:=hf.len8
  obtain ⟨p0,hp0⟩:=Ja0 (l:=f.curve.l) (k:=0) (by omega)
  obtain ⟨pn,hpn⟩:=Ja0 (l:=f.curve.l) (k:=f.curve.l.length - 1) (by omega)
  have hcl:=Juh hf.ok (by omega) hpn
  have hc0':q≤p0.flow→Jdo f.curve.l q=⟨p0.pres,p0.pres⟩:=fun h=>by
    have h':=Jd2 hp0
    simp only [List.drop_zero,Nat.zero_add] at h'
    rw [h'];simp only [Jdo,if_pos h]
  refine Jae 106 Tryz.call101 Tryz.func101 rfl rfl rfl ?_
  refine Xai ?_
  intro b2
  refine qaq ?_
  intro b4
  refine qam ?_
  refine Xab ?_
  refine Xa5 ?_
  refine qaa ?_
  refine Xaa ?_
  refine qdt ?_
  refine Xba ?_
  refine Xdu ?_
  refine q_c (fun hc0=>?_) (fun hc0=>?_)
  ·
   refine Jam ?_
   refine Ja8 tb [] [0,1,2,3,4,5,6,7,8,9,10] [11] (_) _ Jbn (by kernel_rfl) (by repeat (first | exact zs0 _ | exact zs1 _ | apply zs2 | apply zs3 | apply zs4 | apply zs5)) (by (repeat (first | apply List.Sublist.cons (a:=Blk.mk b4 _ _) | apply List.Sublist.cons_cons));exact List.Sublist.refl _) ?_
   refine Xaf ?_
   refine qd2 ?_
   refine qcv ?_
   refine qci ?_
   refine Xaf ?_
   refine qd2 ?_
   refine qcv ?_
   refine qci ?_
   refine qcw ?_
   refine qba ?_
   refine qbg ?_
   refine Jbt (Jaa (Jc5 (Ja7 ?_)))
   refine q_r (L':=L) (R':=R) (Jdi rfl (Jax (row:=[_,_]) tb rfl rfl rfl (by repeat (first | exact zi0 | apply zi1 | apply zi2)) (by rfl) (by rfl))) ?_
   exact ⟨by rw [hc0' hc0],rfl,rfl⟩
  refine qbo ?_
  refine qaa ?_
  refine Xak ?_
  refine qa9 ?_
  refine Ja2 (by first | exact Jag tb rfl rfl rfl rfl (by first | assumption | exact zr (by simp)) (i:=f.curve.l.length - 1) (by first | rfl | omega | (simp;omega)) (by omega) | exact Jal tb rfl rfl rfl rfl (i:=f.curve.l.length - 1) (by first | rfl | omega | (simp;omega)) (by omega)) rfl ?_
  refine Xba ?_
  refine Xdb ?_
  refine q_c (fun hc1=>?_) (fun hc1=>?_)
  ·
   refine Jam ?_
   refine Ja8 tb [] [0,1,2,3,4,5,6,7,8,9,10,11,12,13,14] [15] (_) _ Jbn (by kernel_rfl) (by repeat (first | exact zs0 _ | exact zs1 _ | apply zs2 | apply zs3 | apply zs4 | apply zs5)) (by (repeat (first | apply List.Sublist.cons (a:=Blk.mk b4 _ _) | apply List.Sublist.cons_cons));exact List.Sublist.refl _) ?_
   refine Xbk ?_
   refine qcc ?_
   refine qd3 ?_
   refine qcv ?_
   refine qci ?_
   refine Xbk ?_
   refine qcc ?_
   refine qd3 ?_
   refine qcv ?_
   refine qci ?_
   refine qcw ?_
   refine qba ?_
   refine qbg ?_
   refine Jbt (Jaa (Jc5 (Ja7 ?_)))
   refine q_r (L':=L) (R':=R) (Jdi rfl (Jax (row:=[_,_]) tb rfl rfl rfl (by repeat (first | exact zi0 | apply zi1 | apply zi2)) (by rfl) (by rfl))) ?_
   exact ⟨by rw [hcl q hc1],rfl,rfl⟩
  refine qbv ?_
  refine qad ?_
  refine Ja9 (Jaa (Jam (Ja1 ?_)))
  refine Jai [(1,Value.int _ _),(2,Value.pointer _),(4,Value.pointer _),(6,Value.int _ _)] (by repeat' (first | exact trivial | refine And.intro rfl ?_)) fun tq0=>?_
  refine q_s [6,56,57,58,59,60,61,62,63,64,65,66] (fun g:{k:Nat // k + 1 < f.curve.l.length∧∃p,f.curve.l[k]?=some p∧p.flow≤q}=>[(6,.int .i64 ((g.1:Nat):Int))]) (fun g=>f.curve.l.length - g.1) (⟨0,by rcases Nat.lt_or_ge 1 f.curve.l.length with h | h;exact h;exfalso;rw [show f.curve.l.length - 1=0 by omega,hp0] at hpn;cases hpn;omega,p0,hp0,by omega⟩) ?_
  rintro ⟨k,hk,p,hp,hpq⟩ junk
  try dsimp only
  refine Jam (Jam ?_)
  obtain ⟨r,hr⟩:=Ja0 (l:=f.curve.l) (k:=k + 1) (by omega)
  refine qay ?_
  refine Xak ?_
  refine qar ?_
  refine Ja2 (by first | exact Jag tb rfl rfl rfl rfl (by first | assumption | exact zr (by simp)) (i:=k + 1) (by first | rfl | omega | (simp;omega)) (by omega) | exact Jal tb rfl rfl rfl rfl (i:=k + 1) (by first | rfl | omega | (simp;omega)) (by omega)) rfl ?_
  refine Xba ?_
  refine qaa ?_
  refine Xdu ?_
  refine q_c (fun hc2=>?_) (fun hc2=>?_)
  ·
   refine Ja3 (Jaa (Ja1 (Jaf ?_)))
   refine Xag ?_
   refine Ja9 (Jao ?_)
   exact q_k (⟨k + 1,by rcases Nat.lt_or_ge (k + 1 + 1) f.curve.l.length with h | h;exact h;exfalso;rw [show f.curve.l.length - 1=k + 1 by omega,hr] at hpn;cases hpn;omega,r,hr,by omega⟩)
  have hb1:=hf.ok.pt _ _ hp
  have hb2:=hf.ok.pt _ _ hr
  have hb3:=hf.ok.st k p r hp hr
  have hcr:=J0f hf.ok hp hr hpq (by omega)
  have d0:0≤(p.pres - r.pres) * (q - p.flow):=Int.mul_nonneg (by omega) (by omega)
  have d1:(p.pres - r.pres) * (q - p.flow)≤2199023255552 * 2097153:=Int.mul_le_mul (by omega) (by omega) (by omega) (by omega)
  have de:(r.pres - p.pres) * (q - p.flow)= -((p.pres - r.pres) * (q - p.flow)):=by rw [← Int.neg_mul];congr 1;omega
  have d2:0≤(p.pres - r.pres) * (q - p.flow) / (r.flow - p.flow):=Int.ediv_nonneg d0 (by omega)
  have d3:(p.pres - r.pres) * (q - p.flow) / (r.flow - p.flow)≤(p.pres - r.pres) * (q - p.flow):=Int.ediv_le_self _ d0
  have d4:=Jo1 (N:=(p.pres - r.pres) * (q - p.flow)) (w:=r.flow - p.flow) (by omega)
  have d7:-((p.pres - r.pres) * (q - p.flow)) - 1≤ -((p.pres - r.pres) * (q - p.flow)) / (r.flow - p.flow)∧-((p.pres - r.pres) * (q - p.flow)) / (r.flow - p.flow)≤0:=by split at d4 <;> omega
  have d5:-((r.pres - p.pres) * (q - p.flow)) / (r.flow - p.flow)=(p.pres - r.pres) * (q - p.flow) / (r.flow - p.flow):=by rw [de,Int.neg_neg]
  have d6:(r.pres - p.pres) * (q - p.flow) / (r.flow - p.flow)= -((p.pres - r.pres) * (q - p.flow)) / (r.flow - p.flow):=by rw [de]
  refine qc3 ?_
  refine Jbb tb [0,1,2,3,4,5,6,7,8,9,10,11,12,13,14] _ Jbn (by kernel_rfl) (List.Sublist.refl _) ?_
  refine Xa0 ?_
  refine qds ?_
  refine qdo ?_
  refine Xa0 ?_
  refine qc2 ?_
  refine qdy ?_
  refine qdo ?_
  refine qbr ?_
  intro b7
  refine qbr ?_
  intro b8
  refine qbg ?_
  refine qbg ?_
  refine qb9 ?_
  refine Jbb tb [0,1,2,3,4,5,6,7,8,9,10,11,12,13,14,15,16] _ Jbn (by kernel_rfl) (List.Sublist.refl _) ?_
  refine Xae ?_
  refine Xae ?_
  refine qb7 ?_
  refine qao ?_
  refine Xae ?_
  refine qb7 ?_
  refine qdh ?_
  refine Xae ?_
  refine Xae ?_
  refine Xee ?_
  refine qcg ?_
  refine qb9 ?_
  refine Ja8 tb [] [0,1,2,3,6,7,8,9,4,5,10,11,12] [13] (_) _ Jbn (by kernel_rfl) (by repeat (first | exact zs0 _ | exact zs1 _ | apply zs2 | apply zs3 | apply zs4 | apply zs5)) (by (repeat (first | apply List.Sublist.cons (a:=Blk.mk b4 _ _) | apply List.Sublist.cons_cons));exact List.Sublist.refl _) ?_
  refine Xbk ?_
  refine qbf ?_
  refine Xbk ?_
  refine qbf ?_
  refine Jbl rfl (Jsi _ _ _ _ (by omega) (by omega)) rfl rfl ?_
  rintro v L' R' ⟨rfl,rfl,rfl⟩
  refine qas ?_
  refine qcj ?_
  refine Jbl rfl (J11 _ _ _ _ (by omega) (by omega) (by omega)) rfl rfl ?_
  rintro v L' R' ⟨rfl,rfl,rfl⟩
  refine qas ?_
  refine qcj ?_
  refine qcw ?_
  refine qba ?_
  refine qbg ?_
  refine Jbt (Jaa (Jc5 ?_))
  refine q_r (L':=L) (R':=R) (Jdi rfl (Jax (row:=[_,_]) tb rfl rfl rfl (by repeat (first | exact zi0 | apply zi1 | apply zi2)) (by rfl) (by rfl))) ?_
  exact ⟨by rw [hcr,← Ju3 (by omega)],rfl,rfl⟩
theorem Jh4 (f:XFan) (back:Bool) (q:Int) (L:List Blk) (R:List Sl) (hm:InR f.sl R) (hf:FanOk f) (hq:-1048577≤q∧q≤1048577):
    Tri Tryz.prog 78 [f.val,.bool back,.int .i64 q].toArray L R (fun v L' R'=>v=(Jdx f.curve.l back q).val∧L=L'∧R=R'):=by
  have hb1:=Jf7 hf.ok (-q)
  refine Jae 23 Tryz.call78 Tryz.func78 rfl rfl rfl ?_
  refine Xai ?_
  intro b3
  refine qaq ?_
  intro b6
  refine qaw ?_
  refine Xdi ?_
  refine q_c (fun hc0=>?_) (fun hc0=>?_)
  ·
   refine qae ?_
   refine qa8 ?_
   refine qaa ?_
   refine qcq ?_
   refine q_l rfl (Js0 f (-q) _ _ hm hf (by omega)) ?_
   refine qaq ?_
   intro b7
   refine Xc0 ?_
   refine qcq ?_
   refine Xaa ?_
   refine qcq ?_
   refine qcd ?_
   refine qak ?_
   refine qbh ?_
   refine q_r (L':=L) (R':=R) (Jdi rfl (Jax (row:=[_,_]) tb rfl rfl rfl (by repeat (first | exact zi0 | apply zi1 | apply zi2)) (by rfl) (by rfl))) ?_
   exact ⟨by simp [Jdx,hc0,J40],rfl,rfl⟩
  refine qbv ?_
  refine qa8 ?_
  refine qaa ?_
  refine q_l rfl (Js0 f q _ _ hm hf hq) ?_
  refine Xbh ?_
  refine q_r (L':=L) (R':=R) (Jdi rfl (Jax (row:=[_,_]) tb rfl rfl rfl (by repeat (first | exact zi0 | apply zi1 | apply zi2)) (by rfl) (by rfl))) ?_
  exact ⟨by simp [Jdx,hc0],rfl,rfl⟩
theorem Jkg (f:XFan) (s q:Int) (L:List Blk) (R:List Sl) (hm:InR f.sl R) (hf:FanOk f) (hq:-1048577≤q∧q≤1048577) (hs:-1≤s∧s≤2):
    Tri Tryz.prog 51 [f.val,.int .i64 s,.int .i64 q].toArray L R (fun v L' R'=>v=(Jcn f s q).val∧L=L'∧R=R'):=by
  refine Jae 45 Tryz.call51 Tryz.func51 rfl rfl rfl ?_
  refine Xai ?_
  intro b3
  refine qaq ?_
  intro b6
  refine qaw ?_
  refine qaa ?_
  refine Ja9 (Jaa (Ja1 (Jam (Jaf ?_))))
  refine Xcc ?_
  refine q_c (fun hc0=>?_) (fun hc0=>?_)
  ·
   refine Xcm ?_
   refine qak ?_
   refine qdb ?_
   refine q_r (L':=L) (R':=R) (Jdi rfl (Jax (row:=[_,_]) tb rfl rfl rfl (by repeat (first | exact zi0 | apply zi1 | apply zi2)) (by rfl) (by rfl))) ?_
   exact ⟨by rw [Jcn,if_neg (by omega),if_neg (by omega),if_neg (by omega)],rfl,rfl⟩
  refine qae ?_
  refine Xcc ?_
  refine q_c (fun hc1=>?_) (fun hc1=>?_)
  ·
   refine qae ?_
   refine qa8 ?_
   refine Xak ?_
   refine q_l rfl (Jh4 f f.back q _ _ hm hf hq) ?_
   refine qak ?_
   refine qdb ?_
   refine q_r (L':=L) (R':=R) (Jdi rfl (Jax (row:=[_,_]) tb rfl rfl rfl (by repeat (first | exact zi0 | apply zi1 | apply zi2)) (by rfl) (by rfl))) ?_
   exact ⟨by rw [Jcn,if_pos hc1],rfl,rfl⟩
  refine qae ?_
  refine Xcc ?_
  refine q_c (fun hc2=>?_) (fun hc2=>?_)
  ·
   refine qae ?_
   refine qa8 ?_
   refine Xaa ?_
   refine qb4 ?_
   refine qaa ?_
   refine q_l rfl (Jh4 f (!f.back) q _ _ hm hf hq) ?_
   refine qak ?_
   refine qdb ?_
   refine q_r (L':=L) (R':=R) (Jdi rfl (Jax (row:=[_,_]) tb rfl rfl rfl (by repeat (first | exact zi0 | apply zi1 | apply zi2)) (by rfl) (by rfl))) ?_
   exact ⟨by rw [Jcn,if_neg hc1,if_pos hc2],rfl,rfl⟩
  refine Ja3 (Jao (Jaa (Jam ?_)))
  refine Jbb tb [0,1,3,4,2,5,6,7,8,9] _ Jbn (by kernel_rfl) (List.Sublist.refl _) ?_
  refine qbc ?_
  refine qao ?_
  refine qbc ?_
  refine qao ?_
  refine q_d rfl (Jh4 f false q _ _ hm hf hq) ?_
  refine q_d rfl (Jh4 f true q _ _ hm hf hq) ?_
  refine qbr ?_
  intro b7
  refine qbr ?_
  intro b8
  refine qbg ?_
  refine qbg ?_
  refine Jbt (Jaa (Jam (Jaf ?_)))
  refine Xa3 ?_
  refine Ja2 (Jza rfl rfl rfl) rfl ?_
  refine Xa3 ?_
  refine Ja2 (Jzt rfl rfl rfl) rfl ?_
  refine qcd ?_
  refine Xbh ?_
  refine q_r (L':=L) (R':=R) (Jdi rfl (Jax (row:=[_,_]) tb rfl rfl rfl (by repeat (first | exact zi0 | apply zi1 | apply zi2)) (by rfl) (by rfl))) ?_
  exact ⟨by rw [Jcn,if_neg hc1,if_neg hc2,if_pos (by omega),Int.min_comm 0,Int.max_comm 0];simp only [Int.min_assoc,Int.max_assoc,Int.min_comm 0,Int.max_comm 0],rfl,rfl⟩
end Go.Proofs.YtihompplndcdeaaGreat
end
section
namespace Go.Proofs.YtihompplndcdeaaGreat
open Go.Aw Go
set_option maxRecDepth 20000
attribute [local irreducible] CJ LJ DJ Tri YV Gives Jd5 Jbd Jbz Jd4 RV Jbf
structure PipeOk (p:XPipe):Prop where
  rest:0≤p.road.rest.low∧p.road.rest.low≤p.road.rest.high∧p.road.rest.high≤4456448
  lift:-2199023255552≤p.road.lift.low∧p.road.lift.low≤p.road.lift.high∧p.road.lift.high≤2199023255552
  len:p.fans.l.length≤8
  fan:∀(i:Nat) (b:XBlow),p.fans.l[i]?=some b→FanOk b.fan
def Jfj (p : XPipe) (q : Int) : Nat → XSpan
  | 0=>if q < 0 then ⟨-p.road.rest.high * (q * q) - p.road.lift.high,-p.road.rest.low * (q * q) - p.road.lift.low⟩ else ⟨p.road.rest.low * (q * q) - p.road.lift.high,p.road.rest.high * (q * q) - p.road.lift.low⟩
  | k + 1=>⟨(Jfj p q k).low - (Jcn (p.fans.l.getD k default).fan (p.fans.l.getD k default).state q).high,(Jfj p q k).high - (Jcn (p.fans.l.getD k default).fan (p.fans.l.getD k default).state q).low⟩
def Jj7 (p:XPipe) (q:Int):XSpan:=Jfj p q p.fans.l.length
theorem Jf6 {q:Int} (hq:-1048577≤q∧q≤1048577):0≤q * q∧q * q≤1099513724929:=by
  rcases Int.lt_or_le q 0 with h | h
  · have h1 := Int.mul_nonneg (show 0 ≤ -q by omega) (show 0 ≤ -q by omega)
    have h2:=Int.mul_le_mul (show -q≤1048577 by omega) (show -q≤1048577 by omega) (by omega) (by omega)
    rw [Int.neg_mul_neg] at h1 h2
    omega
  · have h1 := Int.mul_nonneg h h
    have h2:=Int.mul_le_mul hq.2 hq.2 h (by omega)
    omega
theorem Jeb {r s:Int} (hr:0≤r∧r≤4456448) (hs:0≤s∧s≤1099513724929):0≤r * s∧r * s≤4899925740432392192∧-r * s= -(r * s):=by
  have h1:=Int.mul_nonneg hr.1 hs.1
  have h2:=Int.mul_le_mul hr.2 hs.2 hs.1 (by omega)
  exact ⟨h1,by omega,Int.neg_mul r s⟩
theorem Jmg {p:XPipe} {q:Int} (h:q < 0):Jfj p q 0=⟨-p.road.rest.high * (q * q) - p.road.lift.high,-p.road.rest.low * (q * q) - p.road.lift.low⟩:=if_pos h
theorem Jl5 {p:XPipe} {q:Int} (h:¬ q < 0):Jfj p q 0=⟨p.road.rest.low * (q * q) - p.road.lift.high,p.road.rest.high * (q * q) - p.road.lift.low⟩:=if_neg h
theorem Jht {p:XPipe} (h:PipeOk p) {q:Int} (hq:-1048577≤q∧q≤1048577):∀(k:Nat),k≤p.fans.l.length→
    -4899925740432392192 - 2199023255552 * (k + 1)≤(Jfj p q k).low∧(Jfj p q k).low≤(Jfj p q k).high∧(Jfj p q k).high≤4899925740432392192 + 2199023255552 * (k + 1)
  | 0,_=>by
    have hs:=Jf6 hq
    have hr:=h.rest
    have hl:=h.lift
    have h1:=Jeb (r:=p.road.rest.low) (by omega) hs
    have h2:=Jeb (r:=p.road.rest.high) (by omega) hs
    have h3:p.road.rest.low * (q * q)≤p.road.rest.high * (q * q):=Int.mul_le_mul_of_nonneg_right hr.2.1 hs.1
    unfold Jfj
    split <;> dsimp only <;> omega
  | k + 1,hk=>by
    have ih:=Jht h hq k (by omega)
    have hb:=Jek (h.fan k _ (Jan default (by omega))) (p.fans.l.getD k default).state q
    simp only [Jfj]
    omega
theorem Jwu (p:XPipe) (q:Int) (L:List Blk) (R:List Sl) (hm:InR p.sl R) (hp:PipeOk p) (hq:-1048577≤q∧q≤1048577):
    Tri Tryz.prog 108 [p.val,.int .i64 q].toArray L R (fun v L' R'=>v=(Jj7 p q).val∧L=L'∧R=R'):=by
  have hs:=Jf6 hq
  have hr:=hp.rest
  have hl:=hp.lift
  have hln:=hp.len
  have h1:=Jeb (r:=p.road.rest.low) (by omega) hs
  have h2:=Jeb (r:=p.road.rest.high) (by omega) hs
  refine Jae 86 Tryz.call108 Tryz.func108 rfl rfl rfl ?_
  refine Xai ?_
  intro b2
  refine qaq ?_
  intro b4
  refine qam ?_
  refine Xbx ?_
  refine qcm ?_
  refine Xal ?_
  iterate 3 refine qab ?_
  refine qac ?_
  refine Xdt ?_
  iterate 3 refine qab ?_
  refine qac ?_
  refine Xdt ?_
  refine qcd ?_
  refine qaq ?_
  intro b6
  refine Xbm ?_
  refine qaa ?_
  refine Xao ?_
  refine q_c (fun hc0=>?_) (fun hc0=>?_)
  ·
   refine qay ?_
   iterate 3 refine qab ?_
   refine qac ?_
   refine qcq ?_
   refine Xdt ?_
   iterate 3 refine qab ?_
   refine qac ?_
   refine qcq ?_
   refine Xdt ?_
   refine qcd ?_
   refine Xc0 ?_
   iterate 3 refine qab ?_
   refine qac ?_
   refine Xed ?_
   refine qam ?_
   refine Xaa ?_
   iterate 3 refine qab ?_
   refine qac ?_
   refine Xed ?_
   refine qaw ?_
   refine Xbz ?_
   refine Jai [(1,Value.int _ _),(4,Value.pointer _),(6,Value.pointer _),(60,Value.slice _ _ _),(61,Value.int _ _),(62,Value.int _ _)] (by repeat' (first | exact trivial | refine And.intro rfl ?_)) fun tq0=>?_
   refine Jb0 [8,9,62,63,64,65,66,67,68,69,70,71,72,73,74,75,76,77,78,79,80,81,82,83,84] ((⟨fun g=>[(62,.int .i64 ((g.1:Nat):Int))],fun g=>⟨b6,[.int .i64 (Jfj p q g.1).low,.int .i64 (Jfj p q g.1).high],46⟩ :: ⟨b4,[.int .i64 0,.int .i64 0],46⟩ :: ⟨b2,p.cells,146⟩ :: L,fun _=>R,fun g=>p.fans.l.length - g.1⟩:Head {k:Nat // k≤p.fans.l.length})) (⟨0,by omega⟩) (by repeat' (first | exact trivial | refine And.intro rfl ?_)) (by dsimp only;first | (rw [Jmg hc0];exact List.Sublist.refl _) | (rw [Jl5 hc0];exact List.Sublist.refl _)) (Jac _) ?_
   rintro ⟨k,hk⟩ junk
   try dsimp only
   refine Xay ?_
   refine q_c (fun hc1=>?_) (fun hc1=>?_)
   ·
    have hx:=Jan (l:=p.fans.l) (k:=k) default (by omega)
    have hdb:=Jht hp hq k (by omega)
    have hfo:=hp.fan _ _ hx
    have hsb:=Jek hfo (p.fans.l.getD k default).state q
    refine qbb ?_
    refine qa3 ?_
    refine qdw ?_
    refine qaq ?_
    intro b8
    refine Xbf ?_
    refine qab ?_
    refine qa8 ?_
    refine Xak ?_
    refine q_l rfl (Jwt (p.fans.l.getD k default).fan (p.fans.l.getD k default).state q _ _ (hm.blow hx) hfo hq) ?_
    refine qaq ?_
    intro b9
    refine Xbf ?_
    refine Xa3 ?_
    refine Xed ?_
    refine Ja9 (Jaa (Jaf ?_))
    refine Xa3 ?_
    refine Xed ?_
    refine Xbj ?_
    exact q_k ⟨k + 1,by omega⟩
   obtain rfl:k=p.fans.l.length:=by omega
   refine qbk ?_
   refine Xdg ?_
   refine q_r (L':=L) (R':=R) (Jdi rfl (Jax (row:=[_,_]) tb rfl rfl rfl (by repeat (first | exact zi0 | apply zi1 | apply zi2)) (by rfl) (by rfl))) ?_
   exact ⟨rfl,rfl,rfl⟩
  refine qbv ?_
  refine Xaa ?_
  iterate 3 refine qab ?_
  refine qac ?_
  refine Xed ?_
  refine qam ?_
  refine Xaa ?_
  iterate 3 refine qab ?_
  refine qac ?_
  refine Xed ?_
  refine qaw ?_
  refine Xbz ?_
  refine Jai [(1,Value.int _ _),(4,Value.pointer _),(6,Value.pointer _),(60,Value.slice _ _ _),(61,Value.int _ _),(62,Value.int _ _)] (by repeat' (first | exact trivial | refine And.intro rfl ?_)) fun tq0=>?_
  refine Jb0 [8,9,62,63,64,65,66,67,68,69,70,71,72,73,74,75,76,77,78,79,80,81,82,83,84] ((⟨fun g=>[(62,.int .i64 ((g.1:Nat):Int))],fun g=>⟨b6,[.int .i64 (Jfj p q g.1).low,.int .i64 (Jfj p q g.1).high],46⟩ :: ⟨b4,[.int .i64 0,.int .i64 0],46⟩ :: ⟨b2,p.cells,146⟩ :: L,fun _=>R,fun g=>p.fans.l.length - g.1⟩:Head {k:Nat // k≤p.fans.l.length})) (⟨0,by omega⟩) (by repeat' (first | exact trivial | refine And.intro rfl ?_)) (by dsimp only;first | (rw [Jmg hc0];exact List.Sublist.refl _) | (rw [Jl5 hc0];exact List.Sublist.refl _)) (Jac _) ?_
  rintro ⟨k,hk⟩ junk
  try dsimp only
  refine Xay ?_
  refine q_c (fun hc1=>?_) (fun hc1=>?_)
  ·
   have hx:=Jan (l:=p.fans.l) (k:=k) default (by omega)
   have hdb:=Jht hp hq k (by omega)
   have hfo:=hp.fan _ _ hx
   have hsb:=Jek hfo (p.fans.l.getD k default).state q
   refine qbb ?_
   refine qa3 ?_
   refine qdw ?_
   refine qaq ?_
   intro b8
   refine Xbf ?_
   refine qab ?_
   refine qa8 ?_
   refine Xak ?_
   refine q_l rfl (Jwt (p.fans.l.getD k default).fan (p.fans.l.getD k default).state q _ _ (hm.blow hx) hfo hq) ?_
   refine qaq ?_
   intro b9
   refine Xbf ?_
   refine Xa3 ?_
   refine Xed ?_
   refine Ja9 (Jaa (Jaf ?_))
   refine Xa3 ?_
   refine Xed ?_
   refine Xbj ?_
   exact q_k ⟨k + 1,by omega⟩
  obtain rfl:k=p.fans.l.length:=by omega
  refine qbk ?_
  refine Xdg ?_
  refine q_r (L':=L) (R':=R) (Jdi rfl (Jax (row:=[_,_]) tb rfl rfl rfl (by repeat (first | exact zi0 | apply zi1 | apply zi2)) (by rfl) (by rfl))) ?_
  exact ⟨rfl,rfl,rfl⟩
end Go.Proofs.YtihompplndcdeaaGreat
end
section
namespace Go.Proofs.YtihompplndcdeaaGreat
open Go.Aw Go
set_option maxRecDepth 20000
attribute [local irreducible] CJ LJ DJ Tri YV Gives Jd5 Jbd Jbz Jd4 RV Jbf
theorem Jg4 {x:Int} (h:0≤x):x.tdiv 2=x / 2:=Int.tdiv_eq_ediv_of_nonneg h
def Jt3 (f:Int→Int) (pr lo hi:Int):Int:=
  if h:lo < hi then (if f (lo + (hi - lo + 1).tdiv 2)≤pr then Jt3 f pr (lo + (hi - lo + 1).tdiv 2) hi else Jt3 f pr lo (lo + (hi - lo + 1).tdiv 2 - 1)) else lo
termination_by (hi - lo).toNat
decreasing_by all_goals (have:=Jg4 (x:=hi - lo + 1) (by omega);omega)
def Jit (f:Int→Int) (pr lo hi:Int):Int:=
  if h:lo < hi then (if pr≤f (lo + (hi - lo).tdiv 2) then Jit f pr lo (lo + (hi - lo).tdiv 2) else Jit f pr (lo + (hi - lo).tdiv 2 + 1) hi) else lo
termination_by (hi - lo).toNat
decreasing_by all_goals (have:=Jg4 (x:=hi - lo) (by omega);omega)
theorem Jup {f:Int→Int} {pr lo hi:Int} (h:lo < hi) (hf:f (lo + (hi - lo + 1).tdiv 2)≤pr):Jt3 f pr lo hi=Jt3 f pr (lo + (hi - lo + 1).tdiv 2) hi:=by rw [Jt3,dif_pos h,if_pos hf]
theorem Juu {f:Int→Int} {pr lo hi:Int} (h:lo < hi) (hf:¬ f (lo + (hi - lo + 1).tdiv 2)≤pr):Jt3 f pr lo hi=Jt3 f pr lo (lo + (hi - lo + 1).tdiv 2 - 1):=by rw [Jt3,dif_pos h,if_neg hf]
theorem Jq4 {f:Int→Int} {pr lo hi:Int} (h:¬ lo < hi):Jt3 f pr lo hi=lo:=by rw [Jt3,dif_neg h]
theorem Jq2 {f:Int→Int} {pr lo hi:Int} (h:lo < hi) (hf:pr≤f (lo + (hi - lo).tdiv 2)):Jit f pr lo hi=Jit f pr lo (lo + (hi - lo).tdiv 2):=by rw [Jit,dif_pos h,if_pos hf]
theorem Jse {f:Int→Int} {pr lo hi:Int} (h:lo < hi) (hf:¬ pr≤f (lo + (hi - lo).tdiv 2)):Jit f pr lo hi=Jit f pr (lo + (hi - lo).tdiv 2 + 1) hi:=by rw [Jit,dif_pos h,if_neg hf]
theorem Jok {f:Int→Int} {pr lo hi:Int} (h:¬ lo < hi):Jit f pr lo hi=lo:=by rw [Jit,dif_neg h]
def Jb3 (f:Int→XSpan) (pr:Int):Int:=Jt3 (fun q=>(f q).high) pr (-1048577) 1048576
def Jbs (f:Int→XSpan) (pr:Int):Int:=Jit (fun q=>(f q).low) pr (-1048576) 1048577
theorem Jkk (p:XPipe) (pr:Int) (L:List Blk) (R:List Sl) (hm:InR p.sl R) (hp:PipeOk p):
    Tri Tryz.prog 84 [p.val,.int .i64 pr].toArray L R (fun v L' R'=>v=.int .i64 (Jb3 (Jj7 p) pr)∧L=L'∧R=R'):=by
  refine Jae 28 Tryz.call84 Tryz.func84 rfl rfl rfl ?_
  refine Xai ?_
  intro b2
  refine Xal ?_
  refine qad ?_
  refine qad ?_
  refine Ja9 (Jaa (Jam (Ja1 ?_)))
  refine Jai [(1,Value.int _ _),(2,Value.pointer _),(5,Value.int _ _),(6,Value.int _ _)] (by repeat' (first | exact trivial | refine And.intro rfl ?_)) fun tq0=>?_
  refine q_s [5,6,7,8,9,10,11,12,13,14,15,16,17,18,19,20,21,22,23,24,25,26] (fun g:{g:Int×Int // -1048577≤g.1∧g.1≤g.2∧g.2≤1048576∧Jb3 (Jj7 p) pr=Jt3 (fun q=>(Jj7 p q).high) pr g.1 g.2}=>[(5,.int .i64 g.1.1),(6,.int .i64 g.1.2)]) (fun g=>(g.1.2 - g.1.1).toNat) (⟨(-1048577,1048576),by omega,by omega,by omega,rfl⟩) ?_
  rintro ⟨⟨lo,hi⟩,h1,h2,h3,h4⟩ junk
  try dsimp only
  refine Xec ?_
  refine Xao ?_
  refine q_c (fun hc0=>?_) (fun hc0=>?_)
  ·
   dsimp only at h1 h2 h3 h4 hc0
   have he:=Jg4 (x:=hi - lo + 1) (by omega)
   refine Ja3 (Jaa (Ja1 (Jam (Jaf ?_))))
   iterate 3 refine qaa ?_
   refine qa9 ?_
   refine qar ?_
   refine qdd ?_
   refine Xac ?_
   refine qam ?_
   refine qdi ?_
   refine qaa ?_
   refine q_l rfl (Jwu p (lo + (hi - lo + 1).tdiv 2) _ _ hm hp (by omega)) ?_
   refine qcz ?_
   refine qaa ?_
   refine Xdu ?_
   refine q_c (fun hc1=>?_) (fun hc1=>?_)
   ·
    have e:=h4.trans (Jup hc0 hc1)
    refine qay ?_
    refine Xa2 ?_
    refine Ja9 (Jao ?_)
    exact qc0
   have e:=h4.trans (Juu hc0 hc1)
   refine Xb7 ?_
   refine Xc8 ?_
   refine Ja9 (Jao ?_)
   exact qc0
  dsimp only at h1 h2 h3 h4 hc0
  refine Xds ?_
  refine q_i (L':=L) (R':=R) ?_
  exact ⟨by rw [h4,Jq4 hc0],rfl,rfl⟩
theorem Jiu (p:XPipe) (pr:Int) (L:List Blk) (R:List Sl) (hm:InR p.sl R) (hp:PipeOk p):
    Tri Tryz.prog 85 [p.val,.int .i64 pr].toArray L R (fun v L' R'=>v=.int .i64 (Jbs (Jj7 p) pr)∧L=L'∧R=R'):=by
  refine Jae 27 Tryz.call85 Tryz.func85 rfl rfl rfl ?_
  refine Xai ?_
  intro b2
  refine Xal ?_
  refine qad ?_
  refine qad ?_
  refine Ja9 (Jaa (Jam (Ja1 ?_)))
  refine Jai [(1,Value.int _ _),(2,Value.pointer _),(5,Value.int _ _),(6,Value.int _ _)] (by repeat' (first | exact trivial | refine And.intro rfl ?_)) fun tq0=>?_
  refine q_s [5,6,7,8,9,10,11,12,13,14,15,16,17,18,19,20,21,22,23,24,25] (fun g:{g:Int×Int // -1048576≤g.1∧g.1≤g.2∧g.2≤1048577∧Jbs (Jj7 p) pr=Jit (fun q=>(Jj7 p q).low) pr g.1 g.2}=>[(5,.int .i64 g.1.1),(6,.int .i64 g.1.2)]) (fun g=>(g.1.2 - g.1.1).toNat) (⟨(-1048576,1048577),by omega,by omega,by omega,rfl⟩) ?_
  rintro ⟨⟨lo,hi⟩,h1,h2,h3,h4⟩ junk
  try dsimp only
  refine Xec ?_
  refine Xao ?_
  refine q_c (fun hc0=>?_) (fun hc0=>?_)
  ·
   dsimp only at h1 h2 h3 h4 hc0
   have he:=Jg4 (x:=hi - lo) (by omega)
   refine Ja3 (Jaa (Ja1 (Jam (Jaf ?_))))
   iterate 3 refine qaa ?_
   refine qa9 ?_
   refine qdd ?_
   refine Xac ?_
   refine qam ?_
   refine qdi ?_
   refine qaa ?_
   refine q_l rfl (Jwu p (lo + (hi - lo).tdiv 2) _ _ hm hp (by omega)) ?_
   refine qcz ?_
   refine qaa ?_
   refine Xdb ?_
   refine q_c (fun hc1=>?_) (fun hc1=>?_)
   ·
    have e:=h4.trans (Jq2 hc0 hc1)
    refine qay ?_
    refine Xa2 ?_
    refine Ja9 (Jao ?_)
    exact qc0
   have e:=h4.trans (Jse hc0 hc1)
   refine qay ?_
   refine Xag ?_
   refine Ja9 (Jao ?_)
   exact qc0
  dsimp only at h1 h2 h3 h4 hc0
  refine Xds ?_
  refine q_i (L':=L) (R':=R) ?_
  exact ⟨by rw [h4,Jok hc0],rfl,rfl⟩
end Go.Proofs.YtihompplndcdeaaGreat
end
section
namespace Go.Proofs.YtihompplndcdeaaGreat
open Go.Aw Go
theorem Jh9 {α:Type} {f:α→Option Int} {l:List α} (hf:∀x e,f x=some e→e≠0) (h:(l.findSome? f).getD 0=0):∀x∈l,f x=none:=by
  have hn:l.findSome? f=none:=by
    cases hs:l.findSome? f with
    | none=>rfl
    | some e=>
      rw [hs] at h
      obtain ⟨x,_,hx⟩:=List.exists_of_findSome?_eq_some hs
      exact absurd h (hf x e hx)
  exact List.findSome?_eq_none_iff.1 hn
structure RoadOk (n:Nat) (r:XRoad):Prop where
  fr:0≤r.fr∧r.fr < n
  to:0≤r.to∧r.to < n
  ne:r.fr≠r.to
  rest:1≤r.rest.low∧r.rest.low≤r.rest.high∧r.rest.high≤262144
  lift:-2199023255552≤r.lift.low∧r.lift.low≤r.lift.high∧r.lift.high≤2199023255552
theorem Jly {s:XSpan} {lo hi:Int}:Jm2 s lo hi=true↔lo≤s.low∧s.low≤s.high∧s.high≤hi:=by simp [Jm2]
structure MineOk (m:XMine):Prop where
  places:m.places.l.length≤64
  roads:m.roads.l.length≤128
  road:∀(i:Nat) (r:XRoad),m.roads.l[i]?=some r→RoadOk m.places.l.length r
theorem Jd1 {m:XMine} (h:Jbv m=0):MineOk m:=by
  unfold Jbv at h
  split at h
  · cases h
  rename_i hlen
  split at h
  · rename_i e he
    subst h
    obtain ⟨x,_,hx⟩:=List.exists_of_findSome?_eq_some he
    unfold Jfb at hx
    split at hx <;> cases hx
  have hall:=Jh9 (f:=Jdl m.places.l.length) (fun x e hx he=>by
    subst he
    unfold Jdl at hx
    split at hx
    · cases hx
    · split at hx <;> cases hx) h
  refine ⟨by omega,by omega,fun i r hr=>?_⟩
  have:=hall r (List.mem_of_getElem? hr)
  unfold Jdl at this
  split at this
  · cases this
  rename_i h1
  split at this
  · cases this
  rename_i h2
  have e1:Jm2 r.rest 1 262144=true:=by
    cases hb:Jm2 r.rest 1 262144 with
    | true=>rfl
    | false=>exact absurd (.inr (.inr (.inr (.inr (.inl hb))))) h2
  have e2:Jm2 r.lift (-2199023255552) 2199023255552=true:=by
    cases hb:Jm2 r.lift (-2199023255552) 2199023255552 with
    | true=>rfl
    | false=>exact absurd (.inr (.inr (.inr (.inr (.inr hb))))) h2
  exact ⟨by omega,by omega,by omega,Jly.1 e1,Jly.1 e2⟩
structure DoorOk (d:XDoor):Prop where
  road:0≤d.road
  len:2≤d.rests.l.length∧d.rests.l.length≤6
  rest:∀(i:Nat) (x:Int),d.rests.l[i]?=some x→0≤x∧x≤262144
  falls:Jdw d.rests.l d.rests.l.length=true
theorem Ji8 {l:List XDoor} (h:Jb1 l=0):l.length≤16∧∀(i:Nat) (d:XDoor),l[i]?=some d→DoorOk d∧¬ Jj1 l i d:=by
  unfold Jb1 at h
  split at h
  · cases h
  rename_i hlen
  have hre:∀(x:Int) (e:Int),Jin x=some e→e=1:=fun x e he=>by
    unfold Jin at he
    split at he <;> cases he
    rfl
  have hall:=Jh9 (f:=Je5 l) (fun i e hx he=>by
    subst he
    unfold Je5 at hx
    split at hx
    · cases hx
    · split at hx
      · cases hx
      · split at hx
        · cases hx
        · split at hx
          · rename_i e' he'
            obtain ⟨x,_,hx'⟩:=List.exists_of_findSome?_eq_some he'
            have:=hre x _ hx'
            cases hx
            cases this
          · split at hx
            · cases hx
            · split at hx <;> cases hx) h
  refine ⟨by omega,fun i d hd=>?_⟩
  obtain ⟨hi,_⟩:=List.getElem?_eq_some_iff.1 hd
  have:=hall i (List.mem_range.2 hi)
  rw [Jji hd] at this
  split at this
  · cases this
  rename_i h1
  split at this
  · cases this
  rename_i h2
  split at this
  · cases this
  rename_i h3
  split at this
  · cases this
  rename_i h4
  split at this
  · cases this
  rename_i h5
  refine ⟨⟨by omega,by omega,fun k x hx=>?_,by simpa using h4⟩,h5⟩
  have:=List.findSome?_eq_none_iff.1 h3 x (List.mem_of_getElem? hx)
  unfold Jin at this
  split at this
  · cases this
  · omega
theorem Jml {l : List Int} (h : ∀ (i : Nat) (x : Int), l[i]? = some x → 0 ≤ x ∧ x ≤ 262144) : ∀ (k : Nat), k ≤ l.length → 1 ≤ l.length → 0 ≤ Jn9 l k ∧ Jn9 l k ≤ l.getD 0 0 ∧ l.getD 0 0 ≤ Jnz l k ∧ Jnz l k ≤ 262144
  | 0,_,hl=>by have:=h 0 _ (Jan 0 (by omega));simp only [Jn9,Jnz];omega
  | k + 1,hk,hl=>by
    have ih:=Jml h k (by omega) hl
    have:=h k _ (Jan 0 (by omega))
    simp only [Jn9,Jnz]
    omega
theorem Ji1 {d:XDoor} (h:DoorOk d) (s:Int):0≤(Jex d s).low∧(Jex d s).low≤(Jex d s).high∧(Jex d s).high≤262144:=by
  unfold Jex
  split
  · simp
  · rename_i hc
    split
    · have := Jml h.rest d.rests.l.length (Nat.le_refl _) (by omega)
      dsimp only;omega
    · have := h.rest s.toNat _ (Jan 0 (by omega))
      dsimp only;omega
structure AirOk (a:XAir):Prop where
  mine:MineOk a.mine
  nfans:a.fans.l.length≤8
  fan:∀(i:Nat) (f:XFan),a.fans.l[i]?=some f→FanOk f∧f.road < a.mine.roads.l.length
  ndoors:a.doors.l.length≤16
  door:∀(i:Nat) (d:XDoor),a.doors.l[i]?=some d→DoorOk d∧d.road < a.mine.roads.l.length
theorem Jeg {a:XAir} (h:Ja4 a=0):AirOk a:=by
  unfold Ja4 at h
  split at h
  · rename_i h1;exact absurd h h1
  rename_i h1
  split at h
  · cases h
  rename_i h2
  split at h
  · rename_i e he
    subst h
    obtain ⟨x,_,hx⟩:=List.exists_of_findSome?_eq_some he
    unfold Jtl at hx
    split at hx
    · rename_i hne
      exact absurd (Option.some.inj hx) hne
    · split at hx <;> cases hx
  rename_i hfn
  split at h
  · rename_i h3;exact absurd h h3
  rename_i h3
  have hdo:=Ji8 (by simpa using h3)
  have hdi:=Jh9 (f:=Jmn a.mine.roads.l.length) (fun x e hx he=>by
    subst he
    unfold Jmn at hx
    split at hx <;> cases hx) h
  refine ⟨Jd1 (by simpa using h1),by omega,fun i f hf=>?_,hdo.1,fun i d hd=>⟨(hdo.2 i d hd).1,?_⟩⟩
  · have := List.findSome?_eq_none_iff.1 hfn f (List.mem_of_getElem? hf)
    unfold Jtl at this
    split at this
    · cases this
    rename_i h4
    split at this
    · cases this
    exact ⟨J3a (by simpa using h4),by omega⟩
  · have := hdi d (List.mem_of_getElem? hd)
    unfold Jmn at this
    split at this
    · cases this
    · omega
structure FitOk (a:XAir) (s:XSetting):Prop where
  lf:s.fans.l.length=a.fans.l.length
  ld:s.doors.l.length=a.doors.l.length
  fan:∀(i:Nat) (x:Int),s.fans.l[i]?=some x→-1≤x∧x≤2
  door:∀(i:Nat) (x:Int) (d:XDoor),s.doors.l[i]?=some x→a.doors.l[i]?=some d→-1≤x∧x < d.rests.l.length
theorem Je4 {a:XAir} {s:XSetting} (h:Jdq a s=true):FitOk a s:=by
  unfold Jdq at h
  split at h
  · cases h
  rename_i h1
  simp only [Bool.and_eq_true,Option.isNone_iff_eq_none] at h
  refine ⟨by omega,by omega,fun i x hx=>?_,fun i x d hx hd=>?_⟩
  · have := List.findSome?_eq_none_iff.1 h.1 x (List.mem_of_getElem? hx)
    unfold Jgy at this
    split at this
    · cases this
    · omega
  · obtain ⟨hi, _⟩ := List.getElem?_eq_some_iff.1 hx
    have:=List.findSome?_eq_none_iff.1 h.2 i (List.mem_range.2 hi)
    rw [Jgx hx hd] at this
    split at this
    · cases this
    · omega
theorem Ji3 {a:XAir} {s:XSetting} (h:Jdn a s=true):AirOk a∧FitOk a s:=by
  simp only [Jdn,Bool.and_eq_true,decide_eq_true_eq] at h
  exact ⟨Jeg h.1,Je4 h.2⟩
end Go.Proofs.YtihompplndcdeaaGreat
end
section
namespace Go.Proofs.YtihompplndcdeaaGreat
open Go.Aw Go
set_option maxRecDepth 20000
attribute [local irreducible] CJ LJ DJ Tri YV Gives Jd5 Jbd Jbz Jd4 RV Jbf
def Jb4 (a : XAir) (s : XSetting) (r : Int) : Nat → XSpan
  | 0=>(a.mine.roads.l.getD r.toNat default).rest
  | k + 1=>if (a.doors.l.getD k default).road=r then ⟨(Jb4 a s r k).low + (Jex (a.doors.l.getD k default) (s.doors.l.getD k 0)).low,(Jb4 a s r k).high + (Jex (a.doors.l.getD k default) (s.doors.l.getD k 0)).high⟩ else Jb4 a s r k
def Jma (rest lift:XSpan) (q:Int):XSpan:=
  if q < 0 then ⟨-(rest.high * q * q) - lift.high,-(rest.low * q * q) - lift.low⟩ else ⟨rest.low * q * q - lift.high,rest.high * q * q - lift.low⟩
def innerTo (a : XAir) (s : XSetting) (r q : Int) : Nat → XSpan
  | 0=>Jma (Jb4 a s r a.doors.l.length) (a.mine.roads.l.getD r.toNat default).lift q
  | k + 1=>if (a.fans.l.getD k default).road=r then ⟨(innerTo a s r q k).low - (Jcn (a.fans.l.getD k default) (s.fans.l.getD k 0) q).high,(innerTo a s r q k).high - (Jcn (a.fans.l.getD k default) (s.fans.l.getD k 0) q).low⟩ else innerTo a s r q k
def Jbr (a:XAir) (s:XSetting) (r q:Int):XSpan:=innerTo a s r q a.fans.l.length
theorem Jdf {a:XAir} {s:XSetting} (h:AirOk a) {r:Int} (hr:0≤r∧r < a.mine.roads.l.length):∀(k:Nat),k≤a.doors.l.length→
    1≤(Jb4 a s r k).low∧(Jb4 a s r k).low≤(Jb4 a s r k).high∧(Jb4 a s r k).high≤262144 * (k + 1)
  | 0,_=>by
    have:=(h.mine.road r.toNat _ (Jan default (by omega))).rest
    simp only [Jb4];omega
  | k + 1,hk=>by
    have ih:=Jdf (s:=s) h hr k (by omega)
    have hb:=Ji1 (h.door k _ (Jan default (by omega))).1 (s.doors.l.getD k 0)
    simp only [Jb4]
    split
    · dsimp only;omega
    · omega
theorem Jqb {r q:Int} (hr:0≤r∧r≤4456448) (hq:-1048577≤q∧q≤1048577):-4672928874496≤r * q∧r * q≤4672928874496:=by
  rcases Int.lt_or_le q 0 with h | h
  · have h1 := Int.mul_le_mul hr.2 (show -q ≤ 1048577 by omega) (by omega) (by omega)
    have h2:=Int.mul_nonneg hr.1 (show 0≤ -q by omega)
    rw [Int.mul_neg] at h1 h2
    omega
  · have h1 := Int.mul_le_mul hr.2 hq.2 h (by omega)
    have h2:=Int.mul_nonneg hr.1 h
    omega
theorem Jhz {a:XAir} {s:XSetting} {r q:Int} (h:q < 0):innerTo a s r q 0=⟨-((Jb4 a s r a.doors.l.length).high * q * q) - (a.mine.roads.l.getD r.toNat default).lift.high,-((Jb4 a s r a.doors.l.length).low * q * q) - (a.mine.roads.l.getD r.toNat default).lift.low⟩:=if_pos h
theorem Jh7 {a:XAir} {s:XSetting} {r q:Int} (h:¬ q < 0):innerTo a s r q 0=⟨(Jb4 a s r a.doors.l.length).low * q * q - (a.mine.roads.l.getD r.toNat default).lift.high,(Jb4 a s r a.doors.l.length).high * q * q - (a.mine.roads.l.getD r.toNat default).lift.low⟩:=if_neg h
theorem Jg0 {a:XAir} {s:XSetting} (h:AirOk a) {r q:Int} (hr:0≤r∧r < a.mine.roads.l.length) (hq:-1048577≤q∧q≤1048577):∀(k:Nat),k≤a.fans.l.length→
    -4899925740432392192 - 2199023255552 * (k + 1)≤(innerTo a s r q k).low∧(innerTo a s r q k).low≤(innerTo a s r q k).high∧(innerTo a s r q k).high≤4899925740432392192 + 2199023255552 * (k + 1)
  | 0,_=>by
    have hs:=Jf6 hq
    have hn:=h.ndoors
    have hrb:=Jdf (s:=s) h hr a.doors.l.length (Nat.le_refl _)
    have hl:=(h.mine.road r.toNat _ (Jan default (by omega))).lift
    have h1:=Jeb (r:=(Jb4 a s r a.doors.l.length).low) (by omega) hs
    have h2:=Jeb (r:=(Jb4 a s r a.doors.l.length).high) (by omega) hs
    have h3:(Jb4 a s r a.doors.l.length).low * (q * q)≤(Jb4 a s r a.doors.l.length).high * (q * q):=Int.mul_le_mul_of_nonneg_right hrb.2.1 hs.1
    rcases Int.lt_or_le q 0 with h' | h'
    · rw [Jhz h',Int.mul_assoc,Int.mul_assoc];dsimp only;omega
    · rw [Jh7 (by omega),Int.mul_assoc,Int.mul_assoc];dsimp only;omega
  | k + 1,hk=>by
    have ih:=Jg0 (s:=s) h hr hq k (by omega)
    have hb:=Jek (h.fan k _ (Jan default (by omega))).1 (s.fans.l.getD k 0) q
    simp only [innerTo]
    split
    · dsimp only;omega
    · omega
theorem Jn4 (a:XAir) (s:XSetting) (r q:Int) (L:List Blk) (R:List Sl) (hm:AirR a R) (hs:SetR s R) (ha:AirOk a) (hf:FitOk a s) (hr:0≤r∧r < a.mine.roads.l.length) (hq:-1048577≤q∧q≤1048577):
    Tri Tryz.prog 116 [a.val,s.val,.int .i64 r,.int .i64 q].toArray L R (fun v L' R'=>v=(Jbr a s r q).val∧L=L'∧R=R'):=by
  have hmr:=hm.roads
  have hfa:=hm.fans
  have hdo:=hm.doors
  have hsf:=hs.fans
  have hsd:=hs.doors
  have hnd:=ha.ndoors
  have hnf:=ha.nfans
  have hlf:=hf.lf
  have hld:=hf.ld
  have hro:=Jan (l:=a.mine.roads.l) (k:=r.toNat) default (by omega)
  have hrl:=(ha.mine.road _ _ hro).lift
  have hsq:=Jf6 hq
  refine Jae 138 Tryz.call116 Tryz.func116 rfl rfl rfl ?_
  refine Xai ?_
  intro b4
  refine qax ?_
  intro b5
  refine qaq ?_
  intro b8
  refine qam ?_
  refine Xd3 ?_
  refine Ja2 (by first | exact Jag tb rfl rfl rfl rfl (by first | assumption | exact zr (by simp)) (i:=r.toNat) (by first | rfl | omega | (simp;omega)) (by omega) | exact Jal tb rfl rfl rfl rfl (i:=r.toNat) (by first | rfl | omega | (simp;omega)) (by omega)) rfl ?_
  refine Xda ?_
  intro b9
  refine Xbf ?_
  refine Xbu ?_
  refine qaq ?_
  intro b10
  refine Xbm ?_
  refine Xas ?_
  refine Jai [(2,Value.int _ _),(3,Value.int _ _),(4,Value.pointer _),(5,Value.pointer _),(8,Value.pointer _),(9,Value.pointer _),(10,Value.pointer _),(11,Value.int _ _)] (by repeat' (first | exact trivial | refine And.intro rfl ?_)) fun tq0=>?_
  refine q_p [11,12,24,25,26,27,28,29,30,31,32,33,34,35,36,37,38,39,40,41,42,43,44,45,46,47,48,49,50,51,52,53,54,55,56,57,58,59,60,61] ((⟨fun g=>[(11,.int .i64 ((g.1:Nat):Int))],fun g=>⟨b10,[.int .i64 (Jb4 a s r g.1).low,.int .i64 (Jb4 a s r g.1).high],46⟩ :: ⟨b9,(a.mine.roads.l.getD r.toNat default).cells,48⟩ :: ⟨b8,[.int .i64 0,.int .i64 0],46⟩ :: ⟨b5,s.cells,25⟩ :: ⟨b4,a.cells,35⟩ :: L,fun _=>R,fun g=>a.doors.l.length - g.1⟩:Head {k:Nat // k≤a.doors.l.length})) (⟨0,by omega⟩) ?_
  rintro ⟨k,hk⟩ junk
  try dsimp only
  refine Xbo ?_
  refine q_c (fun hc0=>?_) (fun hc0=>?_)
  ·
   have hx:=Jan (l:=a.doors.l) (k:=k) default (by omega)
   have hy:=Jan (l:=s.doors.l) (k:=k) 0 (by omega)
   have hrb:=Jdf (s:=s) ha hr k (by omega)
   have hdb:=Ji1 (ha.door _ _ hx).1 (s.doors.l.getD k 0)
   refine Xdd ?_
   refine qa3 ?_
   refine Xba ?_
   refine Xdy ?_
   refine q_c (fun hc1=>?_) (fun hc1=>?_)
   ·
    have e:Jb4 a s r (k + 1)=_:=if_pos hc1
    refine Jam ?_
    refine Jbb tb [0,1,2,3,4,5,6,7,8,9,10,11,12] _ Jbn (by kernel_rfl) (List.Sublist.refl _) ?_
    refine Xc5 ?_
    refine qdv ?_
    refine Xc5 ?_
    refine qbl ?_
    refine q_d rfl (Jlo (a.doors.l.getD k default) (s.doors.l.getD k 0) _ _ (hdo.door hx)) ?_
    refine qbr ?_
    intro b12
    refine qbg ?_
    refine qbu ?_
    refine Ja8 tb [57,58,59] [0,1,2,3,4,5,6,7,8,9,10] [11,12,13] (_) _ Jbn (by kernel_rfl) (by repeat (first | exact zs0 _ | exact zs1 _ | apply zs2 | apply zs3 | apply zs4 | apply zs5)) (by (repeat (first | apply List.Sublist.cons (a:=Blk.mk b10 _ _) | apply List.Sublist.cons_cons));exact List.Sublist.refl _) ?_
    refine Xde ?_
    refine qcj ?_
    refine Xaf ?_
    refine Xch ?_
    refine Jgc (by first | exact Jk3 rfl rfl (by omega) (by omega) | exact Jpc rfl rfl (by omega) (by omega) | exact Jop rfl rfl) rfl rfl rfl rfl ?_
    refine Xc7 ?_
    refine qal ?_
    refine qb6 ?_
    refine Xca ?_
    exact Jat ⟨k + 1,by omega⟩ (by repeat (first | exact Off.refl | apply Off.upd rfl | apply Off.havoc rfl | apply Off.updL rfl | apply Off.left rfl)) (by repeat' (first | exact trivial | refine And.intro rfl ?_)) (by dsimp only;rw [e];exact (by repeat (first | exact zs0 _ | exact zs1 _ | apply zs2 | apply zs3 | apply zs4 | apply zs5))) (Jac _) (by dsimp only;omega)
   have e:Jb4 a s r (k + 1)=_:=if_neg hc1
   refine Xa1 ?_
   exact Jat ⟨k + 1,by omega⟩ (by repeat (first | exact Off.refl | apply Off.upd rfl | apply Off.havoc rfl | apply Off.updL rfl | apply Off.left rfl)) (by repeat' (first | exact trivial | refine And.intro rfl ?_)) (by dsimp only;rw [e];exact (by repeat (first | exact zs0 _ | exact zs1 _ | apply zs2 | apply zs3 | apply zs4 | apply zs5))) (Jac _) (by dsimp only;omega)
  obtain rfl:k=a.doors.l.length:=by omega
  have hrb:=Jdf (s:=s) ha hr a.doors.l.length (Nat.le_refl _)
  have g1:=Jeb (r:=(Jb4 a s r a.doors.l.length).low) (by omega) hsq
  have g2:=Jeb (r:=(Jb4 a s r a.doors.l.length).high) (by omega) hsq
  have g3:=Jqb (r:=(Jb4 a s r a.doors.l.length).low) (by omega) hq
  have g4:=Jqb (r:=(Jb4 a s r a.doors.l.length).high) (by omega) hq
  rw [← Int.mul_assoc] at g1 g2
  refine qbk ?_
  refine Xak ?_
  refine qcm ?_
  refine Xdt ?_
  refine Xak ?_
  refine qcm ?_
  refine Xdt ?_
  refine qcd ?_
  refine qaq ?_
  intro b13
  refine Xbm ?_
  refine qaa ?_
  refine Xao ?_
  refine q_c (fun hc2=>?_) (fun hc2=>?_)
  ·
   refine qay ?_
   refine Xaa ?_
   refine qcq ?_
   refine Xaa ?_
   refine qcq ?_
   refine qcd ?_
   refine Xd6 ?_
   refine J6f ?_
   refine Xaf ?_
   refine Xcz ?_
   refine qcc ?_
   refine Xaf ?_
   refine qcp ?_
   refine Xch ?_
   refine qdj ?_
   refine Xc7 ?_
   refine qal ?_
   refine qb6 ?_
   refine qc6 ?_
   refine Xas ?_
   refine Jai [(2,Value.int _ _),(3,Value.int _ _),(4,Value.pointer _),(5,Value.pointer _),(8,Value.pointer _),(13,Value.pointer _),(14,Value.int _ _)] (by repeat' (first | exact trivial | refine And.intro rfl ?_)) fun tq1=>?_
   refine Jb0 [14,15,98,99,100,101,102,103,104,105,106,107,108,109,110,111,112,113,114,115,116,117,118,119,120,121,122,123,124,125,126,127,128,129,130,131,132,133,134,135,136] ((⟨fun g=>[(14,.int .i64 ((g.1:Nat):Int))],fun g=>⟨b13,[.int .i64 (innerTo a s r q g.1).low,.int .i64 (innerTo a s r q g.1).high],46⟩ :: ⟨b8,[.int .i64 0,.int .i64 0],46⟩ :: ⟨b5,s.cells,25⟩ :: ⟨b4,a.cells,35⟩ :: L,fun _=>R,fun g=>a.fans.l.length - g.1⟩:Head {k:Nat // k≤a.fans.l.length})) (⟨0,by omega⟩) (by repeat' (first | exact trivial | refine And.intro rfl ?_)) (by dsimp only;first | (rw [Jhz hc2];exact (by repeat (first | exact zs0 _ | exact zs1 _ | apply zs2 | apply zs3 | apply zs4 | apply zs5))) | (rw [Jh7 hc2];exact (by repeat (first | exact zs0 _ | exact zs1 _ | apply zs2 | apply zs3 | apply zs4 | apply zs5)))) (Jac _) ?_
   rintro ⟨k,hk⟩ junk
   try dsimp only
   refine Xbo ?_
   refine q_c (fun hc3=>?_) (fun hc3=>?_)
   ·
    have hx:=Jan (l:=a.fans.l) (k:=k) default (by omega)
    have hy:=Jan (l:=s.fans.l) (k:=k) 0 (by omega)
    have hib:=Jg0 (s:=s) ha hr hq k (by omega)
    have hfo:=(ha.fan _ _ hx).1
    have hsb:=Jek hfo (s.fans.l.getD k 0) q
    refine Xdd ?_
    refine qa3 ?_
    refine Xba ?_
    refine Xdy ?_
    refine q_c (fun hc4=>?_) (fun hc4=>?_)
    ·
     have e:innerTo a s r q (k + 1)=_:=if_pos hc4
     refine Jam ?_
     refine Jbb tb [0,1,2,3,4,5,6,7,8,9,10,11,12,13] _ Jbn (by kernel_rfl) (List.Sublist.refl _) ?_
     refine Xc5 ?_
     refine qdp ?_
     refine Xc5 ?_
     refine qbl ?_
     refine qao ?_
     refine q_d rfl (Jkg (a.fans.l.getD k default) (s.fans.l.getD k 0) q _ _ (hfa.fan hx) hfo hq (hf.fan _ _ hy)) ?_
     refine qbr ?_
     intro b15
     refine qbg ?_
     refine qbu ?_
     refine J72 ?_
     refine Xde ?_
     refine qcc ?_
     refine Xaf ?_
     refine Xch ?_
     refine qdj ?_
     refine Xc7 ?_
     refine qal ?_
     refine qb6 ?_
     refine Xca ?_
     exact Jat ⟨k + 1,by omega⟩ (by repeat (first | exact Off.refl | apply Off.upd rfl | apply Off.havoc rfl | apply Off.updL rfl | apply Off.left rfl)) (by repeat' (first | exact trivial | refine And.intro rfl ?_)) (by dsimp only;rw [e];exact (by repeat (first | exact zs0 _ | exact zs1 _ | apply zs2 | apply zs3 | apply zs4 | apply zs5))) (Jac _) (by dsimp only;omega)
    have e:innerTo a s r q (k + 1)=_:=if_neg hc4
    refine Xa1 ?_
    exact Jat ⟨k + 1,by omega⟩ (by repeat (first | exact Off.refl | apply Off.upd rfl | apply Off.havoc rfl | apply Off.updL rfl | apply Off.left rfl)) (by repeat' (first | exact trivial | refine And.intro rfl ?_)) (by dsimp only;rw [e];exact (by repeat (first | exact zs0 _ | exact zs1 _ | apply zs2 | apply zs3 | apply zs4 | apply zs5))) (Jac _) (by dsimp only;omega)
   obtain rfl:k=a.fans.l.length:=by omega
   refine qbk ?_
   refine Xdg ?_
   refine q_r (L':=L) (R':=R) (Jdi rfl (Jax (row:=[_,_]) tb rfl rfl rfl (by repeat (first | exact zi0 | apply zi1 | apply zi2)) (by rfl) (by rfl))) ?_
   exact ⟨rfl,rfl,rfl⟩
  refine qcl ?_
  refine J6f ?_
  refine Xaf ?_
  refine Xcz ?_
  refine qcc ?_
  refine Xaf ?_
  refine qcp ?_
  refine Xch ?_
  refine qdj ?_
  refine Xc7 ?_
  refine qal ?_
  refine qb6 ?_
  refine qc6 ?_
  refine Xas ?_
  refine Jai [(2,Value.int _ _),(3,Value.int _ _),(4,Value.pointer _),(5,Value.pointer _),(8,Value.pointer _),(13,Value.pointer _),(14,Value.int _ _)] (by repeat' (first | exact trivial | refine And.intro rfl ?_)) fun tq1=>?_
  refine Jb0 [14,15,98,99,100,101,102,103,104,105,106,107,108,109,110,111,112,113,114,115,116,117,118,119,120,121,122,123,124,125,126,127,128,129,130,131,132,133,134,135,136] ((⟨fun g=>[(14,.int .i64 ((g.1:Nat):Int))],fun g=>⟨b13,[.int .i64 (innerTo a s r q g.1).low,.int .i64 (innerTo a s r q g.1).high],46⟩ :: ⟨b8,[.int .i64 0,.int .i64 0],46⟩ :: ⟨b5,s.cells,25⟩ :: ⟨b4,a.cells,35⟩ :: L,fun _=>R,fun g=>a.fans.l.length - g.1⟩:Head {k:Nat // k≤a.fans.l.length})) (⟨0,by omega⟩) (by repeat' (first | exact trivial | refine And.intro rfl ?_)) (by dsimp only;first | (rw [Jhz hc2];exact (by repeat (first | exact zs0 _ | exact zs1 _ | apply zs2 | apply zs3 | apply zs4 | apply zs5))) | (rw [Jh7 hc2];exact (by repeat (first | exact zs0 _ | exact zs1 _ | apply zs2 | apply zs3 | apply zs4 | apply zs5)))) (Jac _) ?_
  rintro ⟨k,hk⟩ junk
  try dsimp only
  refine Xbo ?_
  refine q_c (fun hc3=>?_) (fun hc3=>?_)
  ·
   have hx:=Jan (l:=a.fans.l) (k:=k) default (by omega)
   have hy:=Jan (l:=s.fans.l) (k:=k) 0 (by omega)
   have hib:=Jg0 (s:=s) ha hr hq k (by omega)
   have hfo:=(ha.fan _ _ hx).1
   have hsb:=Jek hfo (s.fans.l.getD k 0) q
   refine Xdd ?_
   refine qa3 ?_
   refine Xba ?_
   refine Xdy ?_
   refine q_c (fun hc4=>?_) (fun hc4=>?_)
   ·
    have e:innerTo a s r q (k + 1)=_:=if_pos hc4
    refine Jam ?_
    refine Jbb tb [0,1,2,3,4,5,6,7,8,9,10,11,12,13] _ Jbn (by kernel_rfl) (List.Sublist.refl _) ?_
    refine Xc5 ?_
    refine qdp ?_
    refine Xc5 ?_
    refine qbl ?_
    refine qao ?_
    refine q_d rfl (Jkg (a.fans.l.getD k default) (s.fans.l.getD k 0) q _ _ (hfa.fan hx) hfo hq (hf.fan _ _ hy)) ?_
    refine qbr ?_
    intro b15
    refine qbg ?_
    refine qbu ?_
    refine J72 ?_
    refine Xde ?_
    refine qcc ?_
    refine Xaf ?_
    refine Xch ?_
    refine qdj ?_
    refine Xc7 ?_
    refine qal ?_
    refine qb6 ?_
    refine Xca ?_
    exact Jat ⟨k + 1,by omega⟩ (by repeat (first | exact Off.refl | apply Off.upd rfl | apply Off.havoc rfl | apply Off.updL rfl | apply Off.left rfl)) (by repeat' (first | exact trivial | refine And.intro rfl ?_)) (by dsimp only;rw [e];exact (by repeat (first | exact zs0 _ | exact zs1 _ | apply zs2 | apply zs3 | apply zs4 | apply zs5))) (Jac _) (by dsimp only;omega)
   have e:innerTo a s r q (k + 1)=_:=if_neg hc4
   refine Xa1 ?_
   exact Jat ⟨k + 1,by omega⟩ (by repeat (first | exact Off.refl | apply Off.upd rfl | apply Off.havoc rfl | apply Off.updL rfl | apply Off.left rfl)) (by repeat' (first | exact trivial | refine And.intro rfl ?_)) (by dsimp only;rw [e];exact (by repeat (first | exact zs0 _ | exact zs1 _ | apply zs2 | apply zs3 | apply zs4 | apply zs5))) (Jac _) (by dsimp only;omega)
  obtain rfl:k=a.fans.l.length:=by omega
  refine qbk ?_
  refine Xdg ?_
  refine q_r (L':=L) (R':=R) (Jdi rfl (Jax (row:=[_,_]) tb rfl rfl rfl (by repeat (first | exact zi0 | apply zi1 | apply zi2)) (by rfl) (by rfl))) ?_
  exact ⟨rfl,rfl,rfl⟩
end Go.Proofs.YtihompplndcdeaaGreat
end
section
namespace Go.Proofs.YtihompplndcdeaaGreat
open Go.Aw Go
set_option maxRecDepth 20000
attribute [local irreducible] CJ LJ DJ Tri YV Gives Jd5 Jbd Jbz Jd4 RV Jbf
theorem Ji7 (a:XAir) (s:XSetting) (r pr:Int) (L:List Blk) (R:List Sl) (hm:AirR a R) (hs:SetR s R) (ha:AirOk a) (hf:FitOk a s) (hr:0≤r∧r < a.mine.roads.l.length):
    Tri Tryz.prog 95 [a.val,s.val,.int .i64 r,.int .i64 pr].toArray L R (fun v L' R'=>v=.int .i64 (Jb3 (Jbr a s r) pr)∧L=L'∧R=R'):=by
  refine Jae 34 Tryz.call95 Tryz.func95 rfl rfl rfl ?_
  refine Xai ?_
  intro b4
  refine qax ?_
  intro b5
  refine Xal ?_
  refine qad ?_
  refine qad ?_
  refine Ja9 (Jaa (Jam (Ja1 ?_)))
  refine Jai [(2,Value.int _ _),(3,Value.int _ _),(4,Value.pointer _),(5,Value.pointer _),(9,Value.int _ _),(10,Value.int _ _)] (by repeat' (first | exact trivial | refine And.intro rfl ?_)) fun tq0=>?_
  refine q_s [9,10,11,12,13,14,15,16,17,18,19,20,21,22,23,24,25,26,27,28,29,30,31,32] (fun g:{g:Int×Int // -1048577≤g.1∧g.1≤g.2∧g.2≤1048576∧Jb3 (Jbr a s r) pr=Jt3 (fun q=>(Jbr a s r q).high) pr g.1 g.2}=>[(9,.int .i64 g.1.1),(10,.int .i64 g.1.2)]) (fun g=>(g.1.2 - g.1.1).toNat) (⟨(-1048577,1048576),by omega,by omega,by omega,rfl⟩) ?_
  rintro ⟨⟨lo,hi⟩,h1,h2,h3,h4⟩ junk
  try dsimp only
  refine Xec ?_
  refine Xao ?_
  refine q_c (fun hc0=>?_) (fun hc0=>?_)
  ·
   dsimp only at h1 h2 h3 h4 hc0
   have he:=Jg4 (x:=hi - lo + 1) (by omega)
   refine Ja3 (Jaa (Ja1 (Jam (Jaf ?_))))
   iterate 3 refine qaa ?_
   refine qa9 ?_
   refine qar ?_
   refine qdd ?_
   refine Xac ?_
   refine qam ?_
   refine Xap ?_
   refine Xbx ?_
   refine q_l rfl (Jn4 a s r (lo + (hi - lo + 1).tdiv 2) _ _ hm hs ha hf hr (by omega)) ?_
   refine qcz ?_
   refine qaa ?_
   refine Xdu ?_
   refine q_c (fun hc1=>?_) (fun hc1=>?_)
   ·
    have e:=h4.trans (Jup hc0 hc1)
    refine qay ?_
    refine Xa2 ?_
    refine Ja9 (Jao ?_)
    exact qc0
   have e:=h4.trans (Juu hc0 hc1)
   refine Xb7 ?_
   refine Xc8 ?_
   refine Ja9 (Jao ?_)
   exact qc0
  dsimp only at h1 h2 h3 h4 hc0
  refine Xds ?_
  refine q_i (L':=L) (R':=R) ?_
  exact ⟨by rw [h4,Jq4 hc0],rfl,rfl⟩
theorem Jh2 (a:XAir) (s:XSetting) (r pr:Int) (L:List Blk) (R:List Sl) (hm:AirR a R) (hs:SetR s R) (ha:AirOk a) (hf:FitOk a s) (hr:0≤r∧r < a.mine.roads.l.length):
    Tri Tryz.prog 96 [a.val,s.val,.int .i64 r,.int .i64 pr].toArray L R (fun v L' R'=>v=.int .i64 (Jbs (Jbr a s r) pr)∧L=L'∧R=R'):=by
  refine Jae 33 Tryz.call96 Tryz.func96 rfl rfl rfl ?_
  refine Xai ?_
  intro b4
  refine qax ?_
  intro b5
  refine Xal ?_
  refine qad ?_
  refine qad ?_
  refine Ja9 (Jaa (Jam (Ja1 ?_)))
  refine Jai [(2,Value.int _ _),(3,Value.int _ _),(4,Value.pointer _),(5,Value.pointer _),(9,Value.int _ _),(10,Value.int _ _)] (by repeat' (first | exact trivial | refine And.intro rfl ?_)) fun tq0=>?_
  refine q_s [9,10,11,12,13,14,15,16,17,18,19,20,21,22,23,24,25,26,27,28,29,30,31] (fun g:{g:Int×Int // -1048576≤g.1∧g.1≤g.2∧g.2≤1048577∧Jbs (Jbr a s r) pr=Jit (fun q=>(Jbr a s r q).low) pr g.1 g.2}=>[(9,.int .i64 g.1.1),(10,.int .i64 g.1.2)]) (fun g=>(g.1.2 - g.1.1).toNat) (⟨(-1048576,1048577),by omega,by omega,by omega,rfl⟩) ?_
  rintro ⟨⟨lo,hi⟩,h1,h2,h3,h4⟩ junk
  try dsimp only
  refine Xec ?_
  refine Xao ?_
  refine q_c (fun hc0=>?_) (fun hc0=>?_)
  ·
   dsimp only at h1 h2 h3 h4 hc0
   have he:=Jg4 (x:=hi - lo) (by omega)
   refine Ja3 (Jaa (Ja1 (Jam (Jaf ?_))))
   iterate 3 refine qaa ?_
   refine qa9 ?_
   refine qdd ?_
   refine Xac ?_
   refine qam ?_
   refine Xap ?_
   refine Xbx ?_
   refine q_l rfl (Jn4 a s r (lo + (hi - lo).tdiv 2) _ _ hm hs ha hf hr (by omega)) ?_
   refine qcz ?_
   refine qaa ?_
   refine Xdb ?_
   refine q_c (fun hc1=>?_) (fun hc1=>?_)
   ·
    have e:=h4.trans (Jq2 hc0 hc1)
    refine qay ?_
    refine Xa2 ?_
    refine Ja9 (Jao ?_)
    exact qc0
   have e:=h4.trans (Jse hc0 hc1)
   refine qay ?_
   refine Xag ?_
   refine Ja9 (Jao ?_)
   exact qc0
  dsimp only at h1 h2 h3 h4 hc0
  refine Xds ?_
  refine q_i (L':=L) (R':=R) ?_
  exact ⟨by rw [h4,Jok hc0],rfl,rfl⟩
end Go.Proofs.YtihompplndcdeaaGreat
end
