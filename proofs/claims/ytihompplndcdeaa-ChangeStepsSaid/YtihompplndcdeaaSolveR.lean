import Derived.Test.YtihompplndcdeaaCflowR
import Derived.Test.YtihompplndcdeaaNets
set_option linter.unusedVariables false
set_option linter.unusedSimpArgs false
section
/-
  Bounds that are accepted hold the state that fits: the law of comparison. By an AI agent; no person has read it.
-/
namespace Go.Proofs.Ytihompplndcdeaa
open Go.Aw Go
theorem Jzi (p : Nat → Prop) (D : Nat → Int) : ∀ n : Nat, (∃ u, u < n ∧ p u) → ∃ u, u < n ∧ p u ∧ ∀ v, v < n → p v → D v ≤ D u
  | 0,h=>by obtain ⟨u,hu,_⟩:=h;omega
  | n + 1,h=>by
    by_cases hn:∃u,u < n∧p u
    · obtain ⟨u, h1, h2, h3⟩ := Jzi p D n hn
      by_cases hp:p n∧D u < D n
      · exact ⟨n,by omega,hp.1,fun v hv hpv=>by
          rcases Nat.lt_or_ge v n with h | h
          · have:=h3 v h hpv;omega
          · obtain rfl : v = n := by omega
            omega⟩
      · exact ⟨u,by omega,h2,fun v hv hpv=>by
          rcases Nat.lt_or_ge v n with h | h
          · exact h3 v h hpv
          · obtain rfl : v = n := by omega
            exact Int.not_lt.1 fun e=>hp ⟨hpv,e⟩⟩
    · obtain ⟨u, h1, h2⟩ := h
      obtain rfl:u=n:=by
        rcases Nat.lt_or_ge u n with h | h
        · exact absurd ⟨u,h,h2⟩ hn
        · omega
      exact ⟨u,by omega,h2,fun v hv hpv=>by
        rcases Nat.lt_or_ge v u with h | h
        · exact absurd ⟨v,h,hpv⟩ hn
        · obtain rfl : v = u := by omega
          exact Int.le_refl _⟩
structure Accept (a:XAir) (s:XSetting) (b:XBounds) (A:List Bool):Prop where
  ck:CheckOk a s b
  fix:∀i:Nat,i < a.mine.places.l.length→(!(A.getD i false) || (a.mine.places.l.getD i default).surface)=true→b.low.l.getD i 0=0∧b.high.l.getD i 0=0
  net:∀i:Nat,i < a.mine.places.l.length→¬ (!(A.getD i false) || (a.mine.places.l.getD i default).surface)=true→0≤Jph a s b.high.l (i:Int)∧Jgp a s b.low.l (i:Int)≤0
theorem Jlz {a:XAir} {s:XSetting} {b:XBounds} {A:List Bool} (h:CheckOk a s b):Jd1 a s b A=((List.range a.mine.places.l.length).findSome? (Jcq a s b A)).getD 0:=by
  have h1:=h.hl
  have h2:=h.hh
  rw [Jd1,if_neg (by rw [h.h0];decide),if_neg (by rw [h.hf];decide),if_neg (by omega),if_neg (by rw [Jjt h.pl,Jjt h.ph];simp)]
theorem Jq1 (a:XAir) (s:XSetting) (b:XBounds) (A:List Bool) (i:Nat):Jcq a s b A i=none∨Jcq a s b A i=some 12:=by
  unfold Jcq
  split
  · split
    · exact .inr rfl
    · exact .inl rfl
  · split
    · exact .inr rfl
    · exact .inl rfl
theorem Jo8 {a:XAir} {s:XSetting} {b:XBounds} {A:List Bool}:Jd1 a s b A=0↔Accept a s b A:=by
  have node:∀i,Jcq a s b A i=none↔((!(A.getD i false) || (a.mine.places.l.getD i default).surface)=true→b.low.l.getD i 0=0∧b.high.l.getD i 0=0)∧(¬ (!(A.getD i false) || (a.mine.places.l.getD i default).surface)=true→0≤Jph a s b.high.l (i:Int)∧Jgp a s b.low.l (i:Int)≤0):=fun i=>by
    unfold Jcq
    by_cases h1:(!(A.getD i false) || (a.mine.places.l.getD i default).surface)=true
    · rw [if_pos h1]
      refine ⟨fun h=>⟨fun _=>?_,fun h'=>absurd h1 h'⟩,fun h=>if_neg (by have:=h.1 h1;omega)⟩
      split at h
      · cases h
      · omega
    · rw [if_neg h1]
      refine ⟨fun h=>⟨fun h'=>absurd h' h1,fun _=>?_⟩,fun h=>if_neg (by have:=h.2 h1;omega)⟩
      split at h
      · cases h
      · omega
  constructor
  · intro h
    have hC:=Jrg h
    rw [Jlz hC] at h
    have hn:(List.range a.mine.places.l.length).findSome? (Jcq a s b A)=none:=by
      cases e:(List.range a.mine.places.l.length).findSome? (Jcq a s b A) with
      | none=>rfl
      | some v=>
        obtain ⟨i,_,hi⟩:=List.exists_of_findSome?_eq_some e
        rcases Jq1 a s b A i with h1 | h1
        · rw [h1] at hi;cases hi
        · rw [h1] at hi;cases hi;rw [e] at h;cases h
    rw [List.findSome?_eq_none_iff] at hn
    exact ⟨hC,fun i hi=>((node i).1 (hn i (List.mem_range.2 hi))).1,fun i hi=>((node i).1 (hn i (List.mem_range.2 hi))).2⟩
  · intro h
    rw [Jlz h.ck,List.findSome?_eq_none_iff.2 (fun i hi=>(node i).2 ⟨h.fix i (List.mem_range.1 hi),h.net i (List.mem_range.1 hi)⟩)]
    rfl
theorem FitsF.lessLow {a : XAir} {s : XSetting} {x : XState} (h : FitsF a s x) (ha : AirOk a) {i : Nat} (hi : i < a.mine.roads.l.length) (hc : (a.mine.roads.l.getD i default).closed = false) {d d' : Int}
    (hd:d=x.pres.l.getD (a.mine.roads.l.getD i default).fr.toNat 0 - x.pres.l.getD (a.mine.roads.l.getD i default).to.toNat 0) (hlt:d' < d):Jbp (Ja8 a s i) d' < x.flows.l.getD i 0:=by
  have hf:=h.fit hi hc
  rw [← hd] at hf
  have hr:(0:Int)≤(i:Int)∧(i:Int) < a.mine.roads.l.length:=by omega
  have hfl:=h.flen
  have hq:=h.flow _ (List.mem_of_getElem? (Jai (l:=x.flows.l) (k:=i) 0 (by omega)))
  have h1:=Jfs (s:=s) ha hr d'
  generalize Jbp (Ja8 a s i) d'=l at *
  generalize x.flows.l.getD i 0=q at *
  refine Int.not_le.1 fun hl=>?_
  have k1:=h1.le q (by omega) hl
  omega
theorem FitsF.lessHigh {a : XAir} {s : XSetting} {x : XState} (h : FitsF a s x) (ha : AirOk a) {i : Nat} (hi : i < a.mine.roads.l.length) (hc : (a.mine.roads.l.getD i default).closed = false) {d d' : Int}
    (hd:d=x.pres.l.getD (a.mine.roads.l.getD i default).fr.toNat 0 - x.pres.l.getD (a.mine.roads.l.getD i default).to.toNat 0) (hlt:d < d'):x.flows.l.getD i 0 < Jbc (Ja8 a s i) d':=by
  have hf:=h.fit hi hc
  rw [← hd] at hf
  have hr:(0:Int)≤(i:Int)∧(i:Int) < a.mine.roads.l.length:=by omega
  have hfl:=h.flen
  have hq:=h.flow _ (List.mem_of_getElem? (Jai (l:=x.flows.l) (k:=i) 0 (by omega)))
  have h1:=Je9 (s:=s) ha hr d'
  generalize Jbc (Ja8 a s i) d'=l at *
  generalize x.flows.l.getD i 0=q at *
  refine Int.not_le.1 fun hl=>?_
  have k1:=h1.ge q hl (by omega)
  omega
def J16 (a:XAir) (fl:List Int) (v:Int) (k:Nat):Int:=if (a.mine.roads.l.getD k default).fr=v then fl.getD k 0 else if (a.mine.roads.l.getD k default).to=v then -(fl.getD k 0) else 0
def Jil (a:XAir) (u v k:Nat):Prop:=(a.mine.roads.l.getD k default).closed=false∧(((a.mine.roads.l.getD k default).fr=(u:Int)∧(a.mine.roads.l.getD k default).to=(v:Int))∨((a.mine.roads.l.getD k default).fr=(v:Int)∧(a.mine.roads.l.getD k default).to=(u:Int)))
theorem J03 {a : XAir} {s : XSetting} {x : XState} (h : FitsF a s x) (ha : AirOk a) {H : List Int} {u : Nat} {k : Nat} (hk : k < a.mine.roads.l.length)
    (hle:∀v,Jil a u v k→x.pres.l.getD v 0 - H.getD v 0≤x.pres.l.getD u 0 - H.getD u 0):
    Jf2 Jbp Jbc a s H u k≤J16 a x.flows.l u k∧((∃v,Jil a u v k∧x.pres.l.getD v 0 - H.getD v 0 < x.pres.l.getD u 0 - H.getD u 0)→Jf2 Jbp Jbc a s H u k < J16 a x.flows.l u k):=by
  have hro:=ha.mine.road k _ (Jai default hk)
  have h1:=hro.fr
  have h2:=hro.to
  have h3:=hro.ne
  have hr:(0:Int)≤(k:Int)∧(k:Int) < a.mine.roads.l.length:=by omega
  rw [Jf2,J16]
  cases hc:(a.mine.roads.l.getD k default).closed with
  | true=>
    have h0:=h.shut hk hc
    rw [h0]
    simp only [if_true]
    refine ⟨by split;omega;split <;> omega,fun ⟨v,hv,_⟩=>?_⟩
    rw [Jil,hc] at hv
    cases hv.1
  | false=>
    simp only [Bool.false_eq_true,if_false]
    have hi:=h.inside ha hk hc (d:=Jca a x.pres.l k) rfl
    by_cases hf:(a.mine.roads.l.getD k default).fr=(u:Int)
    · have hj : Jil a u (a.mine.roads.l.getD k default).to.toNat k := ⟨hc, .inl ⟨hf, by omega⟩⟩
      have hl:=hle _ hj
      have eu:(a.mine.roads.l.getD k default).fr.toNat=u:=by omega
      have e1:Jca a x.pres.l k=x.pres.l.getD u 0 - x.pres.l.getD (a.mine.roads.l.getD k default).to.toNat 0:=by rw [Jca,eu]
      have e2:Jca a H k=H.getD u 0 - H.getD (a.mine.roads.l.getD k default).to.toNat 0:=by rw [Jca,eu]
      have hm:=Jf4 (s:=s) ha hr (show Jca a H k≤Jca a x.pres.l k by omega)
      simp only [if_pos hf]
      refine ⟨by omega,fun ⟨v,hv,hlt⟩=>?_⟩
      have ev:v=(a.mine.roads.l.getD k default).to.toNat:=by
        rcases hv.2 with h4 | h4 <;> omega
      subst ev
      exact h.lessLow ha hk hc (d:=Jca a x.pres.l k) rfl (by omega)
    · simp only [if_neg hf]
      by_cases ht:(a.mine.roads.l.getD k default).to=(u:Int)
      · have hj : Jil a u (a.mine.roads.l.getD k default).fr.toNat k := ⟨hc, .inr ⟨by omega, ht⟩⟩
        have hl:=hle _ hj
        have eu:(a.mine.roads.l.getD k default).to.toNat=u:=by omega
        have e1:Jca a x.pres.l k=x.pres.l.getD (a.mine.roads.l.getD k default).fr.toNat 0 - x.pres.l.getD u 0:=by rw [Jca,eu]
        have e2:Jca a H k=H.getD (a.mine.roads.l.getD k default).fr.toNat 0 - H.getD u 0:=by rw [Jca,eu]
        have hm:=Jfn (s:=s) ha hr (show Jca a x.pres.l k≤Jca a H k by omega)
        simp only [if_pos ht]
        refine ⟨by omega,fun ⟨v,hv,hlt⟩=>?_⟩
        have ev:v=(a.mine.roads.l.getD k default).fr.toNat:=by
          rcases hv.2 with h4 | h4 <;> omega
        subst ev
        have:=h.lessHigh ha hk hc (d:=Jca a x.pres.l k) rfl (show Jca a x.pres.l k < Jca a H k by omega)
        omega
      · simp only [if_neg ht]
        refine ⟨Int.le_refl _,fun ⟨v,hv,_⟩=>?_⟩
        rcases hv.2 with h4 | h4
        · exact absurd h4.1 hf
        · exact absurd h4.2 ht
theorem Jzy {a : XAir} {s : XSetting} {x : XState} (h : FitsF a s x) (ha : AirOk a) {H : List Int} {u : Nat} {k : Nat} (hk : k < a.mine.roads.l.length)
    (hle:∀v,Jil a u v k→x.pres.l.getD u 0 - H.getD u 0≤x.pres.l.getD v 0 - H.getD v 0):
    J16 a x.flows.l u k≤Jf2 Jbc Jbp a s H u k∧((∃v,Jil a u v k∧x.pres.l.getD u 0 - H.getD u 0 < x.pres.l.getD v 0 - H.getD v 0)→J16 a x.flows.l u k < Jf2 Jbc Jbp a s H u k):=by
  have hro:=ha.mine.road k _ (Jai default hk)
  have h1:=hro.fr
  have h2:=hro.to
  have h3:=hro.ne
  have hr:(0:Int)≤(k:Int)∧(k:Int) < a.mine.roads.l.length:=by omega
  rw [Jf2,J16]
  cases hc:(a.mine.roads.l.getD k default).closed with
  | true=>
    have h0:=h.shut hk hc
    rw [h0]
    simp only [if_true]
    refine ⟨by split;omega;split <;> omega,fun ⟨v,hv,_⟩=>?_⟩
    rw [Jil,hc] at hv
    cases hv.1
  | false=>
    simp only [Bool.false_eq_true,if_false]
    have hi:=h.inside ha hk hc (d:=Jca a x.pres.l k) rfl
    by_cases hf:(a.mine.roads.l.getD k default).fr=(u:Int)
    · have hj : Jil a u (a.mine.roads.l.getD k default).to.toNat k := ⟨hc, .inl ⟨hf, by omega⟩⟩
      have hl:=hle _ hj
      have eu:(a.mine.roads.l.getD k default).fr.toNat=u:=by omega
      have e1:Jca a x.pres.l k=x.pres.l.getD u 0 - x.pres.l.getD (a.mine.roads.l.getD k default).to.toNat 0:=by rw [Jca,eu]
      have e2:Jca a H k=H.getD u 0 - H.getD (a.mine.roads.l.getD k default).to.toNat 0:=by rw [Jca,eu]
      have hm:=Jfn (s:=s) ha hr (show Jca a x.pres.l k≤Jca a H k by omega)
      simp only [if_pos hf]
      refine ⟨by omega,fun ⟨v,hv,hlt⟩=>?_⟩
      have ev:v=(a.mine.roads.l.getD k default).to.toNat:=by
        rcases hv.2 with h4 | h4 <;> omega
      subst ev
      exact h.lessHigh ha hk hc (d:=Jca a x.pres.l k) rfl (by omega)
    · simp only [if_neg hf]
      by_cases ht:(a.mine.roads.l.getD k default).to=(u:Int)
      · have hj : Jil a u (a.mine.roads.l.getD k default).fr.toNat k := ⟨hc, .inr ⟨by omega, ht⟩⟩
        have hl:=hle _ hj
        have eu:(a.mine.roads.l.getD k default).to.toNat=u:=by omega
        have e1:Jca a x.pres.l k=x.pres.l.getD (a.mine.roads.l.getD k default).fr.toNat 0 - x.pres.l.getD u 0:=by rw [Jca,eu]
        have e2:Jca a H k=H.getD (a.mine.roads.l.getD k default).fr.toNat 0 - H.getD u 0:=by rw [Jca,eu]
        have hm:=Jf4 (s:=s) ha hr (show Jca a H k≤Jca a x.pres.l k by omega)
        simp only [if_pos ht]
        refine ⟨by omega,fun ⟨v,hv,hlt⟩=>?_⟩
        have ev:v=(a.mine.roads.l.getD k default).fr.toNat:=by
          rcases hv.2 with h4 | h4 <;> omega
        subst ev
        have:=h.lessLow ha hk hc (d:=Jca a x.pres.l k) rfl (show Jca a H k < Jca a x.pres.l k by omega)
        omega
      · simp only [if_neg ht]
        refine ⟨Int.le_refl _,fun ⟨v,hv,_⟩=>?_⟩
        rcases hv.2 with h4 | h4
        · exact absurd h4.1 hf
        · exact absurd h4.2 ht
theorem Jzo {a : XAir} {s : XSetting} {x : XState} (h : FitsF a s x) (ha : AirOk a) {H : List Int} {u : Nat}
    (hle:∀v k,k < a.mine.roads.l.length→Jil a u v k→x.pres.l.getD v 0 - H.getD v 0≤x.pres.l.getD u 0 - H.getD u 0):
    ∀k,k≤a.mine.roads.l.length→Joj Jbp Jbc a s H u k≤Jkc a x.flows.l u k∧((∃j v,j < k∧Jil a u v j∧x.pres.l.getD v 0 - H.getD v 0 < x.pres.l.getD u 0 - H.getD u 0)→Joj Jbp Jbc a s H u k < Jkc a x.flows.l u k)
  | 0,_=>⟨Int.le_refl _,fun ⟨_,_,h,_⟩=>by omega⟩
  | k + 1,hk=>by
    have ih:=Jzo h ha hle k (by omega)
    have it:=J03 h ha (H:=H) (u:=u) (k:=k) (by omega) (fun v hv=>hle v k (by omega) hv)
    have e:Jkc a x.flows.l u (k + 1)=Jkc a x.flows.l u k + J16 a x.flows.l u k:=rfl
    rw [Joj,e]
    refine ⟨by omega,fun ⟨j,v,h1,h2,h3⟩=>?_⟩
    rcases Nat.lt_or_ge j k with h4 | h4
    · have := ih.2 ⟨j, v, h4, h2, h3⟩
      omega
    · obtain rfl : j = k := by omega
      have:=it.2 ⟨v,h2,h3⟩
      omega
theorem Ju7 {a : XAir} {s : XSetting} {x : XState} (h : FitsF a s x) (ha : AirOk a) {H : List Int} {u : Nat}
    (hle:∀v k,k < a.mine.roads.l.length→Jil a u v k→x.pres.l.getD u 0 - H.getD u 0≤x.pres.l.getD v 0 - H.getD v 0):
    ∀k,k≤a.mine.roads.l.length→Jkc a x.flows.l u k≤Joj Jbc Jbp a s H u k∧((∃j v,j < k∧Jil a u v j∧x.pres.l.getD u 0 - H.getD u 0 < x.pres.l.getD v 0 - H.getD v 0)→Jkc a x.flows.l u k < Joj Jbc Jbp a s H u k)
  | 0,_=>⟨Int.le_refl _,fun ⟨_,_,h,_⟩=>by omega⟩
  | k + 1,hk=>by
    have ih:=Ju7 h ha hle k (by omega)
    have it:=Jzy h ha (H:=H) (u:=u) (k:=k) (by omega) (fun v hv=>hle v k (by omega) hv)
    have e:Jkc a x.flows.l u (k + 1)=Jkc a x.flows.l u k + J16 a x.flows.l u k:=rfl
    rw [Joj,e]
    refine ⟨by omega,fun ⟨j,v,h1,h2,h3⟩=>?_⟩
    rcases Nat.lt_or_ge j k with h4 | h4
    · have := ih.2 ⟨j, v, h4, h2, h3⟩
      omega
    · obtain rfl : j = k := by omega
      have:=it.2 ⟨v,h2,h3⟩
      omega
theorem Jpx {a:XAir} {u v k:Nat} (hk:k < a.mine.roads.l.length) (h:Jil a u v k):Step a.mine u v:=
  ⟨_,List.mem_of_getElem? (Jai default hk),h.1,h.2⟩
theorem Jpu {a:XAir} {u v:Nat} (h:Step a.mine u v):∃k,k < a.mine.roads.l.length∧Jil a u v k:=by
  obtain ⟨r,hr,hc,h1⟩:=h
  obtain ⟨k,hk⟩:=List.mem_iff_getElem?.1 hr
  have hl:=(List.getElem?_eq_some_iff.1 hk).1
  have e:a.mine.roads.l.getD k default=r:=getD_some hk
  exact ⟨k,hl,by rw [Jil,e];exact ⟨hc,h1⟩⟩
theorem FitsF.surf {a:XAir} {s:XSetting} {x:XState} (h:FitsF a s x) {u:Nat} (hu:u < a.mine.places.l.length) (hs:(a.mine.places.l.getD u default).surface=true):x.pres.l.getD u 0=0:=by
  have hp:=h.place u hu
  unfold Jcu at hp
  split at hp
  · cases hp
  · rename_i hn
    rcases Int.decEq (x.pres.l.getD u 0) 0 with h0 | h0
    · exact absurd (.inl ⟨hs,h0⟩) hn
    · exact h0
theorem Jr5 (m:XMine) (i:Nat) (hi:i < m.places.l.length):(surf m).getD i false=(m.places.l.getD i default).surface:=by
  rw [surf,List.getD_eq_getElem?_getD,List.getElem?_map,Jai (l:=m.places.l) (k:=i) default hi]
  rfl
theorem Je6 (m:XMine):(surf m).length=m.places.l.length:=by simp [surf]
theorem AiryIs.step {m:XMine} {A:List Bool} (hA:AiryIs m A) (hm:MineOk m) {u v:Nat} (hu:A.getD u false=true) (h:Step m u v):A.getD v false=true:=by
  have hl:=h.lt hm
  obtain ⟨j,h1,h2,h3⟩:=(hA.iff u (by rw [Je6];exact hl.1)).1 hu
  exact (hA.iff v (by rw [Je6];exact hl.2)).2 ⟨j,h1,h2,h3.tail h⟩
theorem Jxl {a : XAir} {s : XSetting} {x : XState} {A : List Bool} {H : List Int} (h : FitsF a s x) (ha : AirOk a) (hA : AiryIs a.mine A)
    (hfix:∀u:Nat,u < a.mine.places.l.length→(a.mine.places.l.getD u default).surface=true→H.getD u 0=0)
    (hnet:∀u:Nat,u < a.mine.places.l.length→A.getD u false=true→(a.mine.places.l.getD u default).surface=false→0≤Jph a s H (u:Int)) {u:Nat} (hu:u < a.mine.places.l.length) (hua:A.getD u false=true):
    x.pres.l.getD u 0≤H.getD u 0:=by
  refine Int.not_lt.1 fun hlt=>?_
  obtain ⟨w,w1,w2,w3⟩:=Jzi (fun v=>A.getD v false=true) (fun v=>x.pres.l.getD v 0 - H.getD v 0) a.mine.places.l.length ⟨u,hu,hua⟩
  have hpos:0 < x.pres.l.getD w 0 - H.getD w 0:=by have:=w3 u hu hua;omega
  obtain ⟨j,h1,h2,h3⟩:=(hA.iff w (by rw [Je6];exact w1)).1 w2
  rw [Je6] at h1
  rw [Jr5 _ _ h1] at h2
  have key:j < a.mine.places.l.length∧A.getD j false=true∧x.pres.l.getD j 0 - H.getD j 0=x.pres.l.getD w 0 - H.getD w 0:=by
    refine Conn.closed (P:=fun v=>v < a.mine.places.l.length∧A.getD v false=true∧x.pres.l.getD v 0 - H.getD v 0=x.pres.l.getD w 0 - H.getD w 0) (fun y z hy hs=>?_) h3.symm ⟨w1,w2,rfl⟩
    obtain ⟨y1,y2,y3⟩:=hy
    have z1:=(hs.lt ha.mine).2
    have z2:=hA.step ha.mine y2 hs
    refine ⟨z1,z2,?_⟩
    have zle:=w3 z z1 z2
    rcases Int.lt_or_le (x.pres.l.getD z 0 - H.getD z 0) (x.pres.l.getD w 0 - H.getD w 0) with hz | hz
    · exfalso
      have hys:(a.mine.places.l.getD y default).surface=false:=by
        cases e:(a.mine.places.l.getD y default).surface with
        | false=>rfl
        | true=>
          have e1:=h.surf y1 e
          have e2:=hfix y y1 e
          omega
      have b1:=h.still ha y1 hys
      have b2:=hnet y y1 y2 hys
      obtain ⟨k,k1,k2⟩:=Jpu hs
      have b3:=(Jzo h ha (H:=H) (u:=y) (fun v i hi hv=>by
        have sv:=Jpx hi hv
        have:=w3 v (sv.lt ha.mine).2 (hA.step ha.mine y2 sv)
        omega) _ (Nat.le_refl _)).2 ⟨k,z,k1,k2,by omega⟩
      rw [Jph] at b2
      omega
    · omega
  have e1:=h.surf h1 h2
  have e2:=hfix j h1 h2
  omega
theorem J1j {a : XAir} {s : XSetting} {x : XState} {A : List Bool} {H : List Int} (h : FitsF a s x) (ha : AirOk a) (hA : AiryIs a.mine A)
    (hfix:∀u:Nat,u < a.mine.places.l.length→(a.mine.places.l.getD u default).surface=true→H.getD u 0=0)
    (hnet:∀u:Nat,u < a.mine.places.l.length→A.getD u false=true→(a.mine.places.l.getD u default).surface=false→Jgp a s H (u:Int)≤0) {u:Nat} (hu:u < a.mine.places.l.length) (hua:A.getD u false=true):
    H.getD u 0≤x.pres.l.getD u 0:=by
  refine Int.not_lt.1 fun hlt=>?_
  obtain ⟨w,w1,w2,w3⟩:=Jzi (fun v=>A.getD v false=true) (fun v=>H.getD v 0 - x.pres.l.getD v 0) a.mine.places.l.length ⟨u,hu,hua⟩
  have hpos:0 < H.getD w 0 - x.pres.l.getD w 0:=by have:=w3 u hu hua;omega
  obtain ⟨j,h1,h2,h3⟩:=(hA.iff w (by rw [Je6];exact w1)).1 w2
  rw [Je6] at h1
  rw [Jr5 _ _ h1] at h2
  have key:j < a.mine.places.l.length∧A.getD j false=true∧H.getD j 0 - x.pres.l.getD j 0=H.getD w 0 - x.pres.l.getD w 0:=by
    refine Conn.closed (P:=fun v=>v < a.mine.places.l.length∧A.getD v false=true∧H.getD v 0 - x.pres.l.getD v 0=H.getD w 0 - x.pres.l.getD w 0) (fun y z hy hs=>?_) h3.symm ⟨w1,w2,rfl⟩
    obtain ⟨y1,y2,y3⟩:=hy
    have z1:=(hs.lt ha.mine).2
    have z2:=hA.step ha.mine y2 hs
    refine ⟨z1,z2,?_⟩
    have zle:=w3 z z1 z2
    rcases Int.lt_or_le (H.getD z 0 - x.pres.l.getD z 0) (H.getD w 0 - x.pres.l.getD w 0) with hz | hz
    · exfalso
      have hys:(a.mine.places.l.getD y default).surface=false:=by
        cases e:(a.mine.places.l.getD y default).surface with
        | false=>rfl
        | true=>
          have e1:=h.surf y1 e
          have e2:=hfix y y1 e
          omega
      have b1:=h.still ha y1 hys
      have b2:=hnet y y1 y2 hys
      obtain ⟨k,k1,k2⟩:=Jpu hs
      have b3:=(Ju7 h ha (H:=H) (u:=y) (fun v i hi hv=>by
        have sv:=Jpx hi hv
        have:=w3 v (sv.lt ha.mine).2 (hA.step ha.mine y2 sv)
        omega) _ (Nat.le_refl _)).2 ⟨k,z,k1,k2,by omega⟩
      rw [Jgp] at b2
      omega
    · omega
  have e1:=h.surf h1 h2
  have e2:=hfix j h1 h2
  omega
theorem Accept.surf {a:XAir} {s:XSetting} {b:XBounds} {A:List Bool} (h:Accept a s b A) {u:Nat} (hu:u < a.mine.places.l.length) (hs:(a.mine.places.l.getD u default).surface=true):b.low.l.getD u 0=0∧b.high.l.getD u 0=0:=
  h.fix u hu (by rw [hs];simp)
theorem Accept.holds {a:XAir} {s:XSetting} {b:XBounds} {A:List Bool} {x:XState} (h:Accept a s b A) (hf:FitsF a s x) (hA:AiryIs a.mine A) {u:Nat} (hu:u < a.mine.places.l.length) (hua:A.getD u false=true):
    b.low.l.getD u 0≤x.pres.l.getD u 0∧x.pres.l.getD u 0≤b.high.l.getD u 0:=
  ⟨J1j hf (Jey h.ck.h0) hA (fun v hv hs=>(h.surf hv hs).1) (fun v hv hva hs=>(h.net v hv (by rw [hva,hs];simp)).2) hu hua,
   Jxl hf (Jey h.ck.h0) hA (fun v hv hs=>(h.surf hv hs).2) (fun v hv hva hs=>(h.net v hv (by rw [hva,hs];simp)).1) hu hua⟩
theorem Accept.flows {a:XAir} {s:XSetting} {b:XBounds} {A:List Bool} {x:XState} (h:Accept a s b A) (hf:FitsF a s x) (hA:AiryIs a.mine A) {k:Nat} (hk:k < a.mine.roads.l.length):
    (Jby a s b A k).low≤x.flows.l.getD k 0∧x.flows.l.getD k 0≤(Jby a s b A k).high:=by
  have ha:=Jey h.ck.h0
  have hro:=ha.mine.road k _ (Jai default hk)
  have h1:=hro.fr
  have h2:=hro.to
  have hr:(0:Int)≤(k:Int)∧(k:Int) < a.mine.roads.l.length:=by omega
  have hfl:=hf.flen
  have hq:=hf.flow _ (List.mem_of_getElem? (Jai (l:=x.flows.l) (k:=k) 0 (by omega)))
  rw [Jby]
  cases hc:(a.mine.roads.l.getD k default).closed with
  | true=>
    rw [if_pos rfl,hf.shut hk hc]
    exact ⟨Int.le_refl _,Int.le_refl _⟩
  | false=>
    rw [if_neg (by decide)]
    split
    · rename_i hv
      have hs:Step a.mine (a.mine.roads.l.getD k default).fr.toNat (a.mine.roads.l.getD k default).to.toNat:=⟨_,List.mem_of_getElem? (Jai default hk),hc,.inl ⟨by omega,by omega⟩⟩
      have b1:=h.holds hf hA (by omega) hv
      have b2:=h.holds hf hA (by omega) (hA.step ha.mine hv hs)
      have hi:=hf.inside ha hk hc (d:=Jca a x.pres.l k) rfl
      have e:Jca a x.pres.l k=x.pres.l.getD (a.mine.roads.l.getD k default).fr.toNat 0 - x.pres.l.getD (a.mine.roads.l.getD k default).to.toNat 0:=rfl
      have m1:=Jf4 (s:=s) ha hr (show b.low.l.getD (a.mine.roads.l.getD k default).fr.toNat 0 - b.high.l.getD (a.mine.roads.l.getD k default).to.toNat 0≤Jca a x.pres.l k by omega)
      have m2:=Jfn (s:=s) ha hr (show Jca a x.pres.l k≤b.high.l.getD (a.mine.roads.l.getD k default).fr.toNat 0 - b.low.l.getD (a.mine.roads.l.getD k default).to.toNat 0 by omega)
      exact ⟨Int.le_trans m1 hi.1,Int.le_trans hi.2 m2⟩
    · rw [nothingS]
      dsimp only
      omega
end Go.Proofs.Ytihompplndcdeaa
end
section
/-
  Raising and lowering, in plain numbers: P12.1 and P12.2. By an AI agent; no person has read it.
-/
namespace Go.Proofs.Ytihompplndcdeaa
open Go.Aw Go
theorem Tri.turn {P : Program} {f : FuncId} {args : Array Value} {L : List Blk} {R : List Sl} {Post Post' : Jed} (h : Tri P f args L R Post)
    (k:∀v L' R',Post v L' R'→∃L'' R'',L'.Perm L''∧(∀r∈R'',InR r R')∧Post' v L'' R''):Tri P f args L R Post':=
  ⟨h.1,fun w G hh=>(h.2 w G hh).mono fun e w' ⟨v,L',R',he,hp,hst⟩=>by
    obtain ⟨L'',R'',h1,h2,h3⟩:=k v L' R' hp
    exact ⟨v,L'',R'',he,h3,(hst.perm h1).weak (List.Sublist.refl _) h2⟩⟩
def Jos (g:Int→Bool) (start:Int) (up:Bool):Option Int:=
  ((List.range ((Jkh up start).toNat + 1)).find? fun (m:Nat)=>g (start + sgn up * (m:Int))).map fun (m:Nat)=>start + sgn up * (m:Int)
theorem Jw9 {g:Int→Bool} {start:Int} {up:Bool} {v:Int} (h:First g start up v true):Jos g start up=some v:=by
  obtain ⟨m,m0,m1,mv,mg,mj⟩:=h.yes rfl
  have e:(List.range ((Jkh up start).toNat + 1)).find? (fun (m:Nat)=>g (start + sgn up * (m:Int)))=some m.toNat:=by
    rw [List.find?_range_eq_some]
    refine ⟨?_,List.mem_range.2 (by omega),fun j hj=>?_⟩
    · rw [Int.toNat_of_nonneg m0,← mv];exact mg
    · rw [mj j (by omega) (by omega)];rfl
  rw [Jos,e,Option.map_some,Int.toNat_of_nonneg m0,mv]
theorem Jwm {g:Int→Bool} {start:Int} {up:Bool} {v:Int} (h0:0≤Jkh up start) (h:First g start up v false):Jos g start up=none:=by
  obtain ⟨_,hj⟩:=h.no rfl
  have e:(List.range ((Jkh up start).toNat + 1)).find? (fun (m:Nat)=>g (start + sgn up * (m:Int)))=none:=by
    rw [List.find?_range_eq_none]
    intro i hi
    rw [hj i (by omega) (by omega)];rfl
  rw [Jos,e];rfl
theorem Jjv {g:Int→Bool} {start:Int} {up:Bool} {v:Int} (h0:0≤Jkh up start) (h:Jos g start up=some v):First g start up v true:=by
  unfold Jos at h
  obtain ⟨m,hm,rfl⟩:=Option.map_eq_some_iff.1 h
  rw [List.find?_range_eq_some] at hm
  obtain ⟨h1,h2,h3⟩:=hm
  have h2':=List.mem_range.1 h2
  refine ⟨fun _=>⟨m,by omega,by omega,rfl,h1,fun j j0 j1=>?_⟩,fun h=>by cases h⟩
  have:=h3 j.toNat (by omega)
  rw [Int.toNat_of_nonneg j0] at this
  cases e:g (start + sgn up * j) with
  | false=>rfl
  | true=>rw [e] at this;cases this
theorem Jpe {g:Int→Bool} {start:Int} {up:Bool} {v:Int} {ok:Bool} (h0:0≤Jkh up start) (h:First g start up v ok):v=(Jos g start up).getD 0∧ok=(Jos g start up).isSome:=by
  cases ok with
  | true=>rw [Jw9 h];exact ⟨rfl,rfl⟩
  | false=>rw [Jwm h0 h];exact ⟨(h.no rfl).1,rfl⟩
attribute [irreducible] Jos
def Jqk (a:XAir) (s:XSetting) (up:Bool) (l:List Int) (v:Int):Int→Bool:=if up=true then J2f a s l v else Jue a s l v
def Jft (a:XAir) (s:XSetting) (up:Bool) (l:List Int) (k:Nat):Option Int:=Jos (Jqk a s up l k) (l.getD k 0) up
abbrev Jmn (a:XAir) (A:List Bool) (k:Nat):Bool:=!(A.getD k false) || (a.mine.places.l.getD k default).surface
def Jb4 (a : XAir) (s : XSetting) (A : List Bool) (up : Bool) (l : List Int) : Nat → Option (List Int)
  | 0=>some l
  | k + 1=>(Jb4 a s A up l k).bind fun m=>if Jmn a A k=true then some m else (Jft a s up m k).map fun v=>m.set k v
def Jcm (a : XAir) (s : XSetting) (A : List Bool) (up : Bool) : Nat → List Int → Option (List Int)
  | 0,_=>none
  | n + 1,l=>match Jb4 a s A up l a.mine.places.l.length with
    | none=>none
    | some m=>if m=l then some m else Jcm a s A up n m
def Jdq (a:XAir) (ps:List Int) (A:List Bool) (i:Nat):Option Int:=if Jmn a A i=true∧ps.getD i 0≠0 then some 12 else none
def Jcw (a:XAir) (s:XSetting) (ps:List Int) (A:List Bool):Int:=
  if Jat a≠0 then Jat a else if Jdl a s=false then 21 else if ps.length≠a.mine.places.l.length then 11
  else if (ps.findSome? Jb5).isSome=true then 1 else ((List.range a.mine.places.l.length).findSome? (Jdq a ps A)).getD 0
def Jbw (a:XAir) (s:XSetting) (A:List Bool) (up:Bool) (ps:List Int):Int×List Int:=
  if Jcw a s ps A≠0 then (Jcw a s ps A,[]) else match Jcm a s A up 200 ps with
    | none=>(2,[])
    | some l=>(0,l)
def Jdm (a:XAir) (s:XSetting) (A:List Bool):Int×List Int×List Int:=
  let p:=Jbw a s A false (List.replicate a.mine.places.l.length 0)
  if p.1≠0 then (p.1,[],[]) else
    let q:=Jbw a s A true p.2
    if q.1≠0 then (q.1,[],[]) else
      let r:=Jbw a s A false q.2
      if r.1≠0 then (r.1,[],[]) else (0,r.2,q.2)
structure StartOk (a:XAir) (s:XSetting) (ps:List Int) (A:List Bool):Prop where
  h0:Jat a=0
  hf:Jdl a s=true
  hl:ps.length=a.mine.places.l.length
  hp:PresOk ps
  fix:∀i:Nat,i < a.mine.places.l.length→Jmn a A i=true→ps.getD i 0=0
theorem Jf6 {a:XAir} {s:XSetting} {ps:List Int} {A:List Bool}:Jcw a s ps A=0↔StartOk a s ps A:=by
  constructor
  · intro h
    unfold Jcw at h
    split at h
    · rename_i h1;exact absurd h h1
    rename_i h1
    split at h
    · cases h
    rename_i h2
    split at h
    · cases h
    rename_i h3
    split at h
    · cases h
    rename_i h4
    refine ⟨by omega,by simpa using h2,by omega,Jik (by simpa using h4),fun i hi hf=>?_⟩
    have hn:(List.range a.mine.places.l.length).findSome? (Jdq a ps A)=none:=by
      cases e:(List.range a.mine.places.l.length).findSome? (Jdq a ps A) with
      | none=>rfl
      | some v=>
        obtain ⟨j,_,hj⟩:=List.exists_of_findSome?_eq_some e
        unfold Jdq at hj
        split at hj
        · cases hj;rw [e] at h;cases h
        · cases hj
    rw [List.findSome?_eq_none_iff] at hn
    have:=hn i (List.mem_range.2 hi)
    unfold Jdq at this
    split at this
    · cases this
    · rename_i h5
      exact Decidable.not_not.1 fun h6=>h5 ⟨hf,h6⟩
  · intro h
    rw [Jcw,if_neg (by rw [h.h0];decide),if_neg (by rw [h.hf];decide),if_neg (by rw [h.hl];simp),if_neg (by rw [Jjt h.hp];simp),List.findSome?_eq_none_iff.2 (fun i hi=>show Jdq a ps A i=none from if_neg (fun h'=>h'.2 (h.fix i (List.mem_range.1 hi) h'.1)))]
    rfl
theorem Jte {a:XAir} {s:XSetting} {up:Bool} {l:List Int} {k:Nat} {v:Int} (h:PresOk l) (hv:Jft a s up l k=some v):-70368744177664≤v∧v≤70368744177664:=by
  obtain ⟨m,m0,m1,mv,_,_⟩:=(Jjv (Jnz (h.get k)).1 hv).yes rfl
  rw [mv]
  exact Jvb (h.get k) ⟨m0,m1⟩
structure Swept (a:XAir) (s:XSetting) (A:List Bool) (up:Bool) (l:List Int) (k:Nat) (m:List Int):Prop where
  to:Jb4 a s A up l k=some m
  len:m.length=l.length
  pres:PresOk m
  rest:∀j:Nat,k≤j→m[j]?=l[j]?
theorem Swept.zero {a:XAir} {s:XSetting} {A:List Bool} {up:Bool} {l:List Int} (h:PresOk l):Swept a s A up l 0 l:=⟨rfl,rfl,h,fun _ _=>rfl⟩
theorem Swept.skip {a:XAir} {s:XSetting} {A:List Bool} {up:Bool} {l m:List Int} {k:Nat} (h:Swept a s A up l k m) (hf:Jmn a A k=true):Swept a s A up l (k + 1) m:=
  ⟨by rw [Jb4,h.to,Option.bind_some,if_pos hf],h.len,h.pres,fun j hj=>h.rest j (by omega)⟩
theorem Swept.fail {a:XAir} {s:XSetting} {A:List Bool} {up:Bool} {l m:List Int} {k:Nat} (h:Swept a s A up l k m) (hf:¬ Jmn a A k=true) (hn:Jft a s up m k=none):∀n,k + 1≤n→Jb4 a s A up l n=none:=by
  intro n hn2
  induction n with
  | zero=>omega
  | succ n ih=>
    rcases Nat.lt_or_ge k n with h1 | h1
    · rw [Jb4,ih (by omega)];rfl
    · obtain rfl : n = k := by omega
      rw [Jb4,h.to,Option.bind_some,if_neg hf,hn];rfl
theorem Swept.next {a:XAir} {s:XSetting} {A:List Bool} {up:Bool} {l m:List Int} {k:Nat} (h:Swept a s A up l k m) (hf:¬ Jmn a A k=true) {v:Int} (hv:Jft a s up m k=some v):Swept a s A up l (k + 1) (m.set k v):=
  ⟨by rw [Jb4,h.to,Option.bind_some,if_neg hf,hv];rfl,by rw [List.length_set];exact h.len,h.pres.set _ (Jte h.pres hv),fun j hj=>by rw [List.getElem?_set_ne (by omega)];exact h.rest j (by omega)⟩
theorem Swept.flag {a:XAir} {s:XSetting} {A:List Bool} {up:Bool} {l m:List Int} {k:Nat} (h:Swept a s A up l k m) (hk:k < l.length) (v:Int):decide (m.set k v≠l)=(decide (m≠l) || decide (v≠m.getD k 0)):=by
  have hlen:=h.len
  have hg:=Jai (l:=m) (k:=k) 0 (by omega)
  by_cases h1:v=m.getD k 0
  · rw [h1,Jir];simp
  · have h2:m.set k v≠l:=fun e=>by
      have h3:=h.rest k (Nat.le_refl _)
      rw [← e,List.getElem?_set_self (by omega),hg] at h3
      exact h1 (Option.some.inj h3).symm
    rw [decide_eq_true h2,decide_eq_true h1,Bool.or_true]
theorem Jtn {a:XAir} {s:XSetting} {A:List Bool} {up:Bool} {n:Nat} {l m:List Int} (hs:Jb4 a s A up l a.mine.places.l.length=some m) (hne:m≠l):Jcm a s A up (n + 1) l=Jcm a s A up n m:=by
  rw [Jcm,hs];exact if_neg hne
theorem Jnh {a:XAir} {s:XSetting} {A:List Bool} {up:Bool} {n:Nat} {l:List Int} (hs:Jb4 a s A up l a.mine.places.l.length=some l):Jcm a s A up (n + 1) l=some l:=by
  rw [Jcm,hs];exact if_pos rfl
theorem Juu {a:XAir} {s:XSetting} {A:List Bool} {up:Bool} {n:Nat} {l:List Int} (hs:Jb4 a s A up l a.mine.places.l.length=none):Jcm a s A up (n + 1) l=none:=by
  rw [Jcm,hs]
theorem Jeo {a : XAir} {s : XSetting} {A : List Bool} {up : Bool} {l : List Int} (hl : PresOk l) : ∀ {k : Nat} {m : List Int}, Jb4 a s A up l k = some m → Swept a s A up l k m
  | 0,m,h=>by cases h;exact .zero hl
  | k + 1,m,h=>by
    have h':=h
    rw [Jb4,Option.bind_eq_some_iff] at h'
    obtain ⟨m1,h1,h2⟩:=h'
    have ih:=Jeo hl h1
    split at h2
    · rename_i hf
      cases h2
      exact ih.skip hf
    · rename_i hf
      obtain ⟨v,hv,rfl⟩:=Option.map_eq_some_iff.1 h2
      exact ih.next hf hv
theorem Jij {a : XAir} {s : XSetting} {A : List Bool} {up : Bool} : ∀ {n : Nat} {l m : List Int}, PresOk l → Jcm a s A up n l = some m → m.length = l.length ∧ PresOk m ∧ Jb4 a s A up m a.mine.places.l.length = some m
  | 0,l,m,_,h=>by cases h
  | n + 1,l,m,hl,h=>by
    rw [Jcm] at h
    split at h
    · cases h
    · rename_i m1 h1
      have hs:=Jeo hl h1
      split at h
      · rename_i e
        cases h
        subst e
        exact ⟨rfl,hl,h1⟩
      · obtain ⟨k1, k2, k3⟩ := Jij hs.pres h
        exact ⟨k1.trans hs.len,k2,k3⟩
theorem Jog {a:XAir} {s:XSetting} {A:List Bool} {up:Bool} {ps:List Int} (h:(Jbw a s A up ps).1=0):StartOk a s ps A∧Jcm a s A up 200 ps=some (Jbw a s A up ps).2:=by
  unfold Jbw at h ⊢
  split at h
  · rename_i h1;exact absurd h h1
  · rename_i h1
    rw [if_neg h1]
    refine ⟨Jf6.1 (by omega),?_⟩
    split at h
    · cases h
    · rename_i l e;rw [e]
end Go.Proofs.Ytihompplndcdeaa
end
section
/-
  The reference's raising and lowering. By an AI agent; no person has read it.
-/
namespace Go.Proofs.Ytihompplndcdeaa
open Go.Aw Go
set_option maxRecDepth 20000
attribute [local irreducible] CJ LJ DJ Tri YV Gives Jdn Jaw Jbk Jdo RV Jay OwL.L
abbrev J2b (x:Option Int):Value:=.tuple #[.int .i64 (x.getD 0),.bool x.isSome]
theorem Jyi {ps:List Int} (h:PresOk ps) (up:Bool) (k:Nat):0≤Jkh up (ps.getD k 0):=(Jnz (h.get k)).1
end Go.Proofs.Ytihompplndcdeaa
end
section
/-
  The reference's bounds. By an AI agent; no person has read it.
-/
namespace Go.Proofs.Ytihompplndcdeaa
open Go.Aw Go
set_option maxRecDepth 20000
attribute [local irreducible] CJ LJ DJ Tri YV Gives Jdn Jaw Jbk Jdo RV Jay OwL.L
theorem J1r {α:Type} {f:α→List Value} {z:List Value} {b n:Nat} {T:TypeId} {x:α} {A:List Blk} (hz:z=f x):InB ((⟨.own b n [],List.replicate n x⟩:OwL α).L T f) (⟨b,Joo z n,T⟩ :: A):=by
  rw [Jgh hz A];exact Jcj
end Go.Proofs.Ytihompplndcdeaa
end
