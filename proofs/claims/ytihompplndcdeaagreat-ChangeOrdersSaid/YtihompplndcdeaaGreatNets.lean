/-
  Nets: NetS, NetW, Find, LeastW, RefUp, Bal, NetP, in one text. By an AI agent; no person has read it.
-/
import Derived.Test.YtihompplndcdeaaGreatFits
import Derived.Test.YtihompplndcdeaaGreatDraws
section
variable {A9 B9:Prop}
theorem Jjn (a:A9) (h:A9→B9:=by exact Jbu (Jar (show _=Value.slice _ _ _ from rfl)) rfl rfl rfl):B9:=h a
theorem Jyb (a:A9) (h:A9→B9:=by exact Jbb tb [0,1,2,3,4,5,6,7,8,9,10,11,12,13,14,15,16,17] _ Jbn (by kernel_rfl) (List.Sublist.refl _)):B9:=h a
theorem Jx0 (a:A9) (h:A9→B9:=by exact Jbu (by first | exact Jag tb rfl rfl rfl rfl (by first | assumption | exact zr (by simp)) (i:=(a.mine.roads.l.getD k default).fr.toNat) (by first | rfl | omega | (simp;omega)) (by omega) | exact Jal tb rfl rfl rfl rfl (i:=(a.mine.roads.l.getD k default).fr.toNat) (by first | rfl | omega | (simp;omega)) (by omega)) rfl rfl rfl):B9:=h a
theorem Jx4 (a:A9) (h:A9→B9:=by exact Jbu (by first | exact Jag tb rfl rfl rfl rfl (by first | assumption | exact zr (by simp)) (i:=(a.mine.roads.l.getD k default).to.toNat) (by first | rfl | omega | (simp;omega)) (by omega) | exact Jal tb rfl rfl rfl rfl (i:=(a.mine.roads.l.getD k default).to.toNat) (by first | rfl | omega | (simp;omega)) (by omega)) rfl rfl rfl):B9:=h a
theorem J21 (a:A9) (h:A9→B9:=by exact Ja2 (by first | exact Jco rfl rfl | exact Jb9 rfl rfl | exact Je9 rfl) rfl):B9:=h a
theorem J1g (a:A9) (h:A9→B9:=by exact Jfo (Jcx (f:=Jad) (xs:=ps) tb rfl rfl rfl (by decide) rfl rfl (hps) (fun _=>rfl) (by omega)) rfl):B9:=h a
theorem J1k (a:A9) (h:A9→B9:=by exact Ja2 (Jak tb ((⟨o15,ps.l.set u.toNat start⟩:OwL Int)) _ rfl rfl ((show _=Value.slice _ _ _ from rfl).trans J1c) rfl (by assumption) (i:=u.toNat) (by first | rfl | omega | (simp;omega)) (by first | omega | (dsimp only;omega) | (dsimp only;rw [List.length_set];omega) | (dsimp only;simp only [List.length_set];omega))) rfl):B9:=h a
theorem J15 (a:A9) (h:A9→B9:=by exact Ja2 (Jaz tb ((⟨o15,ps.l.set u.toNat start⟩:OwL Int)) rfl rfl rfl (by repeat (first | apply OSeg.cons | exact OSeg.here | exact OSeg.last | exact OSeg.at (by assumption) | apply OSeg.app)) (by assumption) (fun _=>rfl) (by assumption) (by rfl)) rfl):B9:=h a
theorem J1x (a:A9) (h:A9→B9:=by exact Ja2 (Jak tb ((⟨o15,ps.l.set u.toNat y⟩:OwL Int)) _ rfl rfl ((show _=Value.slice _ _ _ from rfl).trans J1c) rfl (by assumption) (i:=u.toNat) (by first | rfl | omega | (simp;omega)) (by first | omega | (dsimp only;omega) | (dsimp only;rw [List.length_set];omega) | (dsimp only;simp only [List.length_set];omega))) rfl):B9:=h a
theorem J10 (a:A9) (h:A9→B9:=by exact Ja2 (Jak tb ((⟨o15,ps.l.set u.toNat w⟩:OwL Int)) _ rfl rfl ((show _=Value.slice _ _ _ from rfl).trans J1c) rfl (by assumption) (i:=u.toNat) (by first | rfl | omega | (simp;omega)) (by first | omega | (dsimp only;omega) | (dsimp only;rw [List.length_set];omega) | (dsimp only;simp only [List.length_set];omega))) rfl):B9:=h a
theorem J22 (a:A9) (h:A9→B9:=by exact Ja2 (Jaz tb ((⟨o15,ps.l.set u.toNat w⟩:OwL Int)) rfl rfl rfl (by repeat (first | apply OSeg.cons | exact OSeg.here | exact OSeg.last | exact OSeg.at (by assumption) | apply OSeg.app)) (by assumption) (fun _=>rfl) (by assumption) (by rfl)) rfl):B9:=h a
theorem J2s (a:A9) (h:A9→B9:=by exact Ja2 (Jak tb ((⟨o15,ps.l.set u.toNat mid⟩:OwL Int)) _ rfl rfl ((show _=Value.slice _ _ _ from rfl).trans J1c) rfl (by assumption) (i:=u.toNat) (by first | rfl | omega | (simp;omega)) (by first | omega | (dsimp only;omega) | (dsimp only;rw [List.length_set];omega) | (dsimp only;simp only [List.length_set];omega))) rfl):B9:=h a
theorem J13 (a:A9) (h:A9→B9:=by exact Ja2 (Jaz tb ((⟨o15,ps.l.set u.toNat mid⟩:OwL Int)) rfl rfl rfl (by repeat (first | apply OSeg.cons | exact OSeg.here | exact OSeg.last | exact OSeg.at (by assumption) | apply OSeg.app)) (by assumption) (fun _=>rfl) (by assumption) (by rfl)) rfl):B9:=h a
theorem J5o (a:A9) (h:A9→B9:=by exact Ja2 (by first | exact Jag tb rfl rfl rfl rfl (by first | assumption | exact zr (by simp)) (i:=v.toNat) (by first | rfl | omega | (simp;omega)) (by omega) | exact Jal tb rfl rfl rfl rfl (i:=v.toNat) (by first | rfl | omega | (simp;omega)) (by omega)) rfl):B9:=h a
theorem J74 (a:A9) (h:A9→B9:=by exact Ja2 (by first | exact Jag tb rfl rfl rfl rfl (by first | assumption | exact zr (by simp)) (i:=e.toNat) (by first | rfl | omega | (simp;omega)) (by omega) | exact Jal tb rfl rfl rfl rfl (i:=e.toNat) (by first | rfl | omega | (simp;omega)) (by omega)) rfl):B9:=h a
theorem J7y (a:A9) (h:A9→B9:=by exact Jbu (by first | exact Jag tb rfl rfl rfl rfl (by first | assumption | exact zr (by simp)) (i:=p.road.fr.toNat) (by first | rfl | omega | (simp;omega)) (by omega) | exact Jal tb rfl rfl rfl rfl (i:=p.road.fr.toNat) (by first | rfl | omega | (simp;omega)) (by omega)) rfl rfl rfl):B9:=h a
theorem J78 (a:A9) (h:A9→B9:=by exact Jbu (by first | exact Jag tb rfl rfl rfl rfl (by first | assumption | exact zr (by simp)) (i:=p.road.to.toNat) (by first | rfl | omega | (simp;omega)) (by omega) | exact Jal tb rfl rfl rfl rfl (i:=p.road.to.toNat) (by first | rfl | omega | (simp;omega)) (by omega)) rfl rfl rfl):B9:=h a
theorem J8d (a:A9) (h:A9→B9:=by exact Ja2 (by first | exact Jag tb rfl rfl rfl rfl (by first | assumption | exact zr (by simp)) (i:=k) (by first | rfl | omega | (simp;omega)) (by omega) | exact Jal tb rfl rfl rfl rfl (i:=k) (by first | rfl | omega | (simp;omega)) (by omega)) rfl):B9:=h a
theorem J60 (a:A9) (h:A9→B9:=by exact Jct (by first | exact Jr4 rfl rfl (by omega) (by omega) | exact Jum rfl rfl (by omega) (by omega) | exact Jtq rfl rfl) rfl rfl):B9:=h a
theorem J8t (a:A9) (h:A9→B9:=by exact Jct (by first | exact Jk3 rfl rfl (by omega) (by omega) | exact Jpc rfl rfl (by omega) (by omega) | exact Jop rfl rfl) rfl rfl):B9:=h a
theorem J63 (a:A9) (h:A9→B9:=by exact Ja2 (Jak tb ((⟨o,ps.set u.toNat y⟩:OwL Int)) _ rfl rfl ((show _=Value.slice _ _ _ from rfl).trans J1c) rfl (by assumption) (i:=u.toNat) (by first | rfl | omega | (simp;omega)) (by first | omega | (dsimp only;omega) | (dsimp only;rw [List.length_set];omega) | (dsimp only;simp only [List.length_set];omega))) rfl):B9:=h a
theorem J7o (a:A9) (h:A9→B9:=by exact Jfa (Jas tb ((⟨o,ps.set u.toNat y⟩:OwL Int)) (x) rfl rfl rfl rfl (by repeat (first | apply OSeg.cons | exact OSeg.here | exact OSeg.last | exact OSeg.at (by assumption) | apply OSeg.app)) (by assumption) (fun _=>rfl) (by assumption) (by decide) (by rfl) (by rfl))):B9:=h a
theorem J5t (a:A9) (h:A9→B9:=by exact Ja2 (by first | exact Jag tb rfl rfl rfl rfl (by first | assumption | exact zr (by simp)) (i:=u.toNat) (by first | rfl | omega | (simp;omega)) (by omega) | exact Jal tb rfl rfl rfl rfl (i:=u.toNat) (by first | rfl | omega | (simp;omega)) (by omega)) rfl):B9:=h a
theorem J6n (a:A9) (h:A9→B9:=by exact Jg5 (show _=(⟨o15,ps.l.set u.toNat start⟩:OwL Int).L 3 Jad ++ (⟨b5,s.cells,25⟩ :: ⟨b4,a.cells,35⟩ :: L) from by rw [hself];rfl)):B9:=h a
theorem J84 (h:B9:=by exact ⟨start,true,rfl,⟨fun _=>⟨0,by omega,by rw [hrm];omega,by simp,by rw [decide_eq_true_eq];exact hc0,fun j h1 h2=>by omega⟩,fun h=>by cases h⟩,rfl,rfl⟩):B9:=h
theorem J8g (a:A9) (h:A9→B9:=by exact Ja2 (Jaz tb ((⟨o15,ps.l.set u.toNat y⟩:OwL Int)) rfl rfl rfl (by repeat (first | apply OSeg.cons | exact OSeg.here | exact OSeg.last | exact OSeg.at (by assumption) | apply OSeg.app)) (by assumption) (fun _=>rfl) (by assumption) (by rfl)) rfl):B9:=h a
theorem J6x (a:A9) (h:A9→B9:=by exact Ja2 (Jak tb ((⟨o15,ps.l.set u.toNat z⟩:OwL Int)) _ rfl rfl ((show _=Value.slice _ _ _ from rfl).trans J1c) rfl (by assumption) (i:=u.toNat) (by first | rfl | omega | (simp;omega)) (by first | omega | (dsimp only;omega) | (dsimp only;rw [List.length_set];omega) | (dsimp only;simp only [List.length_set];omega))) rfl):B9:=h a
theorem J80 (a:A9) (h:A9→B9:=by exact Jfa (Jas tb ((⟨o15,ps.l.set u.toNat z⟩:OwL Int)) ((lo + (hi - lo).tdiv 2)) rfl rfl rfl rfl (by repeat (first | apply OSeg.cons | exact OSeg.here | exact OSeg.last | exact OSeg.at (by assumption) | apply OSeg.app)) (by assumption) (fun _=>rfl) (by assumption) (by decide) (by rfl) (by rfl))):B9:=h a
end
section
namespace Go.Proofs.YtihompplndcdeaaGreat
open Go.Aw Go
def Je1 (a:XAir) (ps:List Int) (k:Nat):Int:=ps.getD (a.mine.roads.l.getD k default).fr.toNat 0 - ps.getD (a.mine.roads.l.getD k default).to.toNat 0
def Jg6 (F G:(Int→XSpan)→Int→Int) (a:XAir) (s:XSetting) (ps:List Int) (v:Int) (k:Nat):Int:=
  if (a.mine.roads.l.getD k default).closed=true then 0
  else if (a.mine.roads.l.getD k default).fr=v then F (Jbr a s k) (Je1 a ps k)
  else if (a.mine.roads.l.getD k default).to=v then -(G (Jbr a s k) (Je1 a ps k)) else 0
def Joa (F G : (Int → XSpan) → Int → Int) (a : XAir) (s : XSetting) (ps : List Int) (v : Int) : Nat → Int
  | 0=>0
  | k + 1=>Joa F G a s ps v k + Jg6 F G a s ps v k
def Jps (a:XAir) (s:XSetting) (ps:List Int) (v:Int):Int:=Joa Jb3 Jbs a s ps v a.mine.roads.l.length
def Jg3 (a:XAir) (s:XSetting) (ps:List Int) (v:Int):Int:=Joa Jbs Jb3 a s ps v a.mine.roads.l.length
structure Ends (F:(Int→XSpan)→Int→Int) (a:XAir) (s:XSetting):Prop where
  bnd:∀k:Nat,k < a.mine.roads.l.length→∀p,-1048577≤F (Jbr a s k) p∧F (Jbr a s k) p≤1048577
theorem Jgr {a:XAir} {s:XSetting} (ha:AirOk a):Ends Jb3 a s:=⟨fun k hk p=>by have:=(Jjj (s:=s) ha (r:=(k:Int)) (by omega) p).bnd;omega⟩
theorem Jfy {a:XAir} {s:XSetting} (ha:AirOk a):Ends Jbs a s:=⟨fun k hk p=>by have:=(Jho (s:=s) ha (r:=(k:Int)) (by omega) p).bnd;omega⟩
section
variable {F G:(Int→XSpan)→Int→Int} {a:XAir} {s:XSetting} {ps:List Int} {v:Int}
theorem Jmi (hF:Ends F a s) (hG:Ends G a s) {k:Nat} (hk:k < a.mine.roads.l.length):-1048577≤Jg6 F G a s ps v k∧Jg6 F G a s ps v k≤1048577:=by
  have h1:=hF.bnd k hk (Je1 a ps k)
  have h2:=hG.bnd k hk (Je1 a ps k)
  unfold Jg6
  split
  · omega
  · split
    · exact h1
    · split <;> omega
theorem Jkm (hF : Ends F a s) (hG : Ends G a s) : ∀ k : Nat, k ≤ a.mine.roads.l.length → -(1048577 * (k : Int)) ≤ Joa F G a s ps v k ∧ Joa F G a s ps v k ≤ 1048577 * (k : Int)
  | 0,_=>by simp [Joa]
  | k + 1,hk=>by
    have ih:=Jkm hF hG k (by omega)
    have h:=Jmi (ps:=ps) (v:=v) hF hG (k:=k) (by omega)
    rw [Joa]
    omega
def Jqe (F G : (Int → XSpan) → Int → Int) (a : XAir) (s : XSetting) (ps : List Int) (v : Int) (n : Nat) : List Int → Int
  | []=>0
  | e :: l=>Jqe F G a s ps v n l + Jg6 F G a s ps v ((Jc0 a n).getD e.toNat 0)
theorem Joy (n:Nat) (l m:List Int):Jqe F G a s ps v n (l ++ m)=Jqe F G a s ps v n l + Jqe F G a s ps v n m:=by
  induction l with
  | nil=>simp [Jqe]
  | cons e l ih=>rw [List.cons_append,Jqe,Jqe,ih];omega
theorem Jic (a : XAir) {k : Nat} : ∀ {n : Nat}, k ≤ n → ∃ m, Jc0 a n = Jc0 a k ++ m
  | 0,h=>⟨[],by rw [show k=0 by omega];rfl⟩
  | n + 1,h=>by
    rcases Nat.lt_or_ge n k with h' | h'
    · exact ⟨[],by rw [show k=n + 1 by omega];simp⟩
    · obtain ⟨m, hm⟩ := Jic a (k := k) (n := n) h'
      rw [Jc0]
      split
      · exact ⟨m,hm⟩
      · exact ⟨m ++ [n],by rw [hm,List.append_assoc]⟩
theorem Jsv (a:XAir) {k n:Nat} (hk:k < n) (hc:¬ (a.mine.roads.l.getD k default).closed=true):(Jc0 a n).getD (Jc0 a k).length 0=k:=by
  obtain ⟨m,hm⟩:=Jic a (show k + 1≤n from hk)
  rw [hm,Jc0,if_neg hc,List.append_assoc,List.getD_eq_getElem?_getD,List.getElem?_append_right (Nat.le_refl _)]
  simp
theorem Jvq (n : Nat) {v : Nat} : ∀ k, k ≤ n → Jqe F G a s ps v n (Jvn a v k) = Joa F G a s ps v k
  | 0,_=>rfl
  | k + 1,hk=>by
    have ih:=Jvq n (v:=v) k (by omega)
    rw [Jvn,Joa]
    split
    · rename_i hc
      rw [ih,Jg6,if_pos hc];omega
    · rename_i hc
      split
      · rename_i hv
        rw [Joy,ih,Jqe,Jqe,Int.toNat_natCast,Jsv a (by omega) hc]
        omega
      · rename_i hv
        rw [ih,Jg6,if_neg hc,if_neg (fun h=>hv (.inl h)),if_neg (fun h=>hv (.inr h))];omega
theorem Jm7 (a : XAir) {v : Nat} : ∀ k, ∀ e ∈ Jvn a v k, ∃ i : Nat, i < k ∧ e = ((Jc0 a i).length : Int) ∧ ¬ (a.mine.roads.l.getD i default).closed = true ∧ ((a.mine.roads.l.getD i default).fr = (v : Int) ∨ (a.mine.roads.l.getD i default).to = (v : Int))
  | 0,e,h=>by cases h
  | k + 1,e,h=>by
    rw [Jvn] at h
    split at h
    · obtain ⟨i,h1,h2⟩:=Jm7 a k e h;exact ⟨i,by omega,h2⟩
    · rename_i hc
      split at h
      · rename_i hv
        rcases List.mem_append.1 h with h | h
        · obtain ⟨i,h1,h2⟩:=Jm7 a k e h;exact ⟨i,by omega,h2⟩
        · rw [List.mem_singleton.1 h];exact ⟨k,by omega,rfl,hc,hv⟩
      · obtain ⟨i,h1,h2⟩:=Jm7 a k e h;exact ⟨i,by omega,h2⟩
end
structure MonoE (F:(Int→XSpan)→Int→Int) (a:XAir) (s:XSetting):Prop where
  mono:∀k:Nat,k < a.mine.roads.l.length→∀p q:Int,p≤q→F (Jbr a s k) p≤F (Jbr a s k) q
theorem Jwp {a:XAir} {s:XSetting} (ha:AirOk a):MonoE Jb3 a s:=⟨fun k hk p q h=>Jty (s:=s) ha (r:=(k:Int)) (by omega) h⟩
theorem Jtj {a:XAir} {s:XSetting} (ha:AirOk a):MonoE Jbs a s:=⟨fun k hk p q h=>Jro (s:=s) ha (r:=(k:Int)) (by omega) h⟩
structure Above (ps qs:List Int) (v:Int):Prop where
  own:ps.getD v.toNat 0≤qs.getD v.toNat 0
  rest:∀k:Nat,k≠v.toNat→qs.getD k 0≤ps.getD k 0
theorem Jo6 {F G : (Int → XSpan) → Int → Int} {a : XAir} {s : XSetting} {ps qs : List Int} {v : Int} (ha : AirOk a) (hF : MonoE F a s) (hG : MonoE G a s) (h : Above ps qs v) : ∀ k : Nat, k ≤ a.mine.roads.l.length → Joa F G a s ps v k ≤ Joa F G a s qs v k
  | 0,_=>Int.le_refl _
  | k + 1,hk=>by
    have ih:=Jo6 ha hF hG h k (by omega)
    have hro:=ha.mine.road k _ (Jan default (by omega))
    have h1:=hro.fr
    have h2:=hro.to
    have h3:=hro.ne
    have ho:=h.own
    rw [Joa,Joa,Jg6,Jg6]
    split
    · omega
    · split
      · rename_i hf
        have hr:=h.rest (a.mine.roads.l.getD k default).to.toNat (by omega)
        have:=hF.mono k (by omega) (Je1 a ps k) (Je1 a qs k) (by rw [Je1,Je1,hf];omega)
        omega
      · split
        · rename_i hf ht
          have hr:=h.rest (a.mine.roads.l.getD k default).fr.toNat (by omega)
          have:=hG.mono k (by omega) (Je1 a qs k) (Je1 a ps k) (by rw [Je1,Je1,ht];omega)
          omega
        · omega
theorem J07 {a:XAir} {s:XSetting} {ps qs:List Int} {v:Int} (ha:AirOk a) (h:Above ps qs v):Jps a s ps v≤Jps a s qs v:=Jo6 ha (Jwp ha) (Jtj ha) h _ (Nat.le_refl _)
theorem Jxz {a:XAir} {s:XSetting} {ps qs:List Int} {v:Int} (ha:AirOk a) (h:Above ps qs v):Jg3 a s ps v≤Jg3 a s qs v:=Jo6 ha (Jtj ha) (Jwp ha) h _ (Nat.le_refl _)
theorem Jha {l:List Int} {k i:Nat} {v:Int} (hk:k < l.length):(l.set k v).getD i 0=if i=k then v else l.getD i 0:=by
  rw [List.getD_eq_getElem?_getD,List.getElem?_set,List.getD_eq_getElem?_getD]
  split
  · rename_i h;subst h;simp [hk]
  · rename_i h;rw [if_neg (fun e=>h e.symm)]
theorem Jt4 {ps:List Int} {v x y:Int} (hv:v.toNat < ps.length) (h:x≤y):Above (ps.set v.toNat x) (ps.set v.toNat y) v:=
  ⟨by rw [Jha hv,Jha hv,if_pos rfl,if_pos rfl];exact h,fun k hk=>by rw [Jha hv,Jha hv,if_neg hk,if_neg hk];exact Int.le_refl _⟩
theorem Jgq {l:List Int} {k:Nat}:l.set k (l.getD k 0)=l:=by
  rcases Nat.lt_or_ge k l.length with h | h
  · have := Jan (l := l) (k := k) 0 h
    obtain ⟨_,h2⟩:=List.getElem?_eq_some_iff.1 this
    rw [← h2,List.set_getElem_self]
  · exact List.set_eq_of_length_le h
def PresOk (ps:List Int):Prop:=∀p∈ps,-70368744177664≤p∧p≤70368744177664
theorem PresOk.get {ps:List Int} (h:PresOk ps) (k:Nat):-70368744177664≤ps.getD k 0∧ps.getD k 0≤70368744177664:=by
  rcases Nat.lt_or_ge k ps.length with h' | h'
  · exact h _ (List.mem_of_getElem? (Jan (l:=ps) 0 h'))
  · rw [List.getD_eq_getElem?_getD,List.getElem?_eq_none h'];decide
theorem PresOk.set {ps:List Int} (h:PresOk ps) (k:Nat) {x:Int} (hx:-70368744177664≤x∧x≤70368744177664):PresOk (ps.set k x):=fun p hp=>by
  rcases List.mem_or_eq_of_mem_set hp with h1 | h1
  · exact h p h1
  · rw [h1];exact hx
end Go.Proofs.YtihompplndcdeaaGreat
end
section
namespace Go.Proofs.YtihompplndcdeaaGreat
open Go.Aw Go
set_option maxRecDepth 20000
attribute [local irreducible] CJ LJ DJ Tri YV Gives Jd5 Jbd Jbz Jd4 RV Jbf OwL.L
structure Entry (n:XNet) (a:XAir) (s:XSetting) (v:Int) (e:Int) (i:Nat) (p:XPipe):Prop where
  hi:i < a.mine.roads.l.length
  he:0≤e∧e < n.pipes.l.length
  get:n.pipes.l[e.toNat]?=some p
  num:(Jc0 a a.mine.roads.l.length).getD e.toNat 0=i
  is:PipeIs a s i p
  ok:PipeOk p
  drop:Jj7 p=Jbr a s i
  closed:¬ (a.mine.roads.l.getD i default).closed=true
  ends:(a.mine.roads.l.getD i default).fr=v∨(a.mine.roads.l.getD i default).to=v
  fr:p.road.fr=(a.mine.roads.l.getD i default).fr
  to:p.road.to=(a.mine.roads.l.getD i default).to
  road:RoadOk a.mine.places.l.length (a.mine.roads.l.getD i default)
theorem NetIs.entry {n:XNet} {a:XAir} {s:XSetting} (hn:NetIs a s n) (ha:AirOk a) {v:Nat} {e:Int} (he:e∈Jvn a v a.mine.roads.l.length):∃(i:Nat) (p:XPipe),Entry n a s v e i p:=by
  obtain ⟨i,hi,rfl,hc,hv⟩:=Jm7 a _ e he
  have hget:=Jsv a hi hc
  have hlt:(Jc0 a i).length < (Jc0 a a.mine.roads.l.length).length:=by
    obtain ⟨m,hm⟩:=Jic a (show i + 1≤a.mine.roads.l.length from hi)
    rw [hm,Jc0,if_neg hc]
    simp only [List.length_append,List.length_singleton]
    omega
  have hg:(Jc0 a a.mine.roads.l.length)[(Jc0 a i).length]?=some i:=by rw [Jan 0 hlt,hget]
  have hnum:=congrArg (fun l=>l[(Jc0 a i).length]?) hn.nums
  simp only [List.getElem?_map,hg,Option.map_some] at hnum
  obtain ⟨p,hp,hpn⟩:=Option.map_eq_some_iff.1 hnum
  have hpi:=hn.pipe p (List.mem_of_getElem? hp)
  rw [hpn] at hpi
  have hlp:=(List.getElem?_eq_some_iff.1 hp).1
  refine ⟨i,p,hi,by omega,by rw [Int.toNat_natCast];exact hp,by rw [Int.toNat_natCast];exact hget,hpi,Jsl ha (by omega) hpi,funext fun q=>Jwg hpi q,hc,hv,?_,?_,ha.mine.road i _ (Jan default hi)⟩
  · rw [hpi.road,Int.toNat_natCast]
  · rw [hpi.road,Int.toNat_natCast]
section
variable {F G:(Int→XSpan)→Int→Int} {a:XAir} {s:XSetting} {ps:List Int} {v:Int}
theorem Jtx {n:Nat} {l:List Int} {k:Nat} {e:Int} (he:l[k]?=some e):Jqe F G a s ps v n (l.take (k + 1))=Jqe F G a s ps v n (l.take k) + Jg6 F G a s ps v ((Jc0 a n).getD e.toNat 0):=by
  have:l.take (k + 1)=l.take k ++ [e]:=by rw [List.take_add_one,he];rfl
  rw [this,Joy,Jqe,Jqe];omega
theorem Jzw {a:XAir} {n:Nat} (hn:1≤n) (i:Nat):(Jc0 a n).getD i 0 < n:=by
  rcases Nat.lt_or_ge i (Jc0 a n).length with h | h
  · have := List.mem_of_getElem? (Jan (l := Jc0 a n) 0 h)
    exact (Jjk.1 this).1
  · rw [List.getD_eq_getElem?_getD,List.getElem?_eq_none h];exact hn
theorem Jkv (hF : Ends F a s) (hG : Ends G a s) (hn : 1 ≤ a.mine.roads.l.length) : ∀ l : List Int, -(1048577 * (l.length : Int)) ≤ Jqe F G a s ps v a.mine.roads.l.length l ∧ Jqe F G a s ps v a.mine.roads.l.length l ≤ 1048577 * (l.length : Int)
  | []=>by simp [Jqe]
  | e :: l=>by
    have ih:=Jkv hF hG hn l
    have h:=Jmi (ps:=ps) (v:=v) hF hG (k:=(Jc0 a a.mine.roads.l.length).getD e.toNat 0) (Jzw hn _)
    rw [Jqe,List.length_cons]
    omega
end
theorem InR.arr {x:Arr (Arr Int)} {R:List Sl} (h:InR (Jik x) R) {i:Nat} {y:Arr Int} (hi:x.l[i]?=some y):InR (isl y) R:=
  h.sub (.deep (List.mem_map.2 ⟨y,List.mem_of_getElem? hi,rfl⟩) .here)
theorem Jqt (n:XNet) (a:XAir) (s:XSetting) (ps:Arr Int) (v:Int) (L:List Blk) (R:List Sl) (hpp:InR (Jjb n.pipes) R) (haa:InR (Jik n.at_) R) (hps:InR (isl ps) R) (hn:NetIs a s n) (ha:AirOk a) (hl:ps.l.length=a.mine.places.l.length) (hb:PresOk ps.l) (hv:0≤v∧v < a.mine.places.l.length):
    Tri Tryz.prog 105 [n.val,ps.val,.int .i64 v].toArray L R (fun w L' R'=>w=.int .i64 (Jps a s ps.l v)∧L=L'∧R=R'):=by
  obtain ⟨x,hx⟩:=Ja0 (l:=n.at_.l) (k:=v.toNat) (by rw [hn.atl];omega)
  have hxl:=hn.at_ _ _ hx
  have hxI:=InR.arr haa hx
  have hnr:=ha.mine.roads
  have hatl:=hn.atl
  have hxn:x.l.length≤a.mine.roads.l.length:=by rw [hxl];exact Jgg a _ _
  refine Jae 57 Tryz.call105 Tryz.func105 rfl rfl rfl ?_
  refine Xai ?_
  intro b3
  refine Xal ?_
  refine Xa5 ?_
  refine Xak ?_
  refine J5o ?_
  refine qa7 ?_
  refine qag ?_
  refine Xaz ?_
  refine Jai [(1,Value.slice _ _ _),(2,Value.int _ _),(3,Value.pointer _),(7,Value.int _ _),(16,Value.slice _ _ _),(17,Value.int _ _),(18,Value.int _ _)] (by repeat' (first | exact trivial | refine And.intro rfl ?_)) fun tq0=>?_
  refine q_s [7,9,10,11,18,19,20,21,22,23,24,25,26,27,28,29,30,31,32,33,34,35,36,37,38,39,40,41,42,43,44,45,46,47,48,49,50,51,52,53,54,55] (fun g:{k:Nat // k≤x.l.length}=>[(7,.int .i64 (Jqe Jb3 Jbs a s ps.l v a.mine.roads.l.length (x.l.take g.1))),(18,.int .i64 ((g.1:Nat):Int))]) (fun g=>x.l.length - g.1) (⟨0,by omega⟩) ?_
  rintro ⟨k,hk⟩ junk
  try dsimp only
  refine Xay ?_
  refine q_c (fun hc0=>?_) (fun hc0=>?_)
  ·
   obtain ⟨e,he⟩:=Ja0 (l:=x.l) (k:=k) (by omega)
   obtain ⟨i,p,hE⟩:=hn.entry ha (v:=v.toNat) (e:=e) (by rw [← hxl];exact List.mem_of_getElem? he)
   have hek:=hE.he
   have hpg:=hE.get
   have hpI:=InR.pipe hpp hpg
   have hro:=hE.road
   have hr1:=hro.fr
   have hr2:=hro.to
   have hef:=hE.fr
   have het:=hE.to
   have hi:=hE.hi
   have hsb:=Jkv (ps:=ps.l) (v:=v) (Jgr (s:=s) ha) (Jfy (s:=s) ha) (by omega) (x.l.take k)
   have htl:(x.l.take k).length≤k:=List.length_take_le _ _
   have hst:=Jtx (F:=Jb3) (G:=Jbs) (a:=a) (s:=s) (ps:=ps.l) (v:=v) (n:=a.mine.roads.l.length) he
   rw [hE.num] at hst
   have hpf:=Jan (l:=ps.l) (k:=p.road.fr.toNat) 0 (by omega)
   have hpt:=Jan (l:=ps.l) (k:=p.road.to.toNat) 0 (by omega)
   have hbf:=hb.get p.road.fr.toNat
   have hbt:=hb.get p.road.to.toNat
   have hdf:Je1 a ps.l i=ps.l.getD p.road.fr.toNat 0 - ps.l.getD p.road.to.toNat 0:=by rw [Je1,hef,het]
   have hfl:=(Jgr (s:=s) ha).bnd i hi (Je1 a ps.l i)
   have hfh:=(Jfy (s:=s) ha).bnd i hi (Je1 a ps.l i)
   rw [← hE.drop,hdf] at hfl hfh
   rw [Jg6,if_neg hE.closed,hdf,← hE.drop,← hef] at hst
   have hends:=hE.ends
   rw [← hef,← het] at hends
   refine qbb ?_
   refine qa3 ?_
   refine qa7 ?_
   refine Xal ?_
   refine Xak ?_
   refine J74 ?_
   refine qdx ?_
   refine qaq ?_
   intro b10
   refine Xd6 ?_
   refine Jbb tb [0,1,2,3,4,5,6,7,8,9,10,11,12,13] _ Jbn (by kernel_rfl) (List.Sublist.refl _) ?_
   refine Jjn ?_
   refine Xd4 ?_
   refine J7y ?_
   refine qbl ?_
   refine Jjn ?_
   refine Xd4 ?_
   refine J78 ?_
   refine qbl ?_
   refine Xee ?_
   refine Jbt (Jaa (Jam (Jaf ?_)))
   refine Xd3 ?_
   refine Xbq ?_
   refine q_c (fun hc1=>?_) (fun hc1=>?_)
   ·
    rw [if_pos hc1] at hst
    refine Xb7 ?_
    refine qdi ?_
    refine qaa ?_
    refine q_l rfl (Jkk p (ps.l.getD p.road.fr.toNat 0 - ps.l.getD p.road.to.toNat 0) _ _ hpI hE.ok) ?_
    refine Xac ?_
    refine Xbj ?_
    exact Jat ⟨k + 1,by omega⟩ (by repeat (first | exact Off.refl | apply Off.upd rfl | apply Off.havoc rfl | apply Off.updL rfl | apply Off.left rfl)) (by dsimp only;rw [hst];first | exact (by repeat' (first | exact trivial | refine And.intro rfl ?_)) | (rw [← Int.sub_eq_add_neg];exact (by repeat' (first | exact trivial | refine And.intro rfl ?_)))) (by repeat (first | exact zs0 _ | exact zs1 _ | apply zs2 | apply zs3 | apply zs4 | apply zs5)) (Jac _) (by dsimp only;omega)
   rw [if_neg hc1,if_pos (by omega)] at hst
   refine Xb7 ?_
   refine qdi ?_
   refine qaa ?_
   refine q_l rfl (Jiu p (ps.l.getD p.road.fr.toNat 0 - ps.l.getD p.road.to.toNat 0) _ _ hpI hE.ok) ?_
   refine Xc8 ?_
   refine Xbj ?_
   exact Jat ⟨k + 1,by omega⟩ (by repeat (first | exact Off.refl | apply Off.upd rfl | apply Off.havoc rfl | apply Off.updL rfl | apply Off.left rfl)) (by dsimp only;rw [hst];first | exact (by repeat' (first | exact trivial | refine And.intro rfl ?_)) | (rw [← Int.sub_eq_add_neg];exact (by repeat' (first | exact trivial | refine And.intro rfl ?_)))) (by repeat (first | exact zs0 _ | exact zs1 _ | apply zs2 | apply zs3 | apply zs4 | apply zs5)) (Jac _) (by dsimp only;omega)
  obtain rfl:k=x.l.length:=by omega
  refine Xds ?_
  refine q_i (L':=L) (R':=R) ?_
  have e:=Jvq (F:=Jb3) (G:=Jbs) (a:=a) (s:=s) (ps:=ps.l) (v:=v.toNat) a.mine.roads.l.length a.mine.roads.l.length (Nat.le_refl _)
  rw [Int.toNat_of_nonneg hv.1] at e
  exact ⟨by rw [Jps,List.take_length,hxl,e],rfl,rfl⟩
theorem Jo4 (n:XNet) (a:XAir) (s:XSetting) (ps:Arr Int) (v:Int) (L:List Blk) (R:List Sl) (hpp:InR (Jjb n.pipes) R) (haa:InR (Jik n.at_) R) (hps:InR (isl ps) R) (hn:NetIs a s n) (ha:AirOk a) (hl:ps.l.length=a.mine.places.l.length) (hb:PresOk ps.l) (hv:0≤v∧v < a.mine.places.l.length):
    Tri Tryz.prog 106 [n.val,ps.val,.int .i64 v].toArray L R (fun w L' R'=>w=.int .i64 (Jg3 a s ps.l v)∧L=L'∧R=R'):=by
  obtain ⟨x,hx⟩:=Ja0 (l:=n.at_.l) (k:=v.toNat) (by rw [hn.atl];omega)
  have hxl:=hn.at_ _ _ hx
  have hxI:=InR.arr haa hx
  have hnr:=ha.mine.roads
  have hatl:=hn.atl
  have hxn:x.l.length≤a.mine.roads.l.length:=by rw [hxl];exact Jgg a _ _
  refine Jae 57 Tryz.call106 Tryz.func106 rfl rfl rfl ?_
  refine Xai ?_
  intro b3
  refine Xal ?_
  refine Xa5 ?_
  refine Xak ?_
  refine J5o ?_
  refine qa7 ?_
  refine qag ?_
  refine Xaz ?_
  refine Jai [(1,Value.slice _ _ _),(2,Value.int _ _),(3,Value.pointer _),(7,Value.int _ _),(16,Value.slice _ _ _),(17,Value.int _ _),(18,Value.int _ _)] (by repeat' (first | exact trivial | refine And.intro rfl ?_)) fun tq0=>?_
  refine q_s [7,9,10,11,18,19,20,21,22,23,24,25,26,27,28,29,30,31,32,33,34,35,36,37,38,39,40,41,42,43,44,45,46,47,48,49,50,51,52,53,54,55] (fun g:{k:Nat // k≤x.l.length}=>[(7,.int .i64 (Jqe Jbs Jb3 a s ps.l v a.mine.roads.l.length (x.l.take g.1))),(18,.int .i64 ((g.1:Nat):Int))]) (fun g=>x.l.length - g.1) (⟨0,by omega⟩) ?_
  rintro ⟨k,hk⟩ junk
  try dsimp only
  refine Xay ?_
  refine q_c (fun hc0=>?_) (fun hc0=>?_)
  ·
   obtain ⟨e,he⟩:=Ja0 (l:=x.l) (k:=k) (by omega)
   obtain ⟨i,p,hE⟩:=hn.entry ha (v:=v.toNat) (e:=e) (by rw [← hxl];exact List.mem_of_getElem? he)
   have hek:=hE.he
   have hpg:=hE.get
   have hpI:=InR.pipe hpp hpg
   have hro:=hE.road
   have hr1:=hro.fr
   have hr2:=hro.to
   have hef:=hE.fr
   have het:=hE.to
   have hi:=hE.hi
   have hsb:=Jkv (ps:=ps.l) (v:=v) (Jfy (s:=s) ha) (Jgr (s:=s) ha) (by omega) (x.l.take k)
   have htl:(x.l.take k).length≤k:=List.length_take_le _ _
   have hst:=Jtx (F:=Jbs) (G:=Jb3) (a:=a) (s:=s) (ps:=ps.l) (v:=v) (n:=a.mine.roads.l.length) he
   rw [hE.num] at hst
   have hpf:=Jan (l:=ps.l) (k:=p.road.fr.toNat) 0 (by omega)
   have hpt:=Jan (l:=ps.l) (k:=p.road.to.toNat) 0 (by omega)
   have hbf:=hb.get p.road.fr.toNat
   have hbt:=hb.get p.road.to.toNat
   have hdf:Je1 a ps.l i=ps.l.getD p.road.fr.toNat 0 - ps.l.getD p.road.to.toNat 0:=by rw [Je1,hef,het]
   have hfl:=(Jfy (s:=s) ha).bnd i hi (Je1 a ps.l i)
   have hfh:=(Jgr (s:=s) ha).bnd i hi (Je1 a ps.l i)
   rw [← hE.drop,hdf] at hfl hfh
   rw [Jg6,if_neg hE.closed,hdf,← hE.drop,← hef] at hst
   have hends:=hE.ends
   rw [← hef,← het] at hends
   refine qbb ?_
   refine qa3 ?_
   refine qa7 ?_
   refine Xal ?_
   refine Xak ?_
   refine J74 ?_
   refine qdx ?_
   refine qaq ?_
   intro b10
   refine Xd6 ?_
   refine Jbb tb [0,1,2,3,4,5,6,7,8,9,10,11,12,13] _ Jbn (by kernel_rfl) (List.Sublist.refl _) ?_
   refine Jjn ?_
   refine Xd4 ?_
   refine J7y ?_
   refine qbl ?_
   refine Jjn ?_
   refine Xd4 ?_
   refine J78 ?_
   refine qbl ?_
   refine Xee ?_
   refine Jbt (Jaa (Jam (Jaf ?_)))
   refine Xd3 ?_
   refine Xbq ?_
   refine q_c (fun hc1=>?_) (fun hc1=>?_)
   ·
    rw [if_pos hc1] at hst
    refine Xb7 ?_
    refine qdi ?_
    refine qaa ?_
    refine q_l rfl (Jiu p (ps.l.getD p.road.fr.toNat 0 - ps.l.getD p.road.to.toNat 0) _ _ hpI hE.ok) ?_
    refine Xac ?_
    refine Xbj ?_
    exact Jat ⟨k + 1,by omega⟩ (by repeat (first | exact Off.refl | apply Off.upd rfl | apply Off.havoc rfl | apply Off.updL rfl | apply Off.left rfl)) (by dsimp only;rw [hst];first | exact (by repeat' (first | exact trivial | refine And.intro rfl ?_)) | (rw [← Int.sub_eq_add_neg];exact (by repeat' (first | exact trivial | refine And.intro rfl ?_)))) (by repeat (first | exact zs0 _ | exact zs1 _ | apply zs2 | apply zs3 | apply zs4 | apply zs5)) (Jac _) (by dsimp only;omega)
   rw [if_neg hc1,if_pos (by omega)] at hst
   refine Xb7 ?_
   refine qdi ?_
   refine qaa ?_
   refine q_l rfl (Jkk p (ps.l.getD p.road.fr.toNat 0 - ps.l.getD p.road.to.toNat 0) _ _ hpI hE.ok) ?_
   refine Xc8 ?_
   refine Xbj ?_
   exact Jat ⟨k + 1,by omega⟩ (by repeat (first | exact Off.refl | apply Off.upd rfl | apply Off.havoc rfl | apply Off.updL rfl | apply Off.left rfl)) (by dsimp only;rw [hst];first | exact (by repeat' (first | exact trivial | refine And.intro rfl ?_)) | (rw [← Int.sub_eq_add_neg];exact (by repeat' (first | exact trivial | refine And.intro rfl ?_)))) (by repeat (first | exact zs0 _ | exact zs1 _ | apply zs2 | apply zs3 | apply zs4 | apply zs5)) (Jac _) (by dsimp only;omega)
  obtain rfl:k=x.l.length:=by omega
  refine Xds ?_
  refine q_i (L':=L) (R':=R) ?_
  have e:=Jvq (F:=Jbs) (G:=Jb3) (a:=a) (s:=s) (ps:=ps.l) (v:=v.toNat) a.mine.roads.l.length a.mine.roads.l.length (Nat.le_refl _)
  rw [Int.toNat_of_nonneg hv.1] at e
  exact ⟨by rw [Jg3,List.take_length,hxl,e],rfl,rfl⟩
theorem Jq1 (a:XAir) (s:XSetting) (ps:Arr Int) (v:Int) (L:List Blk) (R:List Sl) (hm:AirR a R) (hs:SetR s R) (hps:InR (isl ps) R) (ha:AirOk a) (hf:FitOk a s) (hl:ps.l.length=a.mine.places.l.length) (hb:PresOk ps.l):
    Tri Tryz.prog 114 [a.val,s.val,ps.val,.int .i64 v].toArray L R (fun w L' R'=>w=.int .i64 (Jps a s ps.l v)∧L=L'∧R=R'):=by
  have hnr:=ha.mine.roads
  have hmr:=hm.roads
  refine Jae 71 Tryz.call114 Tryz.func114 rfl rfl rfl ?_
  refine Xai ?_
  intro b4
  refine qax ?_
  intro b5
  refine Xal ?_
  refine Xa5 ?_
  refine Xas ?_
  refine Jai [(2,Value.slice _ _ _),(3,Value.int _ _),(4,Value.pointer _),(5,Value.pointer _),(9,Value.int _ _),(10,Value.int _ _)] (by repeat' (first | exact trivial | refine And.intro rfl ?_)) fun tq0=>?_
  refine q_s [9,10,11,12,13,14,15,16,17,18,19,20,21,22,23,24,25,26,27,28,29,30,31,32,33,34,35,36,37,38,39,40,41,42,43,44,45,46,47,48,49,50,51,52,53,54,55,56,57,58,59,60,61,62,63,64,65,66,67,68,69] (fun g:{k:Nat // k≤a.mine.roads.l.length}=>[(9,.int .i64 (Joa Jb3 Jbs a s ps.l v g.1)),(10,.int .i64 ((g.1:Nat):Int))]) (fun g=>a.mine.roads.l.length - g.1) (⟨0,by omega⟩) ?_
  rintro ⟨k,hk⟩ junk
  try dsimp only
  refine Xaq ?_
  refine Xa7 ?_
  refine Xao ?_
  refine q_c (fun hc0=>?_) (fun hc0=>?_)
  ·
   have hro:=Jan (l:=a.mine.roads.l) (k:=k) default (by omega)
   have hrk:=ha.mine.road _ _ hro
   have hr1:=hrk.fr
   have hr2:=hrk.to
   have hr3:=hrk.ne
   have hsb:=Jkm (ps:=ps.l) (v:=v) (Jgr (s:=s) ha) (Jfy (s:=s) ha) k hk
   have hpf:=Jan (l:=ps.l) (k:=(a.mine.roads.l.getD k default).fr.toNat) 0 (by omega)
   have hpt:=Jan (l:=ps.l) (k:=(a.mine.roads.l.getD k default).to.toNat) 0 (by omega)
   have hbf:=hb.get (a.mine.roads.l.getD k default).fr.toNat
   have hbt:=hb.get (a.mine.roads.l.getD k default).to.toNat
   have hfl:=(Jgr (s:=s) ha).bnd k (by omega) (Je1 a ps.l k)
   have hfh:=(Jfy (s:=s) ha).bnd k (by omega) (Je1 a ps.l k)
   rw [Je1] at hfl hfh
   have hst:Joa Jb3 Jbs a s ps.l v (k + 1)=Joa Jb3 Jbs a s ps.l v k + Jg6 Jb3 Jbs a s ps.l v k:=rfl
   rw [Jg6,Je1] at hst
   refine qbb ?_
   refine Xd3 ?_
   refine J8d ?_
   refine Xda ?_
   intro b11
   refine Xct ?_
   refine qaf ?_
   refine q_c (fun hc1=>?_) (fun hc1=>?_)
   ·
    rw [if_pos hc1,Int.add_zero] at hst
    refine Jb6 (Jbk (Ja6 (Jaa (Jaf ?_))))
    refine Xah ?_
    exact Jat ⟨k + 1,by omega⟩ (by repeat (first | exact Off.refl | apply Off.upd rfl | apply Off.havoc rfl | apply Off.updL rfl | apply Off.left rfl)) (by dsimp only;rw [hst];exact (by repeat' (first | exact trivial | refine And.intro rfl ?_))) (by repeat (first | exact zs0 _ | exact zs1 _ | apply zs2 | apply zs3 | apply zs4 | apply zs5)) (Jac _) (by dsimp only;omega)
   rw [if_neg (by simpa using hc1)] at hst
   refine qbo ?_
   refine Xak ?_
   refine Xbq ?_
   refine q_c (fun hc2=>?_) (fun hc2=>?_)
   ·
    rw [if_pos hc2] at hst
    refine Jyb ?_
    refine qao ?_
    refine Xb6 ?_
    refine qao ?_
    refine Jjn ?_
    refine Xae ?_
    refine Jx0 ?_
    refine qbl ?_
    refine Jjn ?_
    refine Xae ?_
    refine Jx4 ?_
    refine qbl ?_
    refine qb7 ?_
    refine q_d rfl (Ji7 a s k (ps.l.getD (a.mine.roads.l.getD k default).fr.toNat 0 - ps.l.getD (a.mine.roads.l.getD k default).to.toNat 0) _ _ hm hs ha hf (by omega)) ?_
    refine qc2 ?_
    refine qcg ?_
    refine Jbt (Jaa (Jam (Jaf ?_)))
    refine Xak ?_
    refine Xbq ?_
    refine q_c (fun hc3=>?_) (fun hc3=>?_)
    ·
     refine Jyb ?_
     refine qao ?_
     refine Xb6 ?_
     refine qao ?_
     refine Jjn ?_
     refine Xae ?_
     refine Jx0 ?_
     refine qbl ?_
     refine Jjn ?_
     refine Xae ?_
     refine Jx4 ?_
     refine qbl ?_
     refine qb7 ?_
     refine q_d rfl (Jh2 a s k (ps.l.getD (a.mine.roads.l.getD k default).fr.toNat 0 - ps.l.getD (a.mine.roads.l.getD k default).to.toNat 0) _ _ hm hs ha hf (by omega)) ?_
     refine Xee ?_
     refine Xca ?_
     first | (exfalso;omega) | (rw [if_pos hc3,← Int.sub_eq_add_neg] at hst;exact Jat ⟨k + 1,by omega⟩ (by repeat (first | exact Off.refl | apply Off.upd rfl | apply Off.havoc rfl | apply Off.updL rfl | apply Off.left rfl)) (by dsimp only;rw [hst];exact (by repeat' (first | exact trivial | refine And.intro rfl ?_))) (by repeat (first | exact zs0 _ | exact zs1 _ | apply zs2 | apply zs3 | apply zs4 | apply zs5)) (Jac _) (by dsimp only;omega))
    refine Xa1 ?_
    first | (rw [if_neg hc3,Int.add_zero] at hst;exact Jat ⟨k + 1,by omega⟩ (by repeat (first | exact Off.refl | apply Off.upd rfl | apply Off.havoc rfl | apply Off.updL rfl | apply Off.left rfl)) (by dsimp only;rw [hst];exact (by repeat' (first | exact trivial | refine And.intro rfl ?_))) (by repeat (first | exact zs0 _ | exact zs1 _ | apply zs2 | apply zs3 | apply zs4 | apply zs5)) (Jac _) (by dsimp only;omega)) | exact Jat ⟨k + 1,by omega⟩ (by repeat (first | exact Off.refl | apply Off.upd rfl | apply Off.havoc rfl | apply Off.updL rfl | apply Off.left rfl)) (by dsimp only;rw [hst];exact (by repeat' (first | exact trivial | refine And.intro rfl ?_))) (by repeat (first | exact zs0 _ | exact zs1 _ | apply zs2 | apply zs3 | apply zs4 | apply zs5)) (Jac _) (by dsimp only;omega)
   rw [if_neg hc2] at hst
   refine qbv ?_
   refine Xak ?_
   refine Xbq ?_
   refine q_c (fun hc3=>?_) (fun hc3=>?_)
   ·
    refine Jyb ?_
    refine qao ?_
    refine Xb6 ?_
    refine qao ?_
    refine Jjn ?_
    refine Xae ?_
    refine Jx0 ?_
    refine qbl ?_
    refine Jjn ?_
    refine Xae ?_
    refine Jx4 ?_
    refine qbl ?_
    refine qb7 ?_
    refine q_d rfl (Jh2 a s k (ps.l.getD (a.mine.roads.l.getD k default).fr.toNat 0 - ps.l.getD (a.mine.roads.l.getD k default).to.toNat 0) _ _ hm hs ha hf (by omega)) ?_
    refine Xee ?_
    refine Xca ?_
    first | (exfalso;omega) | (rw [if_pos hc3,← Int.sub_eq_add_neg] at hst;exact Jat ⟨k + 1,by omega⟩ (by repeat (first | exact Off.refl | apply Off.upd rfl | apply Off.havoc rfl | apply Off.updL rfl | apply Off.left rfl)) (by dsimp only;rw [hst];exact (by repeat' (first | exact trivial | refine And.intro rfl ?_))) (by repeat (first | exact zs0 _ | exact zs1 _ | apply zs2 | apply zs3 | apply zs4 | apply zs5)) (Jac _) (by dsimp only;omega))
   refine Xa1 ?_
   first | (rw [if_neg hc3,Int.add_zero] at hst;exact Jat ⟨k + 1,by omega⟩ (by repeat (first | exact Off.refl | apply Off.upd rfl | apply Off.havoc rfl | apply Off.updL rfl | apply Off.left rfl)) (by dsimp only;rw [hst];exact (by repeat' (first | exact trivial | refine And.intro rfl ?_))) (by repeat (first | exact zs0 _ | exact zs1 _ | apply zs2 | apply zs3 | apply zs4 | apply zs5)) (Jac _) (by dsimp only;omega)) | exact Jat ⟨k + 1,by omega⟩ (by repeat (first | exact Off.refl | apply Off.upd rfl | apply Off.havoc rfl | apply Off.updL rfl | apply Off.left rfl)) (by dsimp only;rw [hst];exact (by repeat' (first | exact trivial | refine And.intro rfl ?_))) (by repeat (first | exact zs0 _ | exact zs1 _ | apply zs2 | apply zs3 | apply zs4 | apply zs5)) (Jac _) (by dsimp only;omega)
  obtain rfl:k=a.mine.roads.l.length:=by omega
  refine Xds ?_
  refine q_i (L':=L) (R':=R) ?_
  exact ⟨rfl,rfl,rfl⟩
theorem Jod (a:XAir) (s:XSetting) (ps:Arr Int) (v:Int) (L:List Blk) (R:List Sl) (hm:AirR a R) (hs:SetR s R) (hps:InR (isl ps) R) (ha:AirOk a) (hf:FitOk a s) (hl:ps.l.length=a.mine.places.l.length) (hb:PresOk ps.l):
    Tri Tryz.prog 115 [a.val,s.val,ps.val,.int .i64 v].toArray L R (fun w L' R'=>w=.int .i64 (Jg3 a s ps.l v)∧L=L'∧R=R'):=by
  have hnr:=ha.mine.roads
  have hmr:=hm.roads
  refine Jae 71 Tryz.call115 Tryz.func115 rfl rfl rfl ?_
  refine Xai ?_
  intro b4
  refine qax ?_
  intro b5
  refine Xal ?_
  refine Xa5 ?_
  refine Xas ?_
  refine Jai [(2,Value.slice _ _ _),(3,Value.int _ _),(4,Value.pointer _),(5,Value.pointer _),(9,Value.int _ _),(10,Value.int _ _)] (by repeat' (first | exact trivial | refine And.intro rfl ?_)) fun tq0=>?_
  refine q_s [9,10,11,12,13,14,15,16,17,18,19,20,21,22,23,24,25,26,27,28,29,30,31,32,33,34,35,36,37,38,39,40,41,42,43,44,45,46,47,48,49,50,51,52,53,54,55,56,57,58,59,60,61,62,63,64,65,66,67,68,69] (fun g:{k:Nat // k≤a.mine.roads.l.length}=>[(9,.int .i64 (Joa Jbs Jb3 a s ps.l v g.1)),(10,.int .i64 ((g.1:Nat):Int))]) (fun g=>a.mine.roads.l.length - g.1) (⟨0,by omega⟩) ?_
  rintro ⟨k,hk⟩ junk
  try dsimp only
  refine Xaq ?_
  refine Xa7 ?_
  refine Xao ?_
  refine q_c (fun hc0=>?_) (fun hc0=>?_)
  ·
   have hro:=Jan (l:=a.mine.roads.l) (k:=k) default (by omega)
   have hrk:=ha.mine.road _ _ hro
   have hr1:=hrk.fr
   have hr2:=hrk.to
   have hr3:=hrk.ne
   have hsb:=Jkm (ps:=ps.l) (v:=v) (Jfy (s:=s) ha) (Jgr (s:=s) ha) k hk
   have hpf:=Jan (l:=ps.l) (k:=(a.mine.roads.l.getD k default).fr.toNat) 0 (by omega)
   have hpt:=Jan (l:=ps.l) (k:=(a.mine.roads.l.getD k default).to.toNat) 0 (by omega)
   have hbf:=hb.get (a.mine.roads.l.getD k default).fr.toNat
   have hbt:=hb.get (a.mine.roads.l.getD k default).to.toNat
   have hfl:=(Jfy (s:=s) ha).bnd k (by omega) (Je1 a ps.l k)
   have hfh:=(Jgr (s:=s) ha).bnd k (by omega) (Je1 a ps.l k)
   rw [Je1] at hfl hfh
   have hst:Joa Jbs Jb3 a s ps.l v (k + 1)=Joa Jbs Jb3 a s ps.l v k + Jg6 Jbs Jb3 a s ps.l v k:=rfl
   rw [Jg6,Je1] at hst
   refine qbb ?_
   refine Xd3 ?_
   refine J8d ?_
   refine Xda ?_
   intro b11
   refine Xct ?_
   refine qaf ?_
   refine q_c (fun hc1=>?_) (fun hc1=>?_)
   ·
    rw [if_pos hc1,Int.add_zero] at hst
    refine Jb6 (Jbk (Ja6 (Jaa (Jaf ?_))))
    refine Xah ?_
    exact Jat ⟨k + 1,by omega⟩ (by repeat (first | exact Off.refl | apply Off.upd rfl | apply Off.havoc rfl | apply Off.updL rfl | apply Off.left rfl)) (by dsimp only;rw [hst];exact (by repeat' (first | exact trivial | refine And.intro rfl ?_))) (by repeat (first | exact zs0 _ | exact zs1 _ | apply zs2 | apply zs3 | apply zs4 | apply zs5)) (Jac _) (by dsimp only;omega)
   rw [if_neg (by simpa using hc1)] at hst
   refine qbo ?_
   refine Xak ?_
   refine Xbq ?_
   refine q_c (fun hc2=>?_) (fun hc2=>?_)
   ·
    rw [if_pos hc2] at hst
    refine Jyb ?_
    refine qao ?_
    refine Xb6 ?_
    refine qao ?_
    refine Jjn ?_
    refine Xae ?_
    refine Jx0 ?_
    refine qbl ?_
    refine Jjn ?_
    refine Xae ?_
    refine Jx4 ?_
    refine qbl ?_
    refine qb7 ?_
    refine q_d rfl (Jh2 a s k (ps.l.getD (a.mine.roads.l.getD k default).fr.toNat 0 - ps.l.getD (a.mine.roads.l.getD k default).to.toNat 0) _ _ hm hs ha hf (by omega)) ?_
    refine qc2 ?_
    refine qcg ?_
    refine Jbt (Jaa (Jam (Jaf ?_)))
    refine Xak ?_
    refine Xbq ?_
    refine q_c (fun hc3=>?_) (fun hc3=>?_)
    ·
     refine Jyb ?_
     refine qao ?_
     refine Xb6 ?_
     refine qao ?_
     refine Jjn ?_
     refine Xae ?_
     refine Jx0 ?_
     refine qbl ?_
     refine Jjn ?_
     refine Xae ?_
     refine Jx4 ?_
     refine qbl ?_
     refine qb7 ?_
     refine q_d rfl (Ji7 a s k (ps.l.getD (a.mine.roads.l.getD k default).fr.toNat 0 - ps.l.getD (a.mine.roads.l.getD k default).to.toNat 0) _ _ hm hs ha hf (by omega)) ?_
     refine Xee ?_
     refine Xca ?_
     first | (exfalso;omega) | (rw [if_pos hc3,← Int.sub_eq_add_neg] at hst;exact Jat ⟨k + 1,by omega⟩ (by repeat (first | exact Off.refl | apply Off.upd rfl | apply Off.havoc rfl | apply Off.updL rfl | apply Off.left rfl)) (by dsimp only;rw [hst];exact (by repeat' (first | exact trivial | refine And.intro rfl ?_))) (by repeat (first | exact zs0 _ | exact zs1 _ | apply zs2 | apply zs3 | apply zs4 | apply zs5)) (Jac _) (by dsimp only;omega))
    refine Xa1 ?_
    first | (rw [if_neg hc3,Int.add_zero] at hst;exact Jat ⟨k + 1,by omega⟩ (by repeat (first | exact Off.refl | apply Off.upd rfl | apply Off.havoc rfl | apply Off.updL rfl | apply Off.left rfl)) (by dsimp only;rw [hst];exact (by repeat' (first | exact trivial | refine And.intro rfl ?_))) (by repeat (first | exact zs0 _ | exact zs1 _ | apply zs2 | apply zs3 | apply zs4 | apply zs5)) (Jac _) (by dsimp only;omega)) | exact Jat ⟨k + 1,by omega⟩ (by repeat (first | exact Off.refl | apply Off.upd rfl | apply Off.havoc rfl | apply Off.updL rfl | apply Off.left rfl)) (by dsimp only;rw [hst];exact (by repeat' (first | exact trivial | refine And.intro rfl ?_))) (by repeat (first | exact zs0 _ | exact zs1 _ | apply zs2 | apply zs3 | apply zs4 | apply zs5)) (Jac _) (by dsimp only;omega)
   rw [if_neg hc2] at hst
   refine qbv ?_
   refine Xak ?_
   refine Xbq ?_
   refine q_c (fun hc3=>?_) (fun hc3=>?_)
   ·
    refine Jyb ?_
    refine qao ?_
    refine Xb6 ?_
    refine qao ?_
    refine Jjn ?_
    refine Xae ?_
    refine Jx0 ?_
    refine qbl ?_
    refine Jjn ?_
    refine Xae ?_
    refine Jx4 ?_
    refine qbl ?_
    refine qb7 ?_
    refine q_d rfl (Ji7 a s k (ps.l.getD (a.mine.roads.l.getD k default).fr.toNat 0 - ps.l.getD (a.mine.roads.l.getD k default).to.toNat 0) _ _ hm hs ha hf (by omega)) ?_
    refine Xee ?_
    refine Xca ?_
    first | (exfalso;omega) | (rw [if_pos hc3,← Int.sub_eq_add_neg] at hst;exact Jat ⟨k + 1,by omega⟩ (by repeat (first | exact Off.refl | apply Off.upd rfl | apply Off.havoc rfl | apply Off.updL rfl | apply Off.left rfl)) (by dsimp only;rw [hst];exact (by repeat' (first | exact trivial | refine And.intro rfl ?_))) (by repeat (first | exact zs0 _ | exact zs1 _ | apply zs2 | apply zs3 | apply zs4 | apply zs5)) (Jac _) (by dsimp only;omega))
   refine Xa1 ?_
   first | (rw [if_neg hc3,Int.add_zero] at hst;exact Jat ⟨k + 1,by omega⟩ (by repeat (first | exact Off.refl | apply Off.upd rfl | apply Off.havoc rfl | apply Off.updL rfl | apply Off.left rfl)) (by dsimp only;rw [hst];exact (by repeat' (first | exact trivial | refine And.intro rfl ?_))) (by repeat (first | exact zs0 _ | exact zs1 _ | apply zs2 | apply zs3 | apply zs4 | apply zs5)) (Jac _) (by dsimp only;omega)) | exact Jat ⟨k + 1,by omega⟩ (by repeat (first | exact Off.refl | apply Off.upd rfl | apply Off.havoc rfl | apply Off.updL rfl | apply Off.left rfl)) (by dsimp only;rw [hst];exact (by repeat' (first | exact trivial | refine And.intro rfl ?_))) (by repeat (first | exact zs0 _ | exact zs1 _ | apply zs2 | apply zs3 | apply zs4 | apply zs5)) (Jac _) (by dsimp only;omega)
  obtain rfl:k=a.mine.roads.l.length:=by omega
  refine Xds ?_
  refine q_i (L':=L) (R':=R) ?_
  exact ⟨rfl,rfl,rfl⟩
end Go.Proofs.YtihompplndcdeaaGreat
end
section
namespace Go.Proofs.YtihompplndcdeaaGreat
open Go.Aw Go
set_option maxRecDepth 20000
attribute [local irreducible] CJ LJ DJ Tri YV Gives Jd5 Jbd Jbz Jd4 RV Jbf OwL.L
abbrev sgn (up:Bool):Int:=if up then 1 else -1
abbrev Jki (up:Bool) (start:Int):Int:=if up then 70368744177664 - start else start + 70368744177664
structure First (g:Int→Bool) (start:Int) (up:Bool) (v:Int) (ok:Bool):Prop where
  yes:ok=true→∃m,0≤m∧m≤Jki up start∧v=start + sgn up * m∧g v=true∧∀j,0≤j→j < m→g (start + sgn up * j)=false
  no:ok=false→v=0∧∀j,0≤j→j≤Jki up start→g (start + sgn up * j)=false
def Stays (g:Int→Bool) (start:Int) (up:Bool):Prop:=∀i j,0≤i→i≤j→j≤Jki up start→g (start + sgn up * i)=true→g (start + sgn up * j)=true
theorem Stays.no {g:Int→Bool} {start:Int} {up:Bool} (h:Stays g start up) {i j:Int} (h0:0≤i) (hij:i≤j) (hj:j≤Jki up start) (hg:g (start + sgn up * j)=false):g (start + sgn up * i)=false:=by
  cases e:g (start + sgn up * i) with
  | false=>rfl
  | true=>rw [h i j h0 hij hj e] at hg;cases hg
theorem Jr1 {up:Bool} {z:Int} (h:0≤z∧z≤281474976710656):-281474976710656≤sgn up * z∧sgn up * z≤281474976710656:=by
  cases up <;> simp only [sgn] <;> simp <;> omega
theorem Jwh {up:Bool} {start z:Int} (hs:-70368744177664≤start∧start≤70368744177664) (h:0≤z∧z≤Jki up start):-70368744177664≤start + sgn up * z∧start + sgn up * z≤70368744177664:=by
  cases up <;> simp only [sgn,Jki] at h ⊢ <;> simp at h ⊢ <;> omega
theorem Joz {up:Bool} {start:Int} (hs:-70368744177664≤start∧start≤70368744177664):0≤Jki up start∧Jki up start≤140737488355328:=by
  cases up <;> simp [Jki] <;> omega
theorem Jp8 (f : FuncId) (cap : Array Value) (LL : Int → List Blk) (g : Int → Bool) (start : Int) (up : Bool) (y : Int) (R : List Sl) (hs : -70368744177664 ≤ start ∧ start ≤ 70368744177664) (hm : Stays g start up)
    (hc:∀x y,-70368744177664≤x∧x≤70368744177664→Tri Tryz.prog f (.int .i64 x :: cap.toList).toArray (LL y) R (fun v L' R'=>v=.bool (g x)∧LL x=L'∧R=R')):
    Tri Tryz.prog 123 [.int .i64 start,.bool up,.func (.func f) #[] cap].toArray (LL y) R (fun v L' R'=>∃(z:Int) (ok:Bool) (y':Int),v=.tuple #[.int .i64 z,.bool ok]∧First g start up z ok∧LL y'=L'∧R=R'):=by
  have hro:=Joz (up:=up) hs
  have h00:start + sgn up * 0=start:=by simp
  refine Jae 80 Tryz.call123 Tryz.func123 rfl rfl rfl ?_
  refine Xaj ?_
  refine Xb2 ?_
  refine Ja2 (Jar rfl) rfl ?_
  refine qaa ?_
  refine Jxr (Jga rfl rfl (hc start y hs)) rfl rfl ?_
  rintro v L' R' ⟨rfl,rfl,rfl⟩
  refine qaf ?_
  refine q_c (fun hc0=>?_) (fun hc0=>?_)
  ·
   refine Xco ?_
   refine Xcj ?_
   refine q_r (L':=LL start) (R':=R) (Jc8 rfl (Jah (show _=Value.int _ _ from rfl)) (Jah (show _=Value.bool _ from rfl))) ?_
   exact ⟨start,true,start,rfl,⟨fun _=>⟨0,by omega,by omega,h00.symm,hc0,fun j h1 h2=>by omega⟩,fun h=>by cases h⟩,rfl,rfl⟩
  refine qbv ?_
  refine qaa ?_
  refine Xc8 ?_
  refine Xa5 ?_
  refine Xc3 ?_
  refine Jd8 [8,9,21,22] ((⟨fun _=>[(8,.int .i64 (sgn up)),(9,.int .i64 (Jki up start))],fun _=>LL start,fun _=>R,fun _=>0⟩:Head Unit)) ?_ ?_
  ·
   skip
   refine q_c (fun hc1=>?_) (fun hc1=>?_)
   ·
    refine qay ?_
    refine Xag ?_
    refine qad ?_
    refine qav ?_
    subst hc1;exact q_j ()
   refine Ja3 ?_
   subst hc1;exact q_j ()
  rintro u junk
  try dsimp only
  refine Xaj ?_
  refine Xd9 ?_
  refine Jd8 [10,11,23,24,25,26,27,28,29,30,31,32,33,34,35,36,37,38] ((⟨fun g=>[(10,.int .i64 g.1.1),(11,.int .i64 g.1.2.1)],fun g=>LL g.1.2.2,fun _=>R,fun _=>0⟩:Head {q:Int×Int×Int // (0≤q.1∧q.1 < q.2.1∧q.2.1≤281474976710656)∧g (start + sgn up * q.1)=false∧(q.1=0∨q.1 < Jki up start)∧(q.2.1 < Jki up start→g (start + sgn up * q.2.1)=true)})) ?_ ?_
  ·
   refine Ja1 ?_
   refine Jb8 [10,11,23,24,25,26,27,28,29,30,31,32,33,34,35,36,37,38] (by repeat (first | apply Off.upd rfl | apply Off.havoc rfl | refine Off.updL (t':=havoc _ _ _) rfl ?_ | exact Off.refl)) [(10,Value.int _ _),(11,Value.int _ _)] (by repeat' (first | exact trivial | refine And.intro rfl ?_)) fun tq0=>?_
   refine q_p [10,11,23,24,25,26,27,28,29,30,31,32,33,34,35,36,37,38] ((⟨fun g=>[(10,.int .i64 g.1.1),(11,.int .i64 g.1.2.1)],fun g=>LL g.1.2.2,fun _=>R,fun g=>(Jki up start + 1 - g.1.1).toNat⟩:Head {q:Int×Int×Int // ((q.1=0∧q.2.1=1)∨(1≤q.1∧q.2.1=q.1 * 2))∧g (start + sgn up * q.1)=false∧(q.1=0∨q.1 < Jki up start)})) (⟨(0,1,start),.inl ⟨rfl,rfl⟩,by rw [h00];exact hc0,.inl rfl⟩) ?_
   rintro ⟨⟨bad,good,y2⟩,hbg,hbf,hbr⟩ junk
   try dsimp only
   dsimp only at hbg hbf hbr
   have hgm:=Jr1 (up:=up) (z:=good) (by omega)
   refine Xec ?_
   refine Xa9 ?_
   refine Jfl (k:=26) (show _=Value.bool _ from rfl) (fun hg4=>?_) (fun hg4=>?_)
   ·
    replace hg4:=qb hg4
    refine Jct (Jar rfl) rfl rfl ?_
    iterate 3 refine Jct (Jar (show _=Value.int _ _ from rfl)) rfl rfl ?_
    refine J60 ?_
    refine J8t ?_
    refine Jxr (Jga rfl rfl (hc (start + sgn up * good) y2 (Jwh hs (by omega)))) rfl rfl ?_
    rintro v L' R' ⟨rfl,rfl,rfl⟩
    refine Jct (Jpe rfl) rfl rfl ?_
    refine J21 ?_
    refine qaf ?_
    refine q_c (fun hc2=>?_) (fun hc2=>?_)
    ·
     refine Ja3 (Jaa (Jam (Ja1 (Jaf ?_))))
     refine Xa2 ?_
     refine qcs ?_
     refine Xdt ?_
     refine qad ?_
     refine qav ?_
     exact q_k ⟨(good,good * 2,start + sgn up * good),by dsimp only;omega,by simpa using hc2,by dsimp only;omega⟩
    refine Jb6 (Jbk (Jcf (Ja6 ?_)))
    exact Jeh ⟨(bad,good,_),by dsimp only;omega,hbf,hbr,fun h=>by first | (exfalso;have h':good < Jki up start:=h;omega) | simpa using hc2⟩ (by repeat (first | exact Off.refl | apply Off.upd rfl | apply Off.havoc rfl | apply Off.updL rfl | apply Off.left rfl | apply Off.leftu rfl)) (by repeat' (first | exact trivial | refine And.intro rfl ?_)) (by repeat (first | exact zs0 _ | exact zs1 _ | apply zs2 | apply zs3 | apply zs4 | apply zs5)) (Jac _)
   replace hg4:=qb hg4
   iterate 8 refine Jfv rfl rfl ?_
   refine J21 ?_
   refine qaf ?_
   refine Jcr rfl ?_
   refine Jb6 (Jbk (Jcf (Ja6 ?_)))
   exact Jeh ⟨(bad,good,_),by dsimp only;omega,hbf,hbr,fun h=>by first | (exfalso;have h':good < Jki up start:=h;omega) | simpa using hc2⟩ (by repeat (first | exact Off.refl | apply Off.upd rfl | apply Off.havoc rfl | apply Off.updL rfl | apply Off.left rfl | apply Off.leftu rfl)) (by repeat' (first | exact trivial | refine And.intro rfl ?_)) (by repeat (first | exact zs0 _ | exact zs1 _ | apply zs2 | apply zs3 | apply zs4 | apply zs5)) (Jac _)
  rintro ⟨⟨bad,good,y2⟩,hbg,hbf,hbr,hgt⟩ junk
  try dsimp only
  dsimp only at hbg hbf hbr hgt
  refine Xec ?_
  refine Xdb ?_
  refine Jd8 [6,7,11,42,43,44,45,46,47,48,49,50,51,52,53,54,55] ((⟨fun q=>[(11,.int .i64 q.1.1)],fun q=>LL q.1.2,fun _=>R,fun _=>0⟩:Head {q:Int×Int // bad < q.1∧q.1≤Jki up start∧g (start + sgn up * q.1)=true})) ?_ ?_
  ·
   skip
   refine q_c (fun hc3=>?_) (fun hc3=>?_)
   ·
    refine Xco ?_
    refine qa4 ?_
    have hgm:=Jr1 (up:=up) (z:=Jki up start) (by omega)
    refine qay ?_
    refine Xbx ?_
    refine qbx ?_
    refine qah ?_
    refine Jfl (k:=46) (show _=Value.bool _ from rfl) (fun hg4=>?_) (fun hg4=>?_)
    ·
     replace hg4:=qb hg4
     iterate 8 refine Jfv rfl rfl ?_
     refine J21 ?_
     refine qaf ?_
     refine Jcu rfl ?_
     refine Xaj ?_
     refine qaz ?_
     refine Ja9 (Jaa (Jc5 (Jhb ?_)))
     refine q_r (L':=LL _) (R':=R) (Jc8 rfl (Jah (show _=Value.int _ _ from rfl)) (Jah (show _=Value.bool _ from rfl))) ?_
     refine ⟨0,false,_,rfl,⟨(fun h=>by cases h),fun _=>⟨rfl,fun j h1 h2=>?_⟩⟩,rfl,rfl⟩
     by_cases hj:j=0
     · rw [hj,h00];exact hc0
     · first
         | (exfalso;omega)
         | exact hm.no h1 h2 (Int.le_refl _) (by simpa using hc4)
    replace hg4:=qb hg4
    refine Jct (Jar rfl) rfl rfl ?_
    iterate 3 refine Jct (Jar (show _=Value.int _ _ from rfl)) rfl rfl ?_
    refine J60 ?_
    refine J8t ?_
    refine Jxr (Jga rfl rfl (hc (start + sgn up * Jki up start) y2 (Jwh hs (by omega)))) rfl rfl ?_
    rintro v L' R' ⟨rfl,rfl,rfl⟩
    refine Jct (Jpe rfl) rfl rfl ?_
    refine J21 ?_
    refine qaf ?_
    refine q_c (fun hc4=>?_) (fun hc4=>?_)
    ·
     refine Xaj ?_
     refine qaz ?_
     refine Ja9 (Jaa (Jc5 (Jhb ?_)))
     refine q_r (L':=LL _) (R':=R) (Jc8 rfl (Jah (show _=Value.int _ _ from rfl)) (Jah (show _=Value.bool _ from rfl))) ?_
     refine ⟨0,false,_,rfl,⟨(fun h=>by cases h),fun _=>⟨rfl,fun j h1 h2=>?_⟩⟩,rfl,rfl⟩
     by_cases hj:j=0
     · rw [hj,h00];exact hc0
     · first
         | (exfalso;omega)
         | exact hm.no h1 h2 (Int.le_refl _) (by simpa using hc4)
    refine Ja3 ?_
    exact q_j ⟨(Jki up start,start + sgn up * Jki up start),by dsimp only;omega,by dsimp only;omega,by simpa using hc4⟩
   refine Ja3 ?_
   exact q_j ⟨(good,y2),by dsimp only;omega,by dsimp only;omega,hgt (by omega)⟩
  rintro ⟨⟨good2,y3⟩,h31,h32,h33⟩ junk
  try dsimp only
  dsimp only at h31 h32 h33
  refine Jam (Ja1 ?_)
  refine Jai [(0,Value.int _ _),(2,_),(8,Value.int _ _),(10,Value.int _ _),(11,Value.int _ _)] (by repeat' (first | exact trivial | refine And.intro rfl ?_)) fun tq1=>?_
  refine q_p [10,11,12,56,57,58,59,60,61,62,63,64,65,66,67,68,69,70,71,72,73,74] ((⟨fun q=>[(10,.int .i64 q.1.1),(11,.int .i64 q.1.2.1)],fun q=>LL q.1.2.2,fun _=>R,fun q=>(q.1.2.1 - q.1.1).toNat⟩:Head {q:Int×Int×Int // (0≤q.1∧q.1 < q.2.1∧q.2.1≤Jki up start)∧g (start + sgn up * q.1)=false∧g (start + sgn up * q.2.1)=true})) (⟨(bad,good2,y3),by dsimp only;omega,hbf,h33⟩) ?_
  rintro ⟨⟨lo,hi,y4⟩,q1,q2,q3⟩ junk
  try dsimp only
  dsimp only at q1 q2 q3
  refine Xaq ?_
  refine Xam ?_
  refine Xao ?_
  refine q_c (fun hc5=>?_) (fun hc5=>?_)
  ·
   obtain ⟨mid,hmid⟩:∃mid,mid=lo + (hi - lo).tdiv 2:=⟨_,rfl⟩
   have hmb:lo < mid∧mid < hi:=by rw [Int.tdiv_eq_ediv_of_nonneg (by omega)] at hmid;omega
   have hdv:0≤(hi - lo).tdiv 2∧(hi - lo).tdiv 2≤hi - lo:=by rw [Int.tdiv_eq_ediv_of_nonneg (by omega)];omega
   refine Ja3 (Jaa (Ja1 (Jam (Jaf ?_))))
   iterate 3 refine qaa ?_
   refine qa9 ?_
   refine qdd ?_
   refine Xac ?_
   refine qa4 ?_
   rw [← hmid]
   have hgm:=Jr1 (up:=up) (z:=mid) (by omega)
   refine qay ?_
   refine Ja2 (Jar rfl) rfl ?_
   iterate 3 refine qaa ?_
   refine qcm ?_
   refine qar ?_
   refine Jxr (Jga rfl rfl (hc (start + sgn up * mid) y4 (Jwh hs (by omega)))) rfl rfl ?_
   rintro v L' R' ⟨rfl,rfl,rfl⟩
   refine qaf ?_
   refine q_c (fun hc6=>?_) (fun hc6=>?_)
   ·
    refine qay ?_
    refine Xa2 ?_
    refine Ja9 (Jao ?_)
    exact q_k ⟨(lo,mid,start + sgn up * mid),by dsimp only;omega,q2,hc6⟩
   refine qay ?_
   refine Xa2 ?_
   refine Ja9 (Jao ?_)
   exact q_k ⟨(mid,hi,start + sgn up * mid),by dsimp only;omega,hc6,q3⟩
  refine qc3 ?_
  have hgm:=Jr1 (up:=up) (z:=hi) (by omega)
  refine qay ?_
  iterate 3 refine qaa ?_
  refine qcm ?_
  refine Xac ?_
  refine Xbb ?_
  refine q_r (L':=LL y4) (R':=R) (Jc8 rfl (Jah (show _=Value.int _ _ from rfl)) (Jah (show _=Value.bool _ from rfl))) ?_
  exact ⟨start + sgn up * hi,true,y4,rfl,⟨fun _=>⟨hi,by omega,by omega,rfl,q3,fun j h1 h2=>hm.no h1 (show j≤lo by omega) (by omega) q2⟩,fun h=>by cases h⟩,rfl,rfl⟩
end Go.Proofs.YtihompplndcdeaaGreat
end
section
namespace Go.Proofs.YtihompplndcdeaaGreat
open Go.Aw Go
set_option maxRecDepth 20000
attribute [local irreducible] CJ LJ DJ Tri YV Gives Jd5 Jbd Jbz Jd4 RV Jbf OwL.L
theorem Tri.lend1 {P : Program} {f : FuncId} {args : Array Value} {A : List Blk} {R : List Sl} {p : OwL Int} {T : TypeId} {u : Value} (hin : InB (p.L T Jad) A) (hok : p.ok 1 Jad)
    (h:Tri P f args [] (isl p.arr :: R) (fun v L' R'=>v=u∧[]=L'∧isl p.arr :: R=R')):Tri P f args A R (fun v L' R'=>v=u∧A=L'∧R=R'):=by
  have h2:=Tri.lend (S:=[isl p.arr]) (Post:=fun v L'=>v=u∧[]=L') (Spl.rest (L:=A)) (fun w G hh s hs=>by
    rw [List.mem_singleton.1 hs]
    exact Jc3 hh hin hok (fun _=>rfl) (by decide) (fun s hs=>by cases hs)) (h.mono fun v L' R' ⟨a1,a2,a3⟩=>⟨⟨a1,a2⟩,a3⟩)
  exact h2.mono fun v L'' R' ⟨L',e,⟨a1,a2⟩,a3⟩=>⟨a1,by rw [← a2,List.append_nil] at e;exact e,a3⟩
theorem J1c {o:Ow} {l:List Int} {k:Nat} {y:Int}:(⟨o,l⟩:OwL Int).val=(⟨o,l.set k y⟩:OwL Int).val:=OwL.set_val.symm
structure HypsN (n:XNet) (a:XAir) (s:XSetting) (ps:List Int) (v:Int) (R:List Sl):Prop where
  pp:InR (Jjb n.pipes) R
  aa:InR (Jik n.at_) R
  is:NetIs a s n
  ok:AirOk a
  len:ps.length=a.mine.places.l.length
  pres:PresOk ps
  v:0≤v∧v < a.mine.places.l.length
theorem J42 {n:XNet} {a:XAir} {s:XSetting} {o:Ow} {ps:List Int} {v y:Int} {A:List Blk} {R:List Sl} (h:HypsN n a s ps v R) (hy:-70368744177664≤y∧y≤70368744177664) (hin:InB ((⟨o,ps.set v.toNat y⟩:OwL Int).L 3 Jad) A) (hok:(⟨o,ps.set v.toNat y⟩:OwL Int).ok 1 Jad):
    Tri Tryz.prog 105 [n.val,(⟨o,ps⟩:OwL Int).val,.int .i64 v].toArray A R (fun w L' R'=>w=.int .i64 (Jps a s (ps.set v.toNat y) v)∧A=L'∧R=R'):=by
  rw [J1c (k:=v.toNat) (y:=y)]
  exact Tri.lend1 hin hok (Jqt n a s (⟨o,ps.set v.toNat y⟩:OwL Int).arr v [] _ (h.pp.mono fun r hr=>Jab (.tail _ hr)) (h.aa.mono fun r hr=>Jab (.tail _ hr)) (Jab (.head _)) h.is h.ok (by simp [h.len]) (h.pres.set _ hy) h.v)
theorem J1z {n:XNet} {a:XAir} {s:XSetting} {o:Ow} {ps:List Int} {v y:Int} {A:List Blk} {R:List Sl} (h:HypsN n a s ps v R) (hy:-70368744177664≤y∧y≤70368744177664) (hin:InB ((⟨o,ps.set v.toNat y⟩:OwL Int).L 3 Jad) A) (hok:(⟨o,ps.set v.toNat y⟩:OwL Int).ok 1 Jad):
    Tri Tryz.prog 106 [n.val,(⟨o,ps⟩:OwL Int).val,.int .i64 v].toArray A R (fun w L' R'=>w=.int .i64 (Jg3 a s (ps.set v.toNat y) v)∧A=L'∧R=R'):=by
  rw [J1c (k:=v.toNat) (y:=y)]
  exact Tri.lend1 hin hok (Jo4 n a s (⟨o,ps.set v.toNat y⟩:OwL Int).arr v [] _ (h.pp.mono fun r hr=>Jab (.tail _ hr)) (h.aa.mono fun r hr=>Jab (.tail _ hr)) (Jab (.head _)) h.is h.ok (by simp [h.len]) (h.pres.set _ hy) h.v)
structure HypsR (a:XAir) (s:XSetting) (ps:List Int) (v:Int) (R:List Sl):Prop where
  air:AirR a R
  set:SetR s R
  ok:AirOk a
  fit:FitOk a s
  len:ps.length=a.mine.places.l.length
  pres:PresOk ps
  v:0≤v∧v < a.mine.places.l.length
theorem Jvo {a:XAir} {s:XSetting} {o:Ow} {ps:List Int} {v y:Int} {A:List Blk} {R:List Sl} (h:HypsR a s ps v R) (hy:-70368744177664≤y∧y≤70368744177664) (hin:InB ((⟨o,ps.set v.toNat y⟩:OwL Int).L 3 Jad) A) (hok:(⟨o,ps.set v.toNat y⟩:OwL Int).ok 1 Jad):
    Tri Tryz.prog 114 [a.val,s.val,(⟨o,ps⟩:OwL Int).val,.int .i64 v].toArray A R (fun w L' R'=>w=.int .i64 (Jps a s (ps.set v.toNat y) v)∧A=L'∧R=R'):=by
  rw [J1c (k:=v.toNat) (y:=y)]
  exact Tri.lend1 hin hok (Jq1 a s (⟨o,ps.set v.toNat y⟩:OwL Int).arr v [] _ (Jbm h.air fun r hr=>Jab (.tail _ hr)) (Jbc h.set fun r hr=>Jab (.tail _ hr)) (Jab (.head _)) h.ok h.fit (by simp [h.len]) (h.pres.set _ hy))
theorem Jr9 {a:XAir} {s:XSetting} {o:Ow} {ps:List Int} {v y:Int} {A:List Blk} {R:List Sl} (h:HypsR a s ps v R) (hy:-70368744177664≤y∧y≤70368744177664) (hin:InB ((⟨o,ps.set v.toNat y⟩:OwL Int).L 3 Jad) A) (hok:(⟨o,ps.set v.toNat y⟩:OwL Int).ok 1 Jad):
    Tri Tryz.prog 115 [a.val,s.val,(⟨o,ps⟩:OwL Int).val,.int .i64 v].toArray A R (fun w L' R'=>w=.int .i64 (Jg3 a s (ps.set v.toNat y) v)∧A=L'∧R=R'):=by
  rw [J1c (k:=v.toNat) (y:=y)]
  exact Tri.lend1 hin hok (Jod a s (⟨o,ps.set v.toNat y⟩:OwL Int).arr v [] _ (Jbm h.air fun r hr=>Jab (.tail _ hr)) (Jbc h.set fun r hr=>Jab (.tail _ hr)) (Jab (.head _)) h.ok h.fit (by simp [h.len]) (h.pres.set _ hy))
abbrev Juc (a:XAir) (s:XSetting) (ps:List Int) (v:Int):Int→Bool:=fun x=>decide (0≤Jps a s (ps.set v.toNat x) v)
abbrev Jjm (a:XAir) (s:XSetting) (ps:List Int) (v:Int):Int→Bool:=fun x=>decide (Jg3 a s (ps.set v.toNat x) v≤0)
theorem Jqh {a:XAir} {s:XSetting} {ps:List Int} {v start:Int} (ha:AirOk a) (hv:v.toNat < ps.length):Stays (Juc a s ps v) start true:=by
  intro i j h0 hij hj hg
  rw [decide_eq_true_eq] at hg ⊢
  have:=J07 (s:=s) ha (Jt4 (ps:=ps) hv (show start + sgn true * i≤start + sgn true * j by simp only [sgn];simp;omega))
  omega
theorem Jnp {a:XAir} {s:XSetting} {ps:List Int} {v start:Int} (ha:AirOk a) (hv:v.toNat < ps.length):Stays (Jjm a s ps v) start false:=by
  intro i j h0 hij hj hg
  rw [decide_eq_true_eq] at hg ⊢
  have:=Jxz (s:=s) ha (Jt4 (ps:=ps) hv (show start + sgn false * j≤start + sgn false * i by simp only [sgn];simp;omega))
  omega
abbrev clL (b8 b5 b3:Nat) (n:XNet) (o:Ow) (ps:List Int) (v:Int) (L:List Blk) (y:Int):List Blk:=
  ⟨b8,[(⟨o,ps⟩:OwL Int).val],23⟩ :: ((⟨o,ps.set v.toNat y⟩:OwL Int).L 3 Jad ++ (⟨b5,[.int .i64 v],3⟩ :: ⟨b3,n.cells,142⟩ :: L))
theorem Jxu {b8 b5 b3:Nat} {n:XNet} {a:XAir} {s:XSetting} {o:Ow} {ps:List Int} {u:Int} {L:List Blk} {R:List Sl} (h:HypsN n a s ps u R) (hok:(⟨o,ps⟩:OwL Int).ok 1 Jad) (x y:Int) (hx:-70368744177664≤x∧x≤70368744177664):
    Tri Tryz.prog 125 [.int .i64 x,.pointer (some ⟨b8,0,none⟩),.pointer (some ⟨b5,0,none⟩),.pointer (some ⟨b3,0,none⟩)].toArray (clL b8 b5 b3 n o ps u L y) R (fun w L' R'=>w=.bool (Juc a s ps u x)∧clL b8 b5 b3 n o ps u L x=L'∧R=R'):=by
  have hv:=h.v
  have hlen:=h.len
  have hok2:∀z,(⟨o,ps.set u.toNat z⟩:OwL Int).ok 1 Jad:=fun z=>OwL.len_ok Jcc hok (by simp)
  have hoky:=hok2 y
  have hget:=Jan (l:=ps.set u.toNat y) (k:=u.toNat) 0 (by simp;omega)
  refine Jae 15 Tryz.call125 Tryz.func125 rfl rfl rfl ?_
  refine qae ?_
  refine Xbr ?_
  refine qac ?_
  refine qac ?_
  refine qaa ?_
  refine J63 ?_
  refine J7o ?_
  rintro v L' R' ⟨rfl,rfl⟩
  refine qa4 ?_
  refine Jg5 (by rw [List.set_set]) ?_
  refine qay ?_
  refine qbe ?_
  refine qac ?_
  refine qac ?_
  refine q_l rfl (J42 (o:=o) (y:=x) h hx (by repeat (first | exact Jaw | apply Jau | apply Jba)) (hok2 x)) ?_
  refine qbz ?_
  refine Xbb ?_
  refine q_b (L':=clL b8 b5 b3 n o ps u L x) (R':=R) ?_
  exact ⟨rfl,rfl,rfl⟩
theorem Js6 (n:XNet) (a:XAir) (s:XSetting) (ps:Arr Int) (u:Int) (L:List Blk) (R:List Sl) (h:HypsN n a s ps.l u R) (hps:InR (isl ps) R):
    Tri Tryz.prog 104 [n.val,ps.val,.int .i64 u].toArray L R (fun w L' R'=>∃(z:Int) (ok:Bool),w=.tuple #[.int .i64 z,.bool ok]∧First (Juc a s ps.l u) (ps.l.getD u.toNat 0) true z ok∧L=L'∧R=R'):=by
  have hv:=h.v
  have hlen:=h.len
  have hnp:=h.ok.mine.places
  have hget:=Jan (l:=ps.l) (k:=u.toNat) 0 (by omega)
  have hb:=h.pres.get u.toNat
  have hst:=Jqh (s:=s) (start:=ps.l.getD u.toNat 0) h.ok (ps:=ps.l) (v:=u) (by omega)
  refine Jae 19 Tryz.call104 Tryz.func104 rfl rfl rfl ?_
  refine Xai ?_
  intro b3
  refine J0e (v:=Value.int _ _) rfl rfl rfl ?_
  intro b5
  refine qad ?_
  refine Xbr ?_
  refine qbm ?_
  refine J1g ?_
  rintro v L' R' ⟨o10,rfl,hok10,rfl,rfl⟩
  refine qaq ?_
  intro b8
  refine qcy ?_
  refine qam ?_
  refine qbm ?_
  refine qac ?_
  refine J5t ?_
  refine qa7 ?_
  refine Ja2 (Jz4 rfl) rfl ?_
  refine J89 (show _=clL b8 b5 b3 n o10 ps.l u L (ps.l.getD u.toNat 0) from by rw [clL,Jgq];rfl) ?_
  refine Jaq rfl (Jp8 125 #[.pointer (some ⟨b8,0,none⟩),.pointer (some ⟨b5,0,none⟩),.pointer (some ⟨b3,0,none⟩)] (clL b8 b5 b3 n o10 ps.l u L) (Juc a s ps.l u) (ps.l.getD u.toNat 0) true (ps.l.getD u.toNat 0) _ hb hst (fun x y hx=>Jxu h hok10 x y hx)) rfl ?_
  rintro v L' R' ⟨z,ok,y',rfl,hF,rfl,rfl⟩
  refine Xdw ?_
  refine Xbb ?_
  refine q_r (L':=L) (R':=R) (Jc8 rfl (Jah (show _=Value.int _ _ from rfl)) (Jah (show _=Value.bool _ from rfl))) ?_
  exact ⟨z,ok,rfl,hF,rfl,rfl⟩
theorem Jq8 {b8 b5 b3:Nat} {n:XNet} {a:XAir} {s:XSetting} {o:Ow} {ps:List Int} {u:Int} {L:List Blk} {R:List Sl} (h:HypsN n a s ps u R) (hok:(⟨o,ps⟩:OwL Int).ok 1 Jad) (x y:Int) (hx:-70368744177664≤x∧x≤70368744177664):
    Tri Tryz.prog 124 [.int .i64 x,.pointer (some ⟨b8,0,none⟩),.pointer (some ⟨b5,0,none⟩),.pointer (some ⟨b3,0,none⟩)].toArray (clL b8 b5 b3 n o ps u L y) R (fun w L' R'=>w=.bool (Jjm a s ps u x)∧clL b8 b5 b3 n o ps u L x=L'∧R=R'):=by
  have hv:=h.v
  have hlen:=h.len
  have hok2:∀z,(⟨o,ps.set u.toNat z⟩:OwL Int).ok 1 Jad:=fun z=>OwL.len_ok Jcc hok (by simp)
  have hoky:=hok2 y
  have hget:=Jan (l:=ps.set u.toNat y) (k:=u.toNat) 0 (by simp;omega)
  refine Jae 15 Tryz.call124 Tryz.func124 rfl rfl rfl ?_
  refine qae ?_
  refine Xbr ?_
  refine qac ?_
  refine qac ?_
  refine qaa ?_
  refine J63 ?_
  refine J7o ?_
  rintro v L' R' ⟨rfl,rfl⟩
  refine qa4 ?_
  refine Jg5 (by rw [List.set_set]) ?_
  refine qay ?_
  refine qbe ?_
  refine qac ?_
  refine qac ?_
  refine q_l rfl (J1z (o:=o) (y:=x) h hx (by repeat (first | exact Jaw | apply Jau | apply Jba)) (hok2 x)) ?_
  refine qbx ?_
  refine Xbb ?_
  refine q_b (L':=clL b8 b5 b3 n o ps u L x) (R':=R) ?_
  exact ⟨rfl,rfl,rfl⟩
theorem Jpk (n:XNet) (a:XAir) (s:XSetting) (ps:Arr Int) (u:Int) (L:List Blk) (R:List Sl) (h:HypsN n a s ps.l u R) (hps:InR (isl ps) R):
    Tri Tryz.prog 103 [n.val,ps.val,.int .i64 u].toArray L R (fun w L' R'=>∃(z:Int) (ok:Bool),w=.tuple #[.int .i64 z,.bool ok]∧First (Jjm a s ps.l u) (ps.l.getD u.toNat 0) false z ok∧L=L'∧R=R'):=by
  have hv:=h.v
  have hlen:=h.len
  have hnp:=h.ok.mine.places
  have hget:=Jan (l:=ps.l) (k:=u.toNat) 0 (by omega)
  have hb:=h.pres.get u.toNat
  have hst:=Jnp (s:=s) (start:=ps.l.getD u.toNat 0) h.ok (ps:=ps.l) (v:=u) (by omega)
  refine Jae 19 Tryz.call103 Tryz.func103 rfl rfl rfl ?_
  refine Xai ?_
  intro b3
  refine J0e (v:=Value.int _ _) rfl rfl rfl ?_
  intro b5
  refine qad ?_
  refine Xbr ?_
  refine qbm ?_
  refine J1g ?_
  rintro v L' R' ⟨o10,rfl,hok10,rfl,rfl⟩
  refine qaq ?_
  intro b8
  refine qcy ?_
  refine qam ?_
  refine qbm ?_
  refine qac ?_
  refine J5t ?_
  refine qa7 ?_
  refine Ja2 (Jz4 rfl) rfl ?_
  refine J89 (show _=clL b8 b5 b3 n o10 ps.l u L (ps.l.getD u.toNat 0) from by rw [clL,Jgq];rfl) ?_
  refine Jaq rfl (Jp8 124 #[.pointer (some ⟨b8,0,none⟩),.pointer (some ⟨b5,0,none⟩),.pointer (some ⟨b3,0,none⟩)] (clL b8 b5 b3 n o10 ps.l u L) (Jjm a s ps.l u) (ps.l.getD u.toNat 0) false (ps.l.getD u.toNat 0) _ hb hst (fun x y hx=>Jq8 h hok10 x y hx)) rfl ?_
  rintro v L' R' ⟨z,ok,y',rfl,hF,rfl,rfl⟩
  refine Xdw ?_
  refine Xbb ?_
  refine q_r (L':=L) (R':=R) (Jc8 rfl (Jah (show _=Value.int _ _ from rfl)) (Jah (show _=Value.bool _ from rfl))) ?_
  exact ⟨z,ok,rfl,hF,rfl,rfl⟩
end Go.Proofs.YtihompplndcdeaaGreat
end
section
namespace Go.Proofs.YtihompplndcdeaaGreat
open Go.Aw Go
set_option maxRecDepth 20000
attribute [local irreducible] CJ LJ DJ Tri YV Gives Jd5 Jbd Jbz Jd4 RV Jbf OwL.L
theorem J6c (a:XAir) (s:XSetting) (ps:Arr Int) (u:Int) (L:List Blk) (R:List Sl) (h:HypsR a s ps.l u R) (hps:InR (isl ps) R):
    Tri Tryz.prog 130 [a.val,s.val,ps.val,.int .i64 u].toArray L R (fun w L' R'=>∃(z:Int) (ok:Bool),w=.tuple #[.int .i64 z,.bool ok]∧First (Juc a s ps.l u) (ps.l.getD u.toNat 0) true z ok∧L=L'∧R=R'):=by
  have hv:=h.v
  have hlen:=h.len
  have hnp:=h.ok.mine.places
  obtain ⟨start,hstart⟩:∃start,start=ps.l.getD u.toNat 0:=⟨_,rfl⟩
  have hget:ps.l[u.toNat]?=some start:=by rw [hstart];exact Jan (l:=ps.l) (k:=u.toNat) 0 (by omega)
  have hb:-70368744177664≤start∧start≤70368744177664:=by rw [hstart];exact h.pres.get u.toNat
  have hst:=Jqh (s:=s) (start:=start) h.ok (ps:=ps.l) (v:=u) (by omega)
  have hself:ps.l.set u.toNat start=ps.l:=by rw [hstart];exact Jgq
  have hgs:∀y,(ps.l.set u.toNat y)[u.toNat]?=some y:=fun y=>by rw [List.getElem?_set_self (by omega)]
  have hsg:∀j:Int,start + sgn true * j=start + j:=fun j=>by simp [sgn]
  have hrm:Jki true start=70368744177664 - start:=rfl
  rw [← hstart]
  refine Jae 86 Tryz.call130 Tryz.func130 rfl rfl rfl ?_
  refine Xai ?_
  intro b4
  refine qax ?_
  intro b5
  refine qad ?_
  refine Xbr ?_
  refine qbm ?_
  refine J1g ?_
  rintro v L' R' ⟨o15,rfl,hok15,rfl,rfl⟩
  refine Xdo ?_
  have hok2:∀z,(⟨o15,ps.l.set u.toNat z⟩:OwL Int).ok 1 Jad:=fun z=>OwL.len_ok Jcc hok15 (by simp)
  refine J6n ?_
  refine Xd8 ?_
  refine Xad ?_
  refine q_l rfl (Jvo (o:=o15) (y:=start) h hb (by repeat (first | exact Jaw | apply Jau | apply Jba)) (hok2 start)) ?_
  refine Xdb ?_
  refine q_c (fun hc0=>?_) (fun hc0=>?_)
  ·
   have hoks:=hok2 start
   have hgy:=hgs start
   refine qae ?_
   refine Xad ?_
   refine J1k ?_
   refine J15 ?_
   refine qad ?_
   refine Xcj ?_
   refine q_r (L':=L) (R':=R) (Jc8 rfl (Jah (show _=Value.int _ _ from rfl)) (Jah (show _=Value.bool _ from rfl))) ?_
   exact J84
  have hoks:=hok2 start
  have hgy:=hgs start
  have hf0:Juc a s ps.l u start=false:=decide_eq_false hc0
  refine qbv ?_
  refine Xad ?_
  refine J1k ?_
  refine J15 ?_
  refine qad ?_
  refine Xd9 ?_
  refine Jd8 [8,9,11,12,30,31,32,33,34,35,36,37,38,39,40,41,42,43,44,45,46,47,48,49,50,51,52,53] ((⟨fun q=>[(11,.int .i64 q.1.1)],fun q=>(⟨o15,ps.l.set u.toNat q.1.2.2⟩:OwL Int).L 3 Jad ++ (⟨b5,s.cells,25⟩ :: ⟨b4,a.cells,35⟩ :: L),fun _=>R,fun _=>0⟩:Head {q:Int×Int×Int // (start≤q.1∧q.1≤70368744177664)∧Juc a s ps.l u q.1=false∧(q.1 < q.2.2∧q.2.2≤70368744177664)∧Juc a s ps.l u q.2.2=true})) ?_ ?_
  ·
   refine Ja1 ?_
   refine Jb8 [8,9,11,12,30,31,32,33,34,35,36,37,38,39,40,41,42,43,44,45,46,47,48,49,50,51,52,53] (by repeat (first | apply Off.upd rfl | apply Off.havoc rfl | refine Off.updL (t':=havoc _ _ _) rfl ?_ | exact Off.refl)) [(11,Value.int _ _),(12,Value.int _ _)] (by repeat' (first | exact trivial | refine And.intro rfl ?_)) fun tq0=>?_
   refine q_p [8,9,11,12,30,31,32,33,34,35,36,37,38,39,40,41,42,43,44,45,46,47,48,49,50,51,52,53] ((⟨fun q=>[(11,.int .i64 q.1.1),(12,.int .i64 q.1.2.1)],fun q=>(⟨o15,ps.l.set u.toNat q.1.2.2⟩:OwL Int).L 3 Jad ++ (⟨b5,s.cells,25⟩ :: ⟨b4,a.cells,35⟩ :: L),fun _=>R,fun q=>(70368744177664 - q.1.1).toNat⟩:Head {q:Int×Int×Int // (start≤q.1∧q.1≤70368744177664)∧Juc a s ps.l u q.1=false∧q.2.1=q.1 - start + 1})) (⟨(start,1,start),by dsimp only;omega,hf0,by dsimp only;omega⟩) ?_
   rintro ⟨⟨low,step,y⟩,j1,j2,j3⟩ junk
   try dsimp only
   dsimp only at j1 j2 j3
   have hoky:=hok2 y
   have hgy:=hgs y
   refine Ja1 (Jam (Jaf ?_))
   refine qbm ?_
   iterate 3 refine qaa ?_
   refine qar ?_
   refine Ja2 (Jrw rfl rfl) rfl ?_
   refine J1x ?_
   refine Jfa (Jas tb ((⟨o15,ps.l.set u.toNat y⟩:OwL Int)) (min (low + step) 70368744177664) rfl rfl rfl rfl (by repeat (first | apply OSeg.cons | exact OSeg.here | exact OSeg.last | exact OSeg.at (by assumption) | apply OSeg.app)) (by assumption) (fun _=>rfl) (by assumption) (by decide) (by rfl) (by rfl)) ?_
   rintro v L' R' ⟨rfl,rfl⟩
   refine qco ?_
   obtain ⟨w,hw⟩:∃w,w=min (low + step) 70368744177664:=⟨_,rfl⟩
   have hwb:w≤70368744177664∧low≤w∧(w < 70368744177664→w=low + step):=by omega
   rw [← hw]
   refine Jg5 (by rw [List.set_set]) ?_
   have hokw:=hok2 w
   have hgw:=hgs w
   refine Xd8 ?_
   refine Xad ?_
   refine q_l rfl (Jvo (o:=o15) (y:=w) h (by omega) (by repeat (first | exact Jaw | apply Jau | apply Jba)) (hok2 w)) ?_
   refine Xdb ?_
   refine q_c (fun hc1=>?_) (fun hc1=>?_)
   ·
    refine Jb6 (Jbk ?_)
    refine Jmw rfl ?_
    refine Jcf (Ja6 ?_)
    have hgt:Juc a s ps.l u w=true:=decide_eq_true hc1
    have hne:low≠w:=fun e=>by rw [e,hgt] at j2;cases j2
    exact Jeh ⟨(low,step,w),j1,j2,by dsimp only;omega,hgt⟩ (by repeat (first | exact Off.refl | apply Off.upd rfl | apply Off.havoc rfl | apply Off.updL rfl | apply Off.left rfl | apply Off.leftu rfl)) (by repeat' (first | exact trivial | refine And.intro rfl ?_)) (by repeat (first | exact zs0 _ | exact zs1 _ | apply zs2 | apply zs3 | apply zs4 | apply zs5)) (Jac _)
   have hgf:Juc a s ps.l u w=false:=decide_eq_false hc1
   refine qbo ?_
   refine Xad ?_
   refine J10 ?_
   refine J22 ?_
   refine Xbq ?_
   refine q_c (fun hc2=>?_) (fun hc2=>?_)
   ·
    refine Xaj ?_
    refine qaz ?_
    refine Ja9 (Jaa (Jc5 (Ja7 (Jay (Jcm (Jay (Jhb ?_)))))))
    refine q_r (L':=L) (R':=R) (Jc8 rfl (Jah (show _=Value.int _ _ from rfl)) (Jah (show _=Value.bool _ from rfl))) ?_
    refine ⟨0,false,rfl,⟨(fun h=>by cases h),fun _=>⟨rfl,fun j h1 h2=>?_⟩⟩,rfl,rfl⟩
    refine hst.no h1 h2 (Int.le_refl _) ?_
    rw [hsg,hrm,show start + (70368744177664 - start)=w from by omega];exact hgf
   refine qbv ?_
   refine Xad ?_
   refine J10 ?_
   refine J22 ?_
   refine qad ?_
   refine Ja9 (Jaa (Jaf ?_))
   refine Xdt ?_
   refine qad ?_
   refine Ja9 (Jao ?_)
   exact q_k ⟨(w,step * 2,w),by dsimp only;omega,hgf,by dsimp only;omega⟩
  rintro ⟨⟨low,step,y⟩,j1,j2,j3,j4⟩ junk
  try dsimp only
  dsimp only at j1 j2 j3 j4
  have hoky:=hok2 y
  have hgy:=hgs y
  refine qae ?_
  refine Xad ?_
  refine J1x ?_
  refine J8g ?_
  refine qad ?_
  refine Ja9 (Jaa (Jam (Ja1 ?_)))
  refine Jai [(3,Value.int _ _),(4,Value.pointer _),(5,Value.pointer _),(10,Value.slice _ _ _),(11,Value.int _ _),(13,Value.int _ _)] (by repeat' (first | exact trivial | refine And.intro rfl ?_)) fun tq1=>?_
  refine q_p [11,13,58,59,60,61,62,63,64,65,66,67,68,69,70,71,72,73,74,75,76,77,78,79,80,81,82,83,84] ((⟨fun q=>[(11,.int .i64 q.1.1),(13,.int .i64 q.1.2.1)],fun q=>(⟨o15,ps.l.set u.toNat q.1.2.2⟩:OwL Int).L 3 Jad ++ (⟨b5,s.cells,25⟩ :: ⟨b4,a.cells,35⟩ :: L),fun _=>R,fun q=>(q.1.2.1 - q.1.1).toNat⟩:Head {q:Int×Int×Int // (start≤q.1∧q.1 < q.2.1∧q.2.1≤70368744177664)∧Juc a s ps.l u q.1=false∧Juc a s ps.l u q.2.1=true})) (⟨(low,y,y),by dsimp only;omega,j2,j4⟩) ?_
  rintro ⟨⟨lo,hi,z⟩,q1,q2,q3⟩ junk
  try dsimp only
  dsimp only at q1 q2 q3
  have hokz:=hok2 z
  have hgz:=hgs z
  refine Xaq ?_
  refine Xam ?_
  refine Xao ?_
  refine q_c (fun hc3=>?_) (fun hc3=>?_)
  ·
   obtain ⟨mid,hmid⟩:∃mid,mid=lo + (hi - lo).tdiv 2:=⟨_,rfl⟩
   have hmb:lo < mid∧mid < hi:=by rw [Int.tdiv_eq_ediv_of_nonneg (by omega)] at hmid;omega
   have hdv:0≤(hi - lo).tdiv 2∧(hi - lo).tdiv 2≤hi - lo:=by rw [Int.tdiv_eq_ediv_of_nonneg (by omega)];omega
   refine Ja3 (Jaa (Ja1 (Jam (Jaf ?_))))
   refine qbm ?_
   iterate 4 refine qaa ?_
   refine qa9 ?_
   refine qdd ?_
   refine qar ?_
   refine J6x ?_
   refine J80 ?_
   rintro v L' R' ⟨rfl,rfl⟩
   refine qa4 ?_
   rw [← hmid]
   refine Jg5 (by rw [List.set_set]) ?_
   have hokm:=hok2 mid
   have hgm:=hgs mid
   refine Xd8 ?_
   refine Xad ?_
   refine q_l rfl (Jvo (o:=o15) (y:=mid) h (by omega) (by repeat (first | exact Jaw | apply Jau | apply Jba)) (hok2 mid)) ?_
   refine Xdb ?_
   refine q_c (fun hc4=>?_) (fun hc4=>?_)
   ·
    refine Xby ?_
    refine J2s ?_
    refine J13 ?_
    refine qad ?_
    refine Ja9 (Jao ?_)
    exact q_k ⟨(lo,mid,mid),by dsimp only;omega,q2,decide_eq_true hc4⟩
   refine Xby ?_
   refine J2s ?_
   refine J13 ?_
   refine qad ?_
   refine Ja9 (Jao ?_)
   exact q_k ⟨(mid,hi,mid),by dsimp only;omega,decide_eq_false hc4,q3⟩
  refine Xc6 ?_
  refine Xbb ?_
  refine q_r (L':=L) (R':=R) (Jc8 rfl (Jah (show _=Value.int _ _ from rfl)) (Jah (show _=Value.bool _ from rfl))) ?_
  refine ⟨hi,true,rfl,⟨fun _=>⟨hi - start,by omega,by rw [hrm];omega,by rw [hsg];omega,q3,fun j h1 h2=>?_⟩,fun h=>by cases h⟩,rfl,rfl⟩
  refine hst.no h1 (show j≤lo - start by omega) (by rw [hrm];omega) ?_
  rw [hsg,show start + (lo - start)=lo from by omega];exact q2
theorem J14 (a:XAir) (s:XSetting) (ps:Arr Int) (u:Int) (L:List Blk) (R:List Sl) (h:HypsR a s ps.l u R) (hps:InR (isl ps) R):
    Tri Tryz.prog 131 [a.val,s.val,ps.val,.int .i64 u].toArray L R (fun w L' R'=>∃(z:Int) (ok:Bool),w=.tuple #[.int .i64 z,.bool ok]∧First (Jjm a s ps.l u) (ps.l.getD u.toNat 0) false z ok∧L=L'∧R=R'):=by
  have hv:=h.v
  have hlen:=h.len
  have hnp:=h.ok.mine.places
  obtain ⟨start,hstart⟩:∃start,start=ps.l.getD u.toNat 0:=⟨_,rfl⟩
  have hget:ps.l[u.toNat]?=some start:=by rw [hstart];exact Jan (l:=ps.l) (k:=u.toNat) 0 (by omega)
  have hb:-70368744177664≤start∧start≤70368744177664:=by rw [hstart];exact h.pres.get u.toNat
  have hst:=Jnp (s:=s) (start:=start) h.ok (ps:=ps.l) (v:=u) (by omega)
  have hself:ps.l.set u.toNat start=ps.l:=by rw [hstart];exact Jgq
  have hgs:∀y,(ps.l.set u.toNat y)[u.toNat]?=some y:=fun y=>by rw [List.getElem?_set_self (by omega)]
  have hsg:∀j:Int,start + sgn false * j=start - j:=fun j=>by simp [sgn];omega
  have hrm:Jki false start=start + 70368744177664:=rfl
  rw [← hstart]
  refine Jae 86 Tryz.call131 Tryz.func131 rfl rfl rfl ?_
  refine Xai ?_
  intro b4
  refine qax ?_
  intro b5
  refine qad ?_
  refine Xbr ?_
  refine qbm ?_
  refine J1g ?_
  rintro v L' R' ⟨o15,rfl,hok15,rfl,rfl⟩
  refine Xdo ?_
  have hok2:∀z,(⟨o15,ps.l.set u.toNat z⟩:OwL Int).ok 1 Jad:=fun z=>OwL.len_ok Jcc hok15 (by simp)
  refine J6n ?_
  refine Xd8 ?_
  refine Xad ?_
  refine q_l rfl (Jr9 (o:=o15) (y:=start) h hb (by repeat (first | exact Jaw | apply Jau | apply Jba)) (hok2 start)) ?_
  refine Xdu ?_
  refine q_c (fun hc0=>?_) (fun hc0=>?_)
  ·
   have hoks:=hok2 start
   have hgy:=hgs start
   refine qae ?_
   refine Xad ?_
   refine J1k ?_
   refine J15 ?_
   refine qad ?_
   refine Xcj ?_
   refine q_r (L':=L) (R':=R) (Jc8 rfl (Jah (show _=Value.int _ _ from rfl)) (Jah (show _=Value.bool _ from rfl))) ?_
   exact J84
  have hoks:=hok2 start
  have hgy:=hgs start
  have hf0:Jjm a s ps.l u start=false:=decide_eq_false hc0
  refine qbv ?_
  refine Xad ?_
  refine J1k ?_
  refine J15 ?_
  refine qad ?_
  refine Xd9 ?_
  refine Jd8 [8,9,11,12,30,31,32,33,34,35,36,37,38,39,40,41,42,43,44,45,46,47,48,49,50,51,52,53] ((⟨fun q=>[(11,.int .i64 q.1.1)],fun q=>(⟨o15,ps.l.set u.toNat q.1.2.2⟩:OwL Int).L 3 Jad ++ (⟨b5,s.cells,25⟩ :: ⟨b4,a.cells,35⟩ :: L),fun _=>R,fun _=>0⟩:Head {q:Int×Int×Int // (-70368744177664≤q.1∧q.1≤start)∧Jjm a s ps.l u q.1=false∧(-70368744177664≤q.2.2∧q.2.2 < q.1)∧Jjm a s ps.l u q.2.2=true})) ?_ ?_
  ·
   refine Ja1 ?_
   refine Jb8 [8,9,11,12,30,31,32,33,34,35,36,37,38,39,40,41,42,43,44,45,46,47,48,49,50,51,52,53] (by repeat (first | apply Off.upd rfl | apply Off.havoc rfl | refine Off.updL (t':=havoc _ _ _) rfl ?_ | exact Off.refl)) [(11,Value.int _ _),(12,Value.int _ _)] (by repeat' (first | exact trivial | refine And.intro rfl ?_)) fun tq0=>?_
   refine q_p [8,9,11,12,30,31,32,33,34,35,36,37,38,39,40,41,42,43,44,45,46,47,48,49,50,51,52,53] ((⟨fun q=>[(11,.int .i64 q.1.1),(12,.int .i64 q.1.2.1)],fun q=>(⟨o15,ps.l.set u.toNat q.1.2.2⟩:OwL Int).L 3 Jad ++ (⟨b5,s.cells,25⟩ :: ⟨b4,a.cells,35⟩ :: L),fun _=>R,fun q=>(q.1.1 + 70368744177664).toNat⟩:Head {q:Int×Int×Int // (-70368744177664≤q.1∧q.1≤start)∧Jjm a s ps.l u q.1=false∧q.2.1=start - q.1 + 1})) (⟨(start,1,start),by dsimp only;omega,hf0,by dsimp only;omega⟩) ?_
   rintro ⟨⟨low,step,y⟩,j1,j2,j3⟩ junk
   try dsimp only
   dsimp only at j1 j2 j3
   have hoky:=hok2 y
   have hgy:=hgs y
   refine Ja1 (Jam (Jaf ?_))
   refine qbm ?_
   iterate 3 refine qaa ?_
   refine qa9 ?_
   refine Ja2 (Jl7 rfl rfl) rfl ?_
   refine J1x ?_
   refine Jfa (Jas tb ((⟨o15,ps.l.set u.toNat y⟩:OwL Int)) (max (low - step) (-70368744177664)) rfl rfl rfl rfl (by repeat (first | apply OSeg.cons | exact OSeg.here | exact OSeg.last | exact OSeg.at (by assumption) | apply OSeg.app)) (by assumption) (fun _=>rfl) (by assumption) (by decide) (by rfl) (by rfl)) ?_
   rintro v L' R' ⟨rfl,rfl⟩
   refine qco ?_
   obtain ⟨w,hw⟩:∃w,w=max (low - step) (-70368744177664):=⟨_,rfl⟩
   have hwb:-70368744177664≤w∧w≤low∧(-70368744177664 < w→w=low - step):=by omega
   rw [← hw]
   refine Jg5 (by rw [List.set_set]) ?_
   have hokw:=hok2 w
   have hgw:=hgs w
   refine Xd8 ?_
   refine Xad ?_
   refine q_l rfl (Jr9 (o:=o15) (y:=w) h (by omega) (by repeat (first | exact Jaw | apply Jau | apply Jba)) (hok2 w)) ?_
   refine Xdu ?_
   refine q_c (fun hc1=>?_) (fun hc1=>?_)
   ·
    refine Jb6 (Jbk ?_)
    refine Jmw rfl ?_
    refine Jcf (Ja6 ?_)
    have hgt:Jjm a s ps.l u w=true:=decide_eq_true hc1
    have hne:low≠w:=fun e=>by rw [e,hgt] at j2;cases j2
    exact Jeh ⟨(low,step,w),j1,j2,by dsimp only;omega,hgt⟩ (by repeat (first | exact Off.refl | apply Off.upd rfl | apply Off.havoc rfl | apply Off.updL rfl | apply Off.left rfl | apply Off.leftu rfl)) (by repeat' (first | exact trivial | refine And.intro rfl ?_)) (by repeat (first | exact zs0 _ | exact zs1 _ | apply zs2 | apply zs3 | apply zs4 | apply zs5)) (Jac _)
   have hgf:Jjm a s ps.l u w=false:=decide_eq_false hc1
   refine qbo ?_
   refine Xad ?_
   refine J10 ?_
   refine J22 ?_
   refine Xbq ?_
   refine q_c (fun hc2=>?_) (fun hc2=>?_)
   ·
    refine Xaj ?_
    refine qaz ?_
    refine Ja9 (Jaa (Jc5 (Ja7 (Jay (Jcm (Jay (Jhb ?_)))))))
    refine q_r (L':=L) (R':=R) (Jc8 rfl (Jah (show _=Value.int _ _ from rfl)) (Jah (show _=Value.bool _ from rfl))) ?_
    refine ⟨0,false,rfl,⟨(fun h=>by cases h),fun _=>⟨rfl,fun j h1 h2=>?_⟩⟩,rfl,rfl⟩
    refine hst.no h1 h2 (Int.le_refl _) ?_
    rw [hsg,hrm,show start - (start + 70368744177664)=w from by omega];exact hgf
   refine qbv ?_
   refine Xad ?_
   refine J10 ?_
   refine J22 ?_
   refine qad ?_
   refine Ja9 (Jaa (Jaf ?_))
   refine Xdt ?_
   refine qad ?_
   refine Ja9 (Jao ?_)
   exact q_k ⟨(w,step * 2,w),by dsimp only;omega,hgf,by dsimp only;omega⟩
  rintro ⟨⟨low,step,y⟩,j1,j2,j3,j4⟩ junk
  try dsimp only
  dsimp only at j1 j2 j3 j4
  have hoky:=hok2 y
  have hgy:=hgs y
  refine qae ?_
  refine Xad ?_
  refine J1x ?_
  refine J8g ?_
  refine qad ?_
  refine Ja9 (Jaa (Jam (Ja1 ?_)))
  refine Jai [(3,Value.int _ _),(4,Value.pointer _),(5,Value.pointer _),(10,Value.slice _ _ _),(11,Value.int _ _),(13,Value.int _ _)] (by repeat' (first | exact trivial | refine And.intro rfl ?_)) fun tq1=>?_
  refine q_p [11,13,58,59,60,61,62,63,64,65,66,67,68,69,70,71,72,73,74,75,76,77,78,79,80,81,82,83,84] ((⟨fun q=>[(11,.int .i64 q.1.1),(13,.int .i64 q.1.2.1)],fun q=>(⟨o15,ps.l.set u.toNat q.1.2.2⟩:OwL Int).L 3 Jad ++ (⟨b5,s.cells,25⟩ :: ⟨b4,a.cells,35⟩ :: L),fun _=>R,fun q=>(q.1.1 - q.1.2.1).toNat⟩:Head {q:Int×Int×Int // (-70368744177664≤q.2.1∧q.2.1 < q.1∧q.1≤start)∧Jjm a s ps.l u q.1=false∧Jjm a s ps.l u q.2.1=true})) (⟨(low,y,y),by dsimp only;omega,j2,j4⟩) ?_
  rintro ⟨⟨hi,lo,z⟩,q1,q2,q3⟩ junk
  try dsimp only
  dsimp only at q1 q2 q3
  have hokz:=hok2 z
  have hgz:=hgs z
  refine Xaq ?_
  refine Xam ?_
  refine Xao ?_
  refine q_c (fun hc3=>?_) (fun hc3=>?_)
  ·
   obtain ⟨mid,hmid⟩:∃mid,mid=lo + (hi - lo).tdiv 2:=⟨_,rfl⟩
   have hmb:lo < mid∧mid < hi:=by rw [Int.tdiv_eq_ediv_of_nonneg (by omega)] at hmid;omega
   have hdv:0≤(hi - lo).tdiv 2∧(hi - lo).tdiv 2≤hi - lo:=by rw [Int.tdiv_eq_ediv_of_nonneg (by omega)];omega
   refine Ja3 (Jaa (Ja1 (Jam (Jaf ?_))))
   refine qbm ?_
   iterate 4 refine qaa ?_
   refine qa9 ?_
   refine qdd ?_
   refine qar ?_
   refine J6x ?_
   refine J80 ?_
   rintro v L' R' ⟨rfl,rfl⟩
   refine qa4 ?_
   rw [← hmid]
   refine Jg5 (by rw [List.set_set]) ?_
   have hokm:=hok2 mid
   have hgm:=hgs mid
   refine Xd8 ?_
   refine Xad ?_
   refine q_l rfl (Jr9 (o:=o15) (y:=mid) h (by omega) (by repeat (first | exact Jaw | apply Jau | apply Jba)) (hok2 mid)) ?_
   refine Xdu ?_
   refine q_c (fun hc4=>?_) (fun hc4=>?_)
   ·
    refine Xby ?_
    refine J2s ?_
    refine J13 ?_
    refine qad ?_
    refine Ja9 (Jao ?_)
    exact q_k ⟨(hi,mid,mid),by dsimp only;omega,q2,decide_eq_true hc4⟩
   refine Xby ?_
   refine J2s ?_
   refine J13 ?_
   refine qad ?_
   refine Ja9 (Jao ?_)
   exact q_k ⟨(mid,lo,mid),by dsimp only;omega,decide_eq_false hc4,q3⟩
  refine Xc6 ?_
  refine Xbb ?_
  refine q_r (L':=L) (R':=R) (Jc8 rfl (Jah (show _=Value.int _ _ from rfl)) (Jah (show _=Value.bool _ from rfl))) ?_
  refine ⟨lo,true,rfl,⟨fun _=>⟨start - lo,by omega,by rw [hrm];omega,by rw [hsg];omega,q3,fun j h1 h2=>?_⟩,fun h=>by cases h⟩,rfl,rfl⟩
  refine hst.no h1 (show j≤start - hi by omega) (by rw [hrm];omega) ?_
  rw [hsg,show start - (start - hi)=hi from by omega];exact q2
end Go.Proofs.YtihompplndcdeaaGreat
end
section
namespace Go.Proofs.YtihompplndcdeaaGreat
open Go.Aw Go
set_option maxRecDepth 20000
attribute [local irreducible] CJ LJ DJ Tri YV Gives Jd5 Jbd Jbz Jd4 RV Jbf OwL.L
theorem Jgb {ps:List Int} (h:ps.findSome? Jcb=none):PresOk ps:=fun p hp=>by
  obtain ⟨i,hi⟩:=List.mem_iff_getElem?.1 hp
  exact Jso h i p hi
theorem Jj5 {ps:List Int} (h:PresOk ps):ps.findSome? Jcb=none:=List.findSome?_eq_none_iff.2 fun p hp=>by
  have:=h p hp
  exact if_neg (by omega)
section
variable {a:XAir} {s:XSetting} {ps:Arr Int} {v:Int}
end
end Go.Proofs.YtihompplndcdeaaGreat
end
section
namespace Go.Proofs.YtihompplndcdeaaGreat
open Go.Aw Go
end Go.Proofs.YtihompplndcdeaaGreat
end
