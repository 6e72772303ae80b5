/-
  Texts of one chapter, merged. By an AI agent; no person has read it.
-/
import Derived.Test.YtchfclmokpbldaaGreatSiteS
set_option linter.unusedVariables false
set_option linter.unusedSimpArgs false
set_option maxRecDepth 20000
namespace Go.Proofs.YtchfclmokpbldaaGreat
open Go.Aw Go
section
attribute [local irreducible] CJ LJ DJ Tri YV Gives Ui J0 Ke Uh RV J2 OwL.L
section
variable {A9 B9:Prop}
theorem Uic (a:A9) (h:A9→B9:=by exact Jx zkb rfl):B9:=h a
theorem Yte (a:A9) (h:A9→B9:=by exact Jx zHb rfl):B9:=h a
theorem Yze (a:A9) (h:A9→B9:=by exact Voa (v:=Value.bool _) tb rfl rfl rfl rfl zA zea zaa zb):B9:=h a
theorem Vbf (h:B9:=by exact ⟨by rw [hE,Y5,if_neg h3,if_neg (by rw [ho];decide),if_neg h5,if_pos (by first | (rw [if_pos hc6];omega) | (rw [if_neg hc6];omega))],rfl,rfl⟩):B9:=h
theorem Jof (h:B9:=by exact ⟨by rw [hE,Y5,if_neg h3,if_neg (by rw [ho];decide),if_neg h5,if_neg (by first | (rw [if_pos hc6];omega) | (rw [if_neg hc6];omega))];first | (rw [if_pos hc6,ho];done) | (rw [if_neg hc6,ho];done),rfl,rfl⟩):B9:=h
end
theorem Ub (l:XLevel) (L:List Blk) (R:List Sl):
    Tri Tryz.prog 177 [l.val].toArray L R (fun v L' R'=>v=.int .i64 (Jga l)∧L=L'∧R=R'):=by
  refine Jg 28 Tryz.call177 Tryz.func177 rfl rfl rfl ?_
  refine Xag ?_
  intro b1
  refine Xas ?_
  refine Xa1 ?_
  refine qah ?_
  apply J9 (G:=[_,_,_]) (j:=3) (cj:=6) rfl rfl zb rfl zdb rfl
  ·
   intro hg4
   replace hg4:=qb hg4
   exact znd
  intro junk4
  refine qah ?_
  apply J9 (G:=[_,_,_,_,_]) (j:=8) (cj:=11) rfl rfl zb rfl zdb rfl
  ·
   intro hg9
   replace hg9:=qb hg9
   refine Xbe ?_
   exact zid
  intro junk9
  refine qah ?_
  apply J9 (G:=[_,_,_]) (j:=15) (cj:=18) rfl rfl zb rfl zdb rfl
  ·
   intro hg16
   replace hg16:=qb hg16
   exact znd
  intro junk16
  refine qah ?_
  apply J9 (G:=[_,_,_]) (j:=20) (cj:=23) rfl rfl zb rfl zdb rfl
  ·
   intro hg21
   replace hg21:=qb hg21
   exact zgd
  intro junk21
  refine qaf ?_
  refine q_c (fun hc0=>?_) (fun hc0=>?_)
  ·
   refine Xa5 ?_
   refine q_i (L':=L) (R':=R) ?_
   exact ⟨by (try simp at hc0);rw [Jga,if_neg (by rw [Z0];omega)],rfl,rfl⟩
  refine Xcf ?_
  refine q_i (L':=L) (R':=R) ?_
  exact ⟨by (try simp at hc0);rw [Jga,if_pos (by rw [Z0];omega)],rfl,rfl⟩
theorem V1b (x:XSpan) (n:Int) (L:List Blk) (R:List Sl):
    Tri Tryz.prog 230 [x.val,.int .i64 n].toArray L R (fun v L' R'=>v=.int .i64 (Zy x n)∧L=L'∧R=R'):=by
  refine Jg 21 Tryz.call230 Tryz.func230 rfl rfl rfl ?_
  refine Xag ?_
  intro b2
  refine qad ?_
  refine J6 (Jb (Jn (Kg (Jn (Jh ?_)))))
  refine Xaa ?_
  refine Xa1 ?_
  refine Xao ?_
  refine q_c (fun hc0=>?_) (fun hc0=>?_)
  ·
   refine Xa6 ?_
   refine q_i (L':=L) (R':=R) ?_
   exact ⟨by rw [Zy,if_pos hc0],rfl,rfl⟩
  refine qae ?_
  refine Xam ?_
  refine qbz ?_
  refine Xao ?_
  refine q_c (fun hc1=>?_) (fun hc1=>?_)
  ·
   refine Xa6 ?_
   refine q_i (L':=L) (R':=R) ?_
   exact ⟨by rw [Zy,if_neg za,if_pos hc1],rfl,rfl⟩
  refine qae ?_
  refine Xam ?_
  refine qaj ?_
  refine Xao ?_
  refine q_c (fun hc2=>?_) (fun hc2=>?_)
  ·
   refine Xa6 ?_
   refine q_i (L':=L) (R':=R) ?_
   exact ⟨by rw [Zy,if_neg za,if_neg za,if_pos hc2],rfl,rfl⟩
  refine J5 (Ji (Jb (Jn (Jh ?_))))
  refine Xah ?_
  refine q_i (L':=L) (R':=R) ?_
  exact ⟨by rw [Zy,if_neg za,if_neg za,if_neg za],rfl,rfl⟩
theorem Kub {l:XLevel}:Jga l=0↔Z0 l:=by rw [Jga];split <;> simp_all
theorem Jac {l:XLevel} {w:XWatch} {t:Int} (h1:Z0 l) (h2:¬ (t < 0∨2147483648 < t∨t < w.last)) (h3:Kxa w):Yk l w t=0:=by
  rw [Yk,if_neg (fun h=>h h1),if_neg h2,if_neg (fun h=>h h3)]
theorem Kkc {l:XLevel} {w:XWatch} {x:XSpan} {t:Int} {e:Int} (h:Yk l w t=e) (he:e≠0):Zcd l w x t=Jve:=by
  rw [Zcd,if_neg za]
theorem Kcd {l:XLevel} {w:XWatch} {x:XSpan} {t:Int} (h:Yk l w t=0):Zcd l w x t=Y5 l w x t:=by
  rw [Zcd,if_pos h]
theorem Uoe (l:XLevel) (w:XWatch) (x:XSpan) (t:Int) (L:List Blk) (R:List Sl):
    Tri Tryz.prog 228 [l.val,w.val,x.val,.int .i64 t].toArray L R (fun v L' R'=>v=.tuple #[(Zcd l w x t).val,.int .i64 (Yk l w t)]∧L=L'∧R=R'):=by
  refine Jg 97 Tryz.call228 Tryz.func228 rfl rfl rfl ?_
  refine Xag ?_
  intro b4
  refine qax ?_
  intro b5
  refine qax ?_
  intro b6
  refine qaq ?_
  intro b8
  refine Xas ?_
  refine Uic ?_
  refine q_l rfl (Ub l _ _) ?_
  refine Xa7 ?_
  refine q_c (fun hc0=>?_) (fun hc0=>?_)
  ·
   refine qae ?_
   refine Yte ?_
   refine Xby ?_
   refine q_r (L':=L) (R':=R) zNc ?_
   have hl:¬ Z0 l:=fun h=>by rw [Kub.2 h] at hc0;omega
   have hE:Yk l w t=1:=by rw [Yk,if_pos hl]
   exact ⟨by rw [hE,Kkc hE zc,Jga,if_neg hl];rfl,rfl,rfl⟩
  have hl:Z0 l:=Kub.1 za
  refine qbo ?_
  refine Xb5 ?_
  apply J9 (G:=[_,_]) (j:=2) (cj:=19) rfl rfl zb rfl zdb rfl
  ·
   exact zdd
  intro junk3
  refine qah ?_
  apply J9 (G:=[_,_,_,_]) (j:=6) (cj:=23) rfl rfl zb rfl zdb rfl
  ·
   intro hg7
   replace hg7:=qb hg7
   refine qaa ?_
   exact znd
  intro junk7
  refine qaf ?_
  refine q_c (fun hc1=>?_) (fun hc1=>?_)
  ·
   refine qae ?_
   refine Yte ?_
   refine Xaz ?_
   refine q_r (L':=L) (R':=R) zNc ?_
   have hE:Yk l w t=8:=by rw [Yk,if_neg (fun h=>h hl),if_pos (by (try simp at hc1);omega)]
   exact ⟨by rw [hE,Kkc hE zc];rfl,rfl,rfl⟩
  have ht:¬ (t < 0∨2147483648 < t∨t < w.last):=by (try simp at hc1);omega
  refine qbo ?_
  refine Xbg ?_
  apply J9 (G:=[_,_,_]) (j:=3) (cj:=33) rfl rfl zb rfl zdb rfl
  ·
   exact zZc
  intro junk4
  refine qah ?_
  apply J9 (G:=[_,_,_]) (j:=8) (cj:=38) rfl rfl zb rfl zdb rfl
  ·
   exact zUd
  intro junk9
  refine qah ?_
  apply J9 (G:=[_,_,_,_,_]) (j:=13) (cj:=43) rfl rfl zb rfl zdb rfl
  ·
   intro hg14
   replace hg14:=qb hg14
   refine Xaa ?_
   exact zgd
  intro junk14
  refine qah ?_
  apply J9 (G:=[_,_,_,_,_,_,_,_]) (j:=20) (cj:=50) rfl rfl zb rfl zdb rfl
  ·
   intro hg21
   replace hg21:=qb hg21
   refine Xaa ?_
   refine Xbx ?_
   apply Ur (G:=[_,_,_]) (j:=24) (cj:=54) rfl rfl zb rfl zdb rfl
   ·
    intro hg25
    replace hg25:=qb hg25
    refine Xaa ?_
    refine qb4 ?_
    exact qai
   intro junk25
   exact qai
  intro junk21
  refine qaf ?_
  refine q_c (fun hc2=>?_) (fun hc2=>?_)
  ·
   refine qae ?_
   refine Yte ?_
   refine Xaz ?_
   refine q_r (L':=L) (R':=R) zNc ?_
   have hE:Yk l w t=10:=by
     rw [Yk,if_neg (fun h=>h hl),if_neg ht,if_pos]
     rw [Kxa]
     cases ho:w.over <;> simp [ho] at hc2 ⊢ <;> omega
   exact ⟨by rw [hE,Kkc hE zc];rfl,rfl,rfl⟩
  have hE:Yk l w t=0:=Jac hl ht (by
    rw [Kxa]
    cases ho:w.over <;> simp [ho] at hc2 ⊢ <;> omega)
  rw [Kcd hE]
  refine qbv ?_
  refine qaa ?_
  refine Xbj ?_
  refine J6 (Jb (Jn (Kg (Jn (Jh ?_)))))
  refine qbe ?_
  refine Xaa ?_
  refine q_l rfl (V1b x l.cut _ _) ?_
  refine qbq ?_
  refine Xao ?_
  refine q_c (fun hc3=>?_) (fun hc3=>?_)
  ·
   refine qay ?_
   refine qab ?_
   refine Yze ?_
   refine Xbj ?_
   refine J6 (Ji (Jb (Jn (Jh ?_))))
   refine Uic ?_
   refine Xbl ?_
   refine q_r (L':=L) (R':=R) zNc ?_
   exact ⟨by rw [hE,Y5,if_pos hc3],rfl,rfl⟩
  have h3:¬ Zy x l.cut≠-1:=hc3
  refine Xb8 ?_
  refine qb4 ?_
  refine Xao ?_
  refine q_c (fun hc4=>?_) (fun hc4=>?_)
  ·
   refine J5 (Ji (Jb (Jn (Jh ?_))))
   refine Uic ?_
   refine Xbl ?_
   refine q_r (L':=L) (R':=R) zNc ?_
   exact ⟨by rw [hE,Y5,if_neg h3,if_pos zQ];first | rfl | rw [show w.over=false by simpa using hc4],rfl,rfl⟩
  have ho:w.over=true:=by simpa using hc4
  refine Xb8 ?_
  refine Xa1 ?_
  refine Xao ?_
  refine q_c (fun hc5=>?_) (fun hc5=>?_)
  ·
   refine qay ?_
   refine Xbj ?_
   refine J6 (Ji (Jb (Jn (Jh ?_))))
   refine Uic ?_
   refine Xbl ?_
   refine q_r (L':=L) (R':=R) zNc ?_
   exact ⟨by rw [hE,Y5,if_neg h3,if_neg (by rw [ho];decide),if_pos za];first | rfl | rw [ho],rfl,rfl⟩
  have h5:¬ l.clear < x.high:=by omega
  refine qbi ?_
  refine Xaa ?_
  refine Xbo ?_
  refine q_c (fun hc6=>?_) (fun hc6=>?_)
  ·
   refine Xa3 ?_
   refine Xbj ?_
   refine Xde ?_
   refine Xaa ?_
   refine qa9 ?_
   refine Xaa ?_
   refine Xcj ?_
   refine q_c (fun hc7=>?_) (fun hc7=>?_)
   ·
    exact zvd
   exact zJd
  refine qbv ?_
  refine qaa ?_
  refine Xaa ?_
  refine qa9 ?_
  refine Xaa ?_
  refine Xcj ?_
  refine q_c (fun hc7=>?_) (fun hc7=>?_)
  ·
   exact zvd
  exact zJd
end
section
def Zwb (l:List XNode) (j:Nat):Prop:=
  ((l.getD j default).kind=1∧0≤(l.getD j default).cond∧(l.getD j default).cond < 64)∨
  ((l.getD j default).kind=2∧1≤j∧(l.getD j default).left=(j:Int) - 1)∨
  (((l.getD j default).kind=3∨(l.getD j default).kind=4)∧1≤j∧(l.getD j default).right=(j:Int) - 1∧0≤(l.getD j default).left∧(l.getD j default).left < (j:Int))
theorem Kpa {l : List XNode} : ∀ (n : Nat) (i f d : Int), Zv l n i = some (f, d) → (0 ≤ f ∧ f ≤ i) ∧ (1 ≤ d ∧ d ≤ n) ∧ ∀ j : Nat, f ≤ (j : Int) → (j : Int) ≤ i → Zwb l j
  | 0,i,f,d,h=>by rw [Zv] at h;cases h
  | n + 1,i,f,d,h=>by
    rw [Zv] at h
    split at h
    · cases h
    rename_i hi
    have at_i:∀j:Nat,(j:Int)=i→l.getD j default=l.getD i.toNat default:=fun j hj=>by rw [← hj,Int.toNat_natCast]
    split at h
    · rename_i h1
      split at h
      · rename_i h2
        cases h
        refine ⟨by omega,by omega,fun j j1 j2=>?_⟩
        have hj:=at_i j za
        rw [Zwb,hj]
        exact .inl ⟨h1,h2.2.2.1,h2.2.2.2⟩
      · cases h
    split at h
    · rename_i h1
      split at h
      · cases h
      rename_i f' d' hp
      split at h
      · rename_i h2
        cases h
        obtain ⟨i1,i2,i3⟩:=Kpa n _ _ _ hp
        refine ⟨by omega,by omega,fun j j1 j2=>?_⟩
        by_cases hj:(j:Int)=i
        · have hj' := at_i j hj
          rw [Zwb,hj']
          exact .inr (.inl ⟨h1,by omega,by omega⟩)
        · exact i3 j j1 za
      · cases h
    split at h
    · rename_i h1
      split at h
      · cases h
      rename_i m r hp
      split at h
      · rename_i h2
        split at h
        · cases h
        rename_i f' q hq
        cases h
        obtain ⟨i1,i2,i3⟩:=Kpa n _ _ _ hp
        obtain ⟨k1,k2,k3⟩:=Kpa n _ _ _ hq
        refine ⟨by omega,by omega,fun j j1 j2=>?_⟩
        by_cases hj:(j:Int)=i
        · have hj' := at_i j hj
          rw [Zwb,hj']
          exact .inr (.inr ⟨h1,by omega,by omega,by omega,by omega⟩)
        · rcases Int.lt_or_le (j : Int) m with hm | hm
          · exact k3 j j1 za
          · exact i3 j hm za
      · cases h
    · cases h
theorem J7b {l:List XNode}:Kla l=true↔(1≤l.length∧l.length≤64)∧∃d,Zv l l.length ((l.length:Int) - 1)=some (0,d)∧d≤16:=by
  rw [Kla,Bool.and_eq_true,decide_eq_true_eq]
  constructor
  · rintro ⟨h1, h2⟩
    refine ⟨h1,?_⟩
    split at h2
    · cases h2
    · rename_i f d hp
      simp only [decide_eq_true_eq] at h2
      obtain ⟨rfl,hd⟩:=h2
      exact ⟨d,hp,hd⟩
  · rintro ⟨h1, d, hp, hd⟩
    refine ⟨h1,?_⟩
    rw [hp]
    simpa using hd
theorem Zuc {l:List XNode} (h:Kla l=true) (j:Nat) (hj:j < l.length):Zwb l j:=by
  obtain ⟨h1,d,hp,_⟩:=J7b.1 h
  exact (Kpa _ _ _ _ hp).2.2 j za za
theorem Vz {l : List XNode} {vals : List Int} : ∀ k, (Ul l vals k).length = k
  | 0=>rfl
  | k + 1=>by rw [Ul,List.length_append,Vz k];rfl
theorem Z8 {l : List XNode} {vals : List Int} : ∀ {k j : Nat}, j < k → (Ul l vals k).getD j 0 = Uua vals (Ul l vals j) (l.getD j default)
  | 0,j,h=>by omega
  | k + 1,j,h=>by
    have hl:=Vz (l:=l) (vals:=vals) k
    rw [Ul,List.getD_eq_getElem?_getD]
    rcases Nat.lt_or_ge j k with h1 | h1
    · rw [List.getElem?_append_left za, ← List.getD_eq_getElem?_getD]
      exact Z8 h1
    · obtain rfl : j = k := by omega
      rw [List.getElem?_append_right za,hl,Nat.sub_self]
      rfl
def Kl (a b:Int):Prop:=(-1≤a∧a≤1)∧(-1≤b∧b≤1)∧(a=0∨a=b)
theorem Vbe {vals vals' v v':List Int} {x:XNode} (hn:vals.length=vals'.length) (hv:∀j:Nat,vals.getD j 0=0∨vals.getD j 0=vals'.getD j 0) (hr:∀j:Nat,-1≤vals'.getD j 0∧vals'.getD j 0≤1) (h:∀j:Nat,Kl (v.getD j 0) (v'.getD j 0)):Kl (Uua vals v x) (Uua vals' v' x):=by
  have h1:=h x.left.toNat
  have h2:=h x.right.toNat
  rw [Kl] at h1 h2
  rw [Uua,Uua]
  split
  · have h3 := hv x.cond.toNat
    have h4:=hr x.cond.toNat
    rw [Z9c,Z9c,← hn,Kl]
    split <;> split <;> omega
  split
  · rw [Kl];omega
  split
  · rw [Kl];omega
  · rw [Kl];omega
theorem U4c {l : List XNode} {vals vals' : List Int} (hn : vals.length = vals'.length) (hv : ∀ j : Nat, vals.getD j 0 = 0 ∨ vals.getD j 0 = vals'.getD j 0) (hr : ∀ j : Nat, -1 ≤ vals'.getD j 0 ∧ vals'.getD j 0 ≤ 1) : ∀ k j : Nat, Kl ((Ul l vals k).getD j 0) ((Ul l vals' k).getD j 0)
  | 0,j=>by rw [Ul,Ul];simp [Kl]
  | k + 1,j=>by
    have hl:=Vz (l:=l) (vals:=vals) k
    have hl':=Vz (l:=l) (vals:=vals') k
    rcases Nat.lt_or_ge j (k + 1) with h1 | h1
    · rw [Z8 h1, Z8 h1]
      rcases Nat.lt_or_ge j k with h2 | h2
      · have := U4c (l := l) hn hv hr k j
        rw [Z8 h2,Z8 h2] at this
        exact this
      · obtain rfl : j = k := by omega
        exact Vbe hn hv hr (U4c hn hv hr j)
    · have e1 : (Ul l vals (k + 1)).length = k + 1 := Vz _
      have e2:(Ul l vals' (k + 1)).length=k + 1:=Vz _
      rw [List.getD_eq_getElem?_getD,List.getD_eq_getElem?_getD,List.getElem?_eq_none za,List.getElem?_eq_none za]
      simp [Kl]
theorem Y4c {vals v:List Int} {x:XNode} (h:∀j:Nat,-1≤v.getD j 0∧v.getD j 0≤1):-1≤Uua vals v x∧Uua vals v x≤1:=by
  have h1:=h x.left.toNat
  have h2:=h x.right.toNat
  rw [Uua]
  split
  · rw [Z9c];split <;> omega
  split
  · omega
  split <;> omega
theorem Vma {l : List XNode} {vals : List Int} : ∀ k j : Nat, -1 ≤ (Ul l vals k).getD j 0 ∧ (Ul l vals k).getD j 0 ≤ 1
  | 0,j=>by rw [Ul];simp
  | k + 1,j=>by
    rcases Nat.lt_or_ge j (k + 1) with h1 | h1
    · rw [Z8 h1]
      rcases Nat.lt_or_ge j k with h2 | h2
      · have := Vma (l := l) (vals := vals) k j
        rw [Z8 h2] at this
        exact this
      · obtain rfl : j = k := by omega
        exact Y4c (Vma j)
    · have e1 : (Ul l vals (k + 1)).length = k + 1 := Vz _
      rw [List.getD_eq_getElem?_getD,List.getElem?_eq_none za]
      simp
end
end Go.Proofs.YtchfclmokpbldaaGreat
