import Derived.Test.YtchfclmokpbldaaGreatSiteS
set_option linter.unusedVariables false
set_option linter.unusedSimpArgs false
section
/-
  Thresholds: level.Check, level.Step and the reference's; window.Above. By an AI agent; no person has read it.
-/
namespace Go.Proofs.YtchfclmokpbldaaGreat
open Go.Aw Go
set_option maxRecDepth 20000
attribute [local irreducible] CJ LJ DJ Tri YV Gives Jcj Ja1 Jbg Jci RV Ja2 OwL.L
section
variable {A9 B9:Prop}
theorem Jux (a:A9) (h:A9→B9:=by exact Jax (Jal (row:=[_,_,_]) tb rfl rfl rfl zf zb zb) rfl):B9:=h a
theorem J9k (a:A9) (h:A9→B9:=by exact Jax (Jbc (qs:=[]) (out:=[_,_,_]) tb rfl rfl rfl rfl) rfl):B9:=h a
theorem J72 (a:A9) (h:A9→B9:=by exact Jjn (v:=Value.bool _) tb rfl rfl rfl rfl zA zea zaa zb):B9:=h a
theorem J98 (h:B9:=by exact ⟨by rw [hE,Jex,if_neg h3,if_neg (by rw [ho];decide),if_neg h5,if_pos (by first | (rw [if_pos hc6];omega) | (rw [if_neg hc6];omega))],rfl,rfl⟩):B9:=h
theorem Kcg (h:B9:=by exact ⟨by rw [hE,Jex,if_neg h3,if_neg (by rw [ho];decide),if_neg h5,if_neg (by first | (rw [if_pos hc6];omega) | (rw [if_neg hc6];omega))];first | (rw [if_pos hc6,ho];done) | (rw [if_neg hc6,ho];done),rfl,rfl⟩):B9:=h
end
theorem Jb9 (l:XLevel) (L:List Blk) (R:List Sl):
    Tri Tryz.prog 177 [l.val].toArray L R (fun v L' R'=>v=.int .i64 (Jf1 l)∧L=L'∧R=R'):=by
  refine Jad 28 Tryz.call177 Tryz.func177 rfl rfl rfl ?_
  refine Xaf ?_
  intro b1
  refine Xas ?_
  refine Xbg ?_
  refine qah ?_
  apply Ja7 (G:=[_,_,_]) (j:=3) (cj:=6) rfl rfl zb rfl (show _=Value.bool _ from rfl) rfl
  ·
   intro hg4
   replace hg4:=qb hg4
   refine Xcg ?_
   exact qai
  intro junk4
  refine qah ?_
  apply Ja7 (G:=[_,_,_,_,_]) (j:=8) (cj:=11) rfl rfl zb rfl (show _=Value.bool _ from rfl) rfl
  ·
   intro hg9
   replace hg9:=qb hg9
   refine Xa1 ?_
   refine qbz ?_
   exact qai
  intro junk9
  refine qah ?_
  apply Ja7 (G:=[_,_,_]) (j:=15) (cj:=18) rfl rfl zb rfl (show _=Value.bool _ from rfl) rfl
  ·
   intro hg16
   replace hg16:=qb hg16
   refine Xcg ?_
   exact qai
  intro junk16
  refine qah ?_
  apply Ja7 (G:=[_,_,_]) (j:=20) (cj:=23) rfl rfl zb rfl (show _=Value.bool _ from rfl) rfl
  ·
   intro hg21
   replace hg21:=qb hg21
   refine Xbg ?_
   exact qai
  intro junk21
  refine qaf ?_
  refine q_c (fun hc0=>?_) (fun hc0=>?_)
  ·
   refine Xa7 ?_
   refine q_i (L':=L) (R':=R) ?_
   exact ⟨by (try simp at hc0);rw [Jf1,if_neg (by rw [Jfo];omega)],rfl,rfl⟩
  refine Xcf ?_
  refine q_i (L':=L) (R':=R) ?_
  exact ⟨by (try simp at hc0);rw [Jf1,if_pos (by rw [Jfo];omega)],rfl,rfl⟩
theorem Jod (x:XSpan) (n:Int) (L:List Blk) (R:List Sl):
    Tri Tryz.prog 230 [x.val,.int .i64 n].toArray L R (fun v L' R'=>v=.int .i64 (Jfi x n)∧L=L'∧R=R'):=by
  refine Jad 21 Tryz.call230 Tryz.func230 rfl rfl rfl ?_
  refine Xaf ?_
  intro b2
  refine qad ?_
  refine Ja6 (Jab (Jam (Jbd (Jam (Jah ?_)))))
  refine Xa1 ?_
  refine qa5 ?_
  refine Xap ?_
  refine q_c (fun hc0=>?_) (fun hc0=>?_)
  ·
   refine Xa8 ?_
   refine q_i (L':=L) (R':=R) ?_
   exact ⟨by rw [Jfi,if_pos hc0],rfl,rfl⟩
  refine qae ?_
  refine Xal ?_
  refine qbz ?_
  refine Xap ?_
  refine q_c (fun hc1=>?_) (fun hc1=>?_)
  ·
   refine Xa8 ?_
   refine q_i (L':=L) (R':=R) ?_
   exact ⟨by rw [Jfi,if_neg za,if_pos hc1],rfl,rfl⟩
  refine qae ?_
  refine Xal ?_
  refine qaj ?_
  refine Xap ?_
  refine q_c (fun hc2=>?_) (fun hc2=>?_)
  ·
   refine Xa8 ?_
   refine q_i (L':=L) (R':=R) ?_
   exact ⟨by rw [Jfi,if_neg za,if_neg za,if_pos hc2],rfl,rfl⟩
  refine Ja4 (Jag (Jab (Jam (Jah ?_))))
  refine Xah ?_
  refine q_i (L':=L) (R':=R) ?_
  exact ⟨by rw [Jfi,if_neg za,if_neg za,if_neg za],rfl,rfl⟩
theorem Jmz {l:XLevel}:Jf1 l=0↔Jfo l:=by rw [Jf1];split <;> simp_all
theorem Jq1 {l:XLevel} {w:XWatch} {t:Int} (h1:Jfo l) (h2:¬ (t < 0∨2147483648 < t∨t < w.last)) (h3:Jho w):Jd7 l w t=0:=by
  rw [Jd7,if_neg (fun h=>h h1),if_neg h2,if_neg (fun h=>h h3)]
theorem Jse {l:XLevel} {w:XWatch} {x:XSpan} {t:Int} {e:Int} (h:Jd7 l w t=e) (he:e≠0):J28 l w x t=J12:=by
  rw [J28,if_neg za]
theorem Jy9 {l:XLevel} {w:XWatch} {x:XSpan} {t:Int} (h:Jd7 l w t=0):J28 l w x t=Jex l w x t:=by
  rw [J28,if_pos h]
theorem J6u (l:XLevel) (w:XWatch) (x:XSpan) (t:Int) (L:List Blk) (R:List Sl):
    Tri Tryz.prog 228 [l.val,w.val,x.val,.int .i64 t].toArray L R (fun v L' R'=>v=.tuple #[(J28 l w x t).val,.int .i64 (Jd7 l w t)]∧L=L'∧R=R'):=by
  refine Jad 97 Tryz.call228 Tryz.func228 rfl rfl rfl ?_
  refine Xaf ?_
  intro b4
  refine qax ?_
  intro b5
  refine qax ?_
  intro b6
  refine qaq ?_
  intro b8
  refine Xas ?_
  refine Jux ?_
  refine q_l rfl (Jb9 l _ _) ?_
  refine Xa9 ?_
  refine q_c (fun hc0=>?_) (fun hc0=>?_)
  ·
   refine qae ?_
   refine J9k ?_
   refine Xbz ?_
   refine q_r (L':=L) (R':=R) (Jcf rfl (Jao (row:=[_,_,_]) tb rfl rfl rfl zf zb zb) (Jaf (show _=Value.int _ _ from rfl))) ?_
   have hl:¬ Jfo l:=fun h=>by rw [Jmz.2 h] at hc0;omega
   have hE:Jd7 l w t=1:=by rw [Jd7,if_pos hl]
   exact ⟨by rw [hE,Jse hE ze,Jf1,if_neg hl];rfl,rfl,rfl⟩
  have hl:Jfo l:=Jmz.1 za
  refine qbo ?_
  refine Xb0 ?_
  apply Ja7 (G:=[_,_]) (j:=2) (cj:=19) rfl rfl zb rfl (show _=Value.bool _ from rfl) rfl
  ·
   intro hg3
   replace hg3:=qb hg3
   refine Xb5 ?_
   exact qai
  intro junk3
  refine qah ?_
  apply Ja7 (G:=[_,_,_,_]) (j:=6) (cj:=23) rfl rfl zb rfl (show _=Value.bool _ from rfl) rfl
  ·
   intro hg7
   replace hg7:=qb hg7
   refine qaa ?_
   refine Xcg ?_
   exact qai
  intro junk7
  refine qaf ?_
  refine q_c (fun hc1=>?_) (fun hc1=>?_)
  ·
   refine qae ?_
   refine J9k ?_
   refine Xa0 ?_
   refine q_r (L':=L) (R':=R) (Jcf rfl (Jao (row:=[_,_,_]) tb rfl rfl rfl zf zb zb) (Jaf (show _=Value.int _ _ from rfl))) ?_
   have hE:Jd7 l w t=8:=by rw [Jd7,if_neg (fun h=>h hl),if_pos (by (try simp at hc1);omega)]
   exact ⟨by rw [hE,Jse hE ze];rfl,rfl,rfl⟩
  have ht:¬ (t < 0∨2147483648 < t∨t < w.last):=by (try simp at hc1);omega
  refine qbo ?_
  refine Xbi ?_
  apply Ja7 (G:=[_,_,_]) (j:=3) (cj:=33) rfl rfl zb rfl (show _=Value.bool _ from rfl) rfl
  ·
   intro hg4
   replace hg4:=qb hg4
   refine Xbg ?_
   exact qai
  intro junk4
  refine qah ?_
  apply Ja7 (G:=[_,_,_]) (j:=8) (cj:=38) rfl rfl zb rfl (show _=Value.bool _ from rfl) rfl
  ·
   intro hg9
   replace hg9:=qb hg9
   refine Xcg ?_
   exact qai
  intro junk9
  refine qah ?_
  apply Ja7 (G:=[_,_,_,_,_]) (j:=13) (cj:=43) rfl rfl zb rfl (show _=Value.bool _ from rfl) rfl
  ·
   intro hg14
   replace hg14:=qb hg14
   refine Xa1 ?_
   refine qa5 ?_
   exact qai
  intro junk14
  refine qah ?_
  apply Ja7 (G:=[_,_,_,_,_,_,_,_]) (j:=20) (cj:=50) rfl rfl zb rfl (show _=Value.bool _ from rfl) rfl
  ·
   intro hg21
   replace hg21:=qb hg21
   refine Xaa ?_
   refine Xbu ?_
   apply Jb7 (G:=[_,_,_]) (j:=24) (cj:=54) rfl rfl zb rfl (show _=Value.bool _ from rfl) rfl
   ·
    intro hg25
    replace hg25:=qb hg25
    refine Xaa ?_
    refine qb4 ?_
    exact qai
   intro junk25
   exact qai
  intro junk21
  refine qaf ?_
  refine q_c (fun hc2=>?_) (fun hc2=>?_)
  ·
   refine qae ?_
   refine J9k ?_
   refine Xa0 ?_
   refine q_r (L':=L) (R':=R) (Jcf rfl (Jao (row:=[_,_,_]) tb rfl rfl rfl zf zb zb) (Jaf (show _=Value.int _ _ from rfl))) ?_
   have hE:Jd7 l w t=10:=by
     rw [Jd7,if_neg (fun h=>h hl),if_neg ht,if_pos]
     rw [Jho]
     cases ho:w.over <;> simp [ho] at hc2 ⊢ <;> omega
   exact ⟨by rw [hE,Jse hE ze];rfl,rfl,rfl⟩
  have hE:Jd7 l w t=0:=Jq1 hl ht (by
    rw [Jho]
    cases ho:w.over <;> simp [ho] at hc2 ⊢ <;> omega)
  rw [Jy9 hE]
  refine qbv ?_
  refine qaa ?_
  refine Xbh ?_
  refine Ja6 (Jab (Jam (Jbd (Jam (Jah ?_)))))
  refine qbe ?_
  refine Xaa ?_
  refine q_l rfl (Jod x l.cut _ _) ?_
  refine qbq ?_
  refine Xap ?_
  refine q_c (fun hc3=>?_) (fun hc3=>?_)
  ·
   refine qay ?_
   refine qab ?_
   refine J72 ?_
   refine Xbh ?_
   refine Ja6 (Jag (Jab (Jam (Jah ?_))))
   refine Jux ?_
   refine Xbl ?_
   refine q_r (L':=L) (R':=R) (Jcf rfl (Jao (row:=[_,_,_]) tb rfl rfl rfl zf zb zb) (Jaf (show _=Value.int _ _ from rfl))) ?_
   exact ⟨by rw [hE,Jex,if_pos hc3],rfl,rfl⟩
  have h3:¬ Jfi x l.cut≠-1:=hc3
  refine Xb3 ?_
  refine qb4 ?_
  refine Xap ?_
  refine q_c (fun hc4=>?_) (fun hc4=>?_)
  ·
   refine Ja4 (Jag (Jab (Jam (Jah ?_))))
   refine Jux ?_
   refine Xbl ?_
   refine q_r (L':=L) (R':=R) (Jcf rfl (Jao (row:=[_,_,_]) tb rfl rfl rfl zf zb zb) (Jaf (show _=Value.int _ _ from rfl))) ?_
   exact ⟨by rw [hE,Jex,if_neg h3,if_pos zR];first | rfl | rw [show w.over=false by simpa using hc4],rfl,rfl⟩
  have ho:w.over=true:=by simpa using hc4
  refine qae ?_
  refine Xa1 ?_
  refine qa5 ?_
  refine Xap ?_
  refine q_c (fun hc5=>?_) (fun hc5=>?_)
  ·
   refine qay ?_
   refine Xbh ?_
   refine Ja6 (Jag (Jab (Jam (Jah ?_))))
   refine Jux ?_
   refine Xbl ?_
   refine q_r (L':=L) (R':=R) (Jcf rfl (Jao (row:=[_,_,_]) tb rfl rfl rfl zf zb zb) (Jaf (show _=Value.int _ _ from rfl))) ?_
   exact ⟨by rw [hE,Jex,if_neg h3,if_neg (by rw [ho];decide),if_pos za];first | rfl | rw [ho],rfl,rfl⟩
  have h5:¬ l.clear < x.high:=by omega
  refine qbi ?_
  refine Xaa ?_
  refine Xbe ?_
  refine q_c (fun hc6=>?_) (fun hc6=>?_)
  ·
   refine Xa4 ?_
   refine Xbh ?_
   refine Xdi ?_
   refine Xaa ?_
   refine qa9 ?_
   refine Xaa ?_
   refine Xcq ?_
   refine q_c (fun hc7=>?_) (fun hc7=>?_)
   ·
    refine qay ?_
    refine qab ?_
    refine J72 ?_
    refine Xbh ?_
    refine Ja6 (Jag (Jab (Jam (Jah ?_))))
    refine Jux ?_
    refine Xbl ?_
    refine q_r (L':=L) (R':=R) (Jcf rfl (Jao (row:=[_,_,_]) tb rfl rfl rfl zf zb zb) (Jaf (show _=Value.int _ _ from rfl))) ?_
    exact J98
   refine Ja4 (Jag (Jab (Jam (Jah ?_))))
   refine Jux ?_
   refine Xbl ?_
   refine q_r (L':=L) (R':=R) (Jcf rfl (Jao (row:=[_,_,_]) tb rfl rfl rfl zf zb zb) (Jaf (show _=Value.int _ _ from rfl))) ?_
   exact Kcg
  refine qbv ?_
  refine qaa ?_
  refine Xaa ?_
  refine qa9 ?_
  refine Xaa ?_
  refine Xcq ?_
  refine q_c (fun hc7=>?_) (fun hc7=>?_)
  ·
   refine qay ?_
   refine qab ?_
   refine J72 ?_
   refine Xbh ?_
   refine Ja6 (Jag (Jab (Jam (Jah ?_))))
   refine Jux ?_
   refine Xbl ?_
   refine q_r (L':=L) (R':=R) (Jcf rfl (Jao (row:=[_,_,_]) tb rfl rfl rfl zf zb zb) (Jaf (show _=Value.int _ _ from rfl))) ?_
   exact J98
  refine Ja4 (Jag (Jab (Jam (Jah ?_))))
  refine Jux ?_
  refine Xbl ?_
  refine q_r (L':=L) (R':=R) (Jcf rfl (Jao (row:=[_,_,_]) tb rfl rfl rfl zf zb zb) (Jaf (show _=Value.int _ _ from rfl))) ?_
  exact Kcg
end Go.Proofs.YtchfclmokpbldaaGreat
end
section
/-
  Rules: what a right one is, and what more knowledge does to its value. Plain. By an AI agent; no person has read it.
-/
namespace Go.Proofs.YtchfclmokpbldaaGreat
open Go.Aw Go
def Jrh (l:List XNode) (j:Nat):Prop:=
  ((l.getD j default).kind=1∧0≤(l.getD j default).cond∧(l.getD j default).cond < 64)∨
  ((l.getD j default).kind=2∧1≤j∧(l.getD j default).left=(j:Int) - 1)∨
  (((l.getD j default).kind=3∨(l.getD j default).kind=4)∧1≤j∧(l.getD j default).right=(j:Int) - 1∧0≤(l.getD j default).left∧(l.getD j default).left < (j:Int))
theorem Jhi {l : List XNode} : ∀ (n : Nat) (i f d : Int), Jfe l n i = some (f, d) → (0 ≤ f ∧ f ≤ i) ∧ (1 ≤ d ∧ d ≤ n) ∧ ∀ j : Nat, f ≤ (j : Int) → (j : Int) ≤ i → Jrh l j
  | 0,i,f,d,h=>by rw [Jfe] at h;cases h
  | n + 1,i,f,d,h=>by
    rw [Jfe] at h
    split at h
    · cases h
    rename_i hi
    have at_i:∀j:Nat,(j:Int)=i→l.getD j default=l.getD i.toNat default:=fun j hj=>by rw [← hj,Int.toNat_natCast]
    split at h
    · rename_i h1
      split at h
      · rename_i h2
        cases h
        refine ⟨by omega,by omega,fun j j1 j2=>?_⟩
        have hj:=at_i j za
        rw [Jrh,hj]
        exact .inl ⟨h1,h2.2.2.1,h2.2.2.2⟩
      · cases h
    split at h
    · rename_i h1
      split at h
      · cases h
      rename_i f' d' hp
      split at h
      · rename_i h2
        cases h
        obtain ⟨i1,i2,i3⟩:=Jhi n _ _ _ hp
        refine ⟨by omega,by omega,fun j j1 j2=>?_⟩
        by_cases hj:(j:Int)=i
        · have hj' := at_i j hj
          rw [Jrh,hj']
          exact .inr (.inl ⟨h1,by omega,by omega⟩)
        · exact i3 j j1 za
      · cases h
    split at h
    · rename_i h1
      split at h
      · cases h
      rename_i m r hp
      split at h
      · rename_i h2
        split at h
        · cases h
        rename_i f' q hq
        cases h
        obtain ⟨i1,i2,i3⟩:=Jhi n _ _ _ hp
        obtain ⟨k1,k2,k3⟩:=Jhi n _ _ _ hq
        refine ⟨by omega,by omega,fun j j1 j2=>?_⟩
        by_cases hj:(j:Int)=i
        · have hj' := at_i j hj
          rw [Jrh,hj']
          exact .inr (.inr ⟨h1,by omega,by omega,by omega,by omega⟩)
        · rcases Int.lt_or_le (j : Int) m with hm | hm
          · exact k3 j j1 za
          · exact i3 j hm za
      · cases h
    · cases h
theorem Jmq {l:List XNode}:Jhk l=true↔(1≤l.length∧l.length≤64)∧∃d,Jfe l l.length ((l.length:Int) - 1)=some (0,d)∧d≤16:=by
  rw [Jhk,Bool.and_eq_true,decide_eq_true_eq]
  constructor
  · rintro ⟨h1, h2⟩
    refine ⟨h1,?_⟩
    split at h2
    · cases h2
    · rename_i f d hp
      simp only [decide_eq_true_eq] at h2
      obtain ⟨rfl,hd⟩:=h2
      exact ⟨d,hp,hd⟩
  · rintro ⟨h1, d, hp, hd⟩
    refine ⟨h1,?_⟩
    rw [hp]
    simpa using hd
theorem Jww {l:List XNode} (h:Jhk l=true) (j:Nat) (hj:j < l.length):Jrh l j:=by
  obtain ⟨h1,d,hp,_⟩:=Jmq.1 h
  exact (Jhi _ _ _ _ hp).2.2 j za za
theorem Jdv {l : List XNode} {vals : List Int} : ∀ k, (Jck l vals k).length = k
  | 0=>rfl
  | k + 1=>by rw [Jck,List.length_append,Jdv k];rfl
theorem Jfm {l : List XNode} {vals : List Int} : ∀ {k j : Nat}, j < k → (Jck l vals k).getD j 0 = Jim vals (Jck l vals j) (l.getD j default)
  | 0,j,h=>by omega
  | k + 1,j,h=>by
    have hl:=Jdv (l:=l) (vals:=vals) k
    rw [Jck,List.getD_eq_getElem?_getD]
    rcases Nat.lt_or_ge j k with h1 | h1
    · rw [List.getElem?_append_left za, ← List.getD_eq_getElem?_getD]
      exact Jfm h1
    · obtain rfl : j = k := by omega
      rw [List.getElem?_append_right za,hl,Nat.sub_self]
      rfl
def Kl (a b:Int):Prop:=(-1≤a∧a≤1)∧(-1≤b∧b≤1)∧(a=0∨a=b)
theorem J4f {vals vals' v v':List Int} {x:XNode} (hn:vals.length=vals'.length) (hv:∀j:Nat,vals.getD j 0=0∨vals.getD j 0=vals'.getD j 0) (hr:∀j:Nat,-1≤vals'.getD j 0∧vals'.getD j 0≤1) (h:∀j:Nat,Kl (v.getD j 0) (v'.getD j 0)):Kl (Jim vals v x) (Jim vals' v' x):=by
  have h1:=h x.left.toNat
  have h2:=h x.right.toNat
  rw [Kl] at h1 h2
  rw [Jim,Jim]
  split
  · have h3 := hv x.cond.toNat
    have h4:=hr x.cond.toNat
    rw [Jv5,Jv5,← hn,Kl]
    split <;> split <;> omega
  split
  · rw [Kl];omega
  split
  · rw [Kl];omega
  · rw [Kl];omega
theorem Ju9 {l : List XNode} {vals vals' : List Int} (hn : vals.length = vals'.length) (hv : ∀ j : Nat, vals.getD j 0 = 0 ∨ vals.getD j 0 = vals'.getD j 0) (hr : ∀ j : Nat, -1 ≤ vals'.getD j 0 ∧ vals'.getD j 0 ≤ 1) : ∀ k j : Nat, Kl ((Jck l vals k).getD j 0) ((Jck l vals' k).getD j 0)
  | 0,j=>by rw [Jck,Jck];simp [Kl]
  | k + 1,j=>by
    have hl:=Jdv (l:=l) (vals:=vals) k
    have hl':=Jdv (l:=l) (vals:=vals') k
    rcases Nat.lt_or_ge j (k + 1) with h1 | h1
    · rw [Jfm h1, Jfm h1]
      rcases Nat.lt_or_ge j k with h2 | h2
      · have := Ju9 (l := l) hn hv hr k j
        rw [Jfm h2,Jfm h2] at this
        exact this
      · obtain rfl : j = k := by omega
        exact J4f hn hv hr (Ju9 hn hv hr j)
    · have e1 : (Jck l vals (k + 1)).length = k + 1 := Jdv _
      have e2:(Jck l vals' (k + 1)).length=k + 1:=Jdv _
      rw [List.getD_eq_getElem?_getD,List.getD_eq_getElem?_getD,List.getElem?_eq_none za,List.getElem?_eq_none za]
      simp [Kl]
theorem Jxi {vals v:List Int} {x:XNode} (h:∀j:Nat,-1≤v.getD j 0∧v.getD j 0≤1):-1≤Jim vals v x∧Jim vals v x≤1:=by
  have h1:=h x.left.toNat
  have h2:=h x.right.toNat
  rw [Jim]
  split
  · rw [Jv5];split <;> omega
  split
  · omega
  split <;> omega
theorem Jjg {l : List XNode} {vals : List Int} : ∀ k j : Nat, -1 ≤ (Jck l vals k).getD j 0 ∧ (Jck l vals k).getD j 0 ≤ 1
  | 0,j=>by rw [Jck];simp
  | k + 1,j=>by
    rcases Nat.lt_or_ge j (k + 1) with h1 | h1
    · rw [Jfm h1]
      rcases Nat.lt_or_ge j k with h2 | h2
      · have := Jjg (l := l) (vals := vals) k j
        rw [Jfm h2] at this
        exact this
      · obtain rfl : j = k := by omega
        exact Jxi (Jjg j)
    · have e1 : (Jck l vals (k + 1)).length = k + 1 := Jdv _
      rw [List.getD_eq_getElem?_getD,List.getElem?_eq_none za]
      simp
end Go.Proofs.YtchfclmokpbldaaGreat
end
