/-
  Rules: rule.part, rule.right, rule.Check and the reference's. By an AI agent; no person has read it.
-/
import Derived.Test.YtchfclmokpbldaaGreatRuleP
set_option linter.unusedVariables false
set_option linter.unusedSimpArgs false
namespace Go.Proofs.YtchfclmokpbldaaGreat
open Go.Aw Go
set_option maxRecDepth 20000
attribute [local irreducible] CJ LJ DJ Tri YV Gives Jcj Ja1 Jbg Jci RV Ja2 OwL.L
section
variable {A9 B9:Prop}
theorem Jtx (a:A9) (h:A9→B9:=by exact Jbu (Jca (show _=Value.bool _ from rfl)) rfl rfl rfl):B9:=h a
theorem J4a (h:B9:=by exact ⟨i,1,_,rfl,⟨by omega,fun h=>by rw [hpf,if_pos zJ],fun h=>by rw [hpf,if_neg zJ]⟩,rfl,rfl⟩):B9:=h
theorem J73 (a:A9) (h:A9→B9:=by exact Jaw rfl (ih (i - 1) _ za za za) rfl):B9:=h a
theorem Kal (h:B9:=by exact ⟨f,max q r + 1,b2,rfl,⟨by omega,fun h=>by rw [hpf,hP2.yes h],fun h=>by rw [hpf,hP2.no h]⟩,rfl,rfl⟩):B9:=h
theorem Kcf (h:B9:=by exact ⟨0,0,false,rfl,⟨by omega,(fun h=>by cases h),fun _=>by rw [Jfe,if_neg hc0,← hx,if_neg hc1,if_neg hc2,if_neg za]⟩,rfl,rfl⟩):B9:=h
end
structure PartR (l:List XNode) (n:Nat) (i f d:Int) (b:Bool):Prop where
  bnd:0≤d∧d≤n
  yes:b=true→Jfe l n i=some (f,d)
  no:b=false→Jfe l n i=none
theorem Jvm {l : List XNode} {i : Int} (h : i < 0) : ∀ n, Jfe l n i = none
  | 0=>rfl
  | n + 1=>by rw [Jfe,if_pos h]
theorem Jn0 {l:List XNode} {n:Nat} {i:Int} {x:XNode} (h0:¬ i < 0) (hx:x=l.getD i.toNat default) (h1:¬ x.kind=1) (h2:x.kind=2):
    Jfe l (n + 1) i=match Jfe l n (i - 1) with
      | none=>none
      | some (f,d)=>if x.cond=0∧x.right=0∧x.left=i - 1 then some (f,d + 1) else none:=by
  rw [Jfe,if_neg h0,← hx,if_neg h1]
  exact if_pos h2
theorem Jyh {l:List XNode} {n:Nat} {i:Int} {x:XNode} (h0:¬ i < 0) (hx:x=l.getD i.toNat default) (h1:¬ x.kind=1) (h2:¬ x.kind=2) (h3:x.kind=3∨x.kind=4):
    Jfe l (n + 1) i=match Jfe l n (i - 1) with
      | none=>none
      | some (m,r)=>if x.cond=0∧x.right=i - 1∧x.left=m - 1 then
          match Jfe l n (m - 1) with
          | none=>none
          | some (f,q)=>some (f,max q r + 1) else none:=by
  rw [Jfe,if_neg h0,← hx,if_neg h1,if_neg h2]
  exact if_pos h3
theorem Jz4 (l:Arr XNode) (n:Nat) (i:Int) (L:List Blk) (R:List Sl) (hi:i < 0):
    Tri Tryz.prog 175 [l.val,.int .i64 i].toArray L R (fun v L' R'=>∃(f d:Int) (b:Bool),v=.tuple #[.int .i64 f,.int .i64 d,.bool b]∧PartR l.l n i f d b∧L=L'∧R=R'):=by
  refine Jad 122 Tryz.call175 Tryz.func175 rfl rfl rfl ?_
  refine Xac ?_
  refine Xbm ?_
  refine qaw ?_
  refine qaa ?_
  refine Xbe ?_
  refine q_c (fun hc0=>?_) (fun hc0=>?_)
  ·
   refine Xac ?_
   refine Xbm ?_
   refine qbh ?_
   refine q_r (L':=L) (R':=R) (Jnq rfl (Jaf (show _=Value.int _ _ from rfl)) (Jaf (show _=Value.int _ _ from rfl)) (Jaf (show _=Value.bool _ from rfl))) ?_
   exact ⟨0,0,false,rfl,⟨by omega,(fun h=>by cases h),fun _=>Jvm hi n⟩,rfl,rfl⟩
  (exfalso;omega)
theorem Jwf (l : Arr XNode) (n : Nat) (R : List Sl) (hl : InR (J31 l) R) (hn : n ≤ 64)
    (ih:∀(i:Int) (L:List Blk),i < n→i < l.l.length→-1≤i→Tri Tryz.prog 175 [l.val,.int .i64 i].toArray L R (fun v L' R'=>∃(f d:Int) (b:Bool),v=.tuple #[.int .i64 f,.int .i64 d,.bool b]∧PartR l.l n i f d b∧L=L'∧R=R'))
    (i:Int) (L:List Blk) (hi:i < n + 1) (hil:i < l.l.length) (hi1:-1≤i):
    Tri Tryz.prog 175 [l.val,.int .i64 i].toArray L R (fun v L' R'=>∃(f d:Int) (b:Bool),v=.tuple #[.int .i64 f,.int .i64 d,.bool b]∧PartR l.l (n + 1) i f d b∧L=L'∧R=R'):=by
  refine Jad 122 Tryz.call175 Tryz.func175 rfl rfl rfl ?_
  refine Xac ?_
  refine Xbm ?_
  refine qaw ?_
  refine qaa ?_
  refine Xbe ?_
  refine q_c (fun hc0=>?_) (fun hc0=>?_)
  ·
   refine Xac ?_
   refine Xbm ?_
   refine qbh ?_
   refine q_r (L':=L) (R':=R) (Jnq rfl (Jaf (show _=Value.int _ _ from rfl)) (Jaf (show _=Value.int _ _ from rfl)) (Jaf (show _=Value.bool _ from rfl))) ?_
   exact ⟨0,0,false,rfl,⟨by omega,(fun h=>by cases h),fun _=>Jvm hc0 _⟩,rfl,rfl⟩
  have hxg:=Jau (l:=l.l) (k:=i.toNat) default za
  obtain ⟨x,hx⟩:∃x,x=l.l.getD i.toNat default:=⟨_,rfl⟩
  rw [← hx] at hxg
  refine qbv ?_
  refine Xau ?_
  refine Jax (by first | exact Jae tb rfl rfl rfl rfl zt (i:=i.toNat) zj za | exact Jak tb rfl rfl rfl rfl (i:=i.toNat) zj za) rfl ?_
  refine Xc5 ?_
  intro b7
  refine Xba ?_
  refine Xaa ?_
  refine Ja6 (Jab (Jbd (Jam (Jah ?_))))
  refine Xaz ?_
  refine q_c (fun hc1=>?_) (fun hc1=>?_)
  ·
   refine Jam ?_
   refine Jbf tb [0,1,2,3,4,5,6,7,8,9,10,11,12,13,14,15,16,17,18,19,20,21] ([Blk.mk b7 _ _]) Jby zc zi ?_
   refine qao ?_
   refine Xan ?_
   refine Jbu (Jhx rfl rfl) rfl rfl rfl ?_
   refine qb2 ?_
   refine Jdw (k:=30) (show _=Value.bool _ from rfl) (fun hg4=>?_) (fun hg4=>?_)
   ·
    replace hg4:=qb hg4
    refine Xan ?_
    refine Jbu (Jhx rfl rfl) rfl rfl rfl ?_
    refine Xbj ?_
    refine Jdw (k:=35) (show _=Value.bool _ from rfl) (fun hg9=>?_) (fun hg9=>?_)
    ·
     replace hg9:=qb hg9
     refine Xan ?_
     refine Jbu (Jq3 rfl rfl) rfl rfl rfl ?_
     refine Xbj ?_
     refine Jdw (k:=40) (show _=Value.bool _ from rfl) (fun hg14=>?_) (fun hg14=>?_)
     ·
      replace hg14:=qb hg14
      refine Xan ?_
      refine Jbu (Jm9 rfl rfl) rfl rfl rfl ?_
      refine qbp ?_
      refine Xdn ?_
      refine Jtx ?_
      refine Jaz (Jab (Jcq (Ja5 (Jba ?_))))
      refine q_r (L':=L) (R':=R) (Jnq rfl (Jaf (show _=Value.int _ _ from rfl)) (Jaf (show _=Value.int _ _ from rfl)) (Jaf (show _=Value.bool _ from rfl))) ?_
      have hpf:Jfe l.l (n + 1) i=if x.left=0∧x.right=0∧0≤x.cond∧x.cond < 64 then some (i,1) else none:=by rw [Jfe,if_neg hc0,← hx,if_pos hc1]
      exact J4a
     replace hg14:=qb hg14
     iterate 3 refine qap ?_
     refine qbp ?_
     refine Xdn ?_
     refine Jtx ?_
     refine Jaz (Jab (Jcq (Ja5 (Jba ?_))))
     refine q_r (L':=L) (R':=R) (Jnq rfl (Jaf (show _=Value.int _ _ from rfl)) (Jaf (show _=Value.int _ _ from rfl)) (Jaf (show _=Value.bool _ from rfl))) ?_
     have hpf:Jfe l.l (n + 1) i=if x.left=0∧x.right=0∧0≤x.cond∧x.cond < 64 then some (i,1) else none:=by rw [Jfe,if_neg hc0,← hx,if_pos hc1]
     exact J4a
    replace hg9:=qb hg9
    iterate 3 refine qap ?_
    refine Xbj ?_
    iterate 3 refine qap ?_
    refine qbp ?_
    refine Xdn ?_
    refine Jtx ?_
    refine Jaz (Jab (Jcq (Ja5 (Jba ?_))))
    refine q_r (L':=L) (R':=R) (Jnq rfl (Jaf (show _=Value.int _ _ from rfl)) (Jaf (show _=Value.int _ _ from rfl)) (Jaf (show _=Value.bool _ from rfl))) ?_
    have hpf:Jfe l.l (n + 1) i=if x.left=0∧x.right=0∧0≤x.cond∧x.cond < 64 then some (i,1) else none:=by rw [Jfe,if_neg hc0,← hx,if_pos hc1]
    exact J4a
   replace hg4:=qb hg4
   iterate 3 refine qap ?_
   refine Xbj ?_
   iterate 3 refine qap ?_
   refine Xbj ?_
   iterate 3 refine qap ?_
   refine qbp ?_
   refine Xdn ?_
   refine Jtx ?_
   refine Jaz (Jab (Jcq (Ja5 (Jba ?_))))
   refine q_r (L':=L) (R':=R) (Jnq rfl (Jaf (show _=Value.int _ _ from rfl)) (Jaf (show _=Value.int _ _ from rfl)) (Jaf (show _=Value.bool _ from rfl))) ?_
   have hpf:Jfe l.l (n + 1) i=if x.left=0∧x.right=0∧0≤x.cond∧x.cond < 64 then some (i,1) else none:=by rw [Jfe,if_neg hc0,← hx,if_pos hc1]
   exact J4a
  refine Xbf ?_
  refine q_c (fun hc2=>?_) (fun hc2=>?_)
  ·
   refine qae ?_
   refine Xau ?_
   refine qa9 ?_
   refine J73 ?_
   rintro v L' R' ⟨f,d,b,rfl,hP,rfl,rfl⟩
   have hPb:=hP.bnd
   refine Jax (Jav rfl) rfl ?_
   iterate 3 refine qbs ?_
   refine qad ?_
   refine Xbm ?_
   refine qa4 ?_
   refine Jbf tb [0,1,2,3,4,5,6,7,8,9,10,11,12,13,14,15,16,17,18,19,20,21,22,23] ([Blk.mk b7 _ _]) Jby zc zi ?_
   refine qao ?_
   refine qao ?_
   refine qc2 ?_
   refine qb2 ?_
   refine qb2 ?_
   refine Jdw (k:=59) (show _=Value.bool _ from rfl) (fun hg4=>?_) (fun hg4=>?_)
   ·
    replace hg4:=qb hg4
    refine Xan ?_
    refine Jbu (Jhx rfl rfl) rfl rfl rfl ?_
    refine Xbj ?_
    refine Jdw (k:=64) (show _=Value.bool _ from rfl) (fun hg9=>?_) (fun hg9=>?_)
    ·
     replace hg9:=qb hg9
     refine Xan ?_
     refine Jbu (Jhx rfl rfl) rfl rfl rfl ?_
     refine Xbj ?_
     refine Jdw (k:=69) (show _=Value.bool _ from rfl) (fun hg14=>?_) (fun hg14=>?_)
     ·
      replace hg14:=qb hg14
      refine Xbo ?_
      refine qb7 ?_
      refine Jbu (Jhx rfl rfl) rfl rfl rfl ?_
      refine qbp ?_
      refine Xdn ?_
      refine Jtx ?_
      refine Jaz (Jab (Jcq (Ja5 (Jba ?_))))
      refine q_r (L':=L) (R':=R) (Jnq rfl (Jaf (show _=Value.int _ _ from rfl)) (Jaf (show _=Value.int _ _ from rfl)) (Jaf (show _=Value.bool _ from rfl))) ?_
      have hpf:=Jn0 (n:=n) hc0 hx hc1 hc2
      refine ⟨f,d + 1,_,rfl,⟨by omega,fun h=>?_,fun h=>?_⟩,rfl,rfl⟩
      · cases b with
        | false=>first | (cases h;done) | (simp at hg4;done)
        | true=>rw [hpf,hP.yes rfl];dsimp only;rw [if_pos zJ]
      · cases b with
        | false=>rw [hpf,hP.no rfl]
        | true=>first | (simp at hg4;done) | (rw [hpf,hP.yes rfl];dsimp only;rw [if_neg zJ])
     replace hg14:=qb hg14
     iterate 5 refine qap ?_
     refine qbp ?_
     refine Xdn ?_
     refine Jtx ?_
     refine Jaz (Jab (Jcq (Ja5 (Jba ?_))))
     refine q_r (L':=L) (R':=R) (Jnq rfl (Jaf (show _=Value.int _ _ from rfl)) (Jaf (show _=Value.int _ _ from rfl)) (Jaf (show _=Value.bool _ from rfl))) ?_
     have hpf:=Jn0 (n:=n) hc0 hx hc1 hc2
     refine ⟨f,d + 1,_,rfl,⟨by omega,fun h=>?_,fun h=>?_⟩,rfl,rfl⟩
     · cases b with
       | false=>first | (cases h;done) | (simp at hg4;done)
       | true=>rw [hpf,hP.yes rfl];dsimp only;rw [if_pos zJ]
     · cases b with
       | false=>rw [hpf,hP.no rfl]
       | true=>first | (simp at hg4;done) | (rw [hpf,hP.yes rfl];dsimp only;rw [if_neg zJ])
    replace hg9:=qb hg9
    iterate 3 refine qap ?_
    refine Xbj ?_
    iterate 5 refine qap ?_
    refine qbp ?_
    refine Xdn ?_
    refine Jtx ?_
    refine Jaz (Jab (Jcq (Ja5 (Jba ?_))))
    refine q_r (L':=L) (R':=R) (Jnq rfl (Jaf (show _=Value.int _ _ from rfl)) (Jaf (show _=Value.int _ _ from rfl)) (Jaf (show _=Value.bool _ from rfl))) ?_
    have hpf:=Jn0 (n:=n) hc0 hx hc1 hc2
    refine ⟨f,d + 1,_,rfl,⟨by omega,fun h=>?_,fun h=>?_⟩,rfl,rfl⟩
    · cases b with
      | false=>first | (cases h;done) | (simp at hg4;done)
      | true=>rw [hpf,hP.yes rfl];dsimp only;rw [if_pos zJ]
    · cases b with
      | false=>rw [hpf,hP.no rfl]
      | true=>first | (simp at hg4;done) | (rw [hpf,hP.yes rfl];dsimp only;rw [if_neg zJ])
   replace hg4:=qb hg4
   iterate 3 refine qap ?_
   refine Xbj ?_
   iterate 3 refine qap ?_
   refine Xbj ?_
   iterate 5 refine qap ?_
   refine qbp ?_
   refine Xdn ?_
   refine Jtx ?_
   refine Jaz (Jab (Jcq (Ja5 (Jba ?_))))
   refine q_r (L':=L) (R':=R) (Jnq rfl (Jaf (show _=Value.int _ _ from rfl)) (Jaf (show _=Value.int _ _ from rfl)) (Jaf (show _=Value.bool _ from rfl))) ?_
   have hpf:=Jn0 (n:=n) hc0 hx hc1 hc2
   refine ⟨f,d + 1,_,rfl,⟨by omega,fun h=>?_,fun h=>?_⟩,rfl,rfl⟩
   · cases b with
     | false=>first | (cases h;done) | (simp at hg4;done)
     | true=>rw [hpf,hP.yes rfl];dsimp only;rw [if_pos zJ]
   · cases b with
     | false=>rw [hpf,hP.no rfl]
     | true=>first | (simp at hg4;done) | (rw [hpf,hP.yes rfl];dsimp only;rw [if_neg zJ])
  refine qbi ?_
  refine Xaz ?_
  refine q_c (fun hc3=>?_) (fun hc3=>?_)
  ·
   refine Ja4 (Jab ?_)
   refine q_c (fun hc4=>?_) (fun hc4=>?_)
   ·
    refine qae ?_
    refine Xau ?_
    refine qa9 ?_
    refine J73 ?_
    rintro v L' R' ⟨m,r,b,rfl,hP,rfl,rfl⟩
    have hPb:=hP.bnd
    have hpf:=Jyh (n:=n) hc0 hx hc1 hc2 (by first | exact .inl hc3 | exact .inr hc4)
    refine Jax (Jav rfl) rfl ?_
    iterate 3 refine qbs ?_
    refine qad ?_
    refine Xbm ?_
    refine qaw ?_
    refine qah ?_
    refine Xcl ?_
    apply Ja7 (G:=[_,_,_]) (j:=2) (cj:=89) rfl rfl zb rfl (show _=Value.bool _ from rfl) rfl
    ·
     intro hg3
     replace hg3:=qb hg3
     refine Xaa ?_
     refine qbq ?_
     exact qai
    intro junk3
    refine qah ?_
    apply Ja7 (G:=[_,_,_,_,_]) (j:=7) (cj:=94) rfl rfl zb rfl (show _=Value.bool _ from rfl) rfl
    ·
     intro hg8
     replace hg8:=qb hg8
     refine Xal ?_
     refine qa9 ?_
     refine qbq ?_
     exact qai
    intro junk8
    refine qah ?_
    apply Ja7 (G:=[_,_,_,_,_]) (j:=14) (cj:=101) rfl rfl zb rfl (show _=Value.bool _ from rfl) rfl
    ·
     intro hg15
     replace hg15:=qb hg15
     have hbt:b=true:=by cases b with | true=>rfl | false=>simp at hg15
     have hmb:=(Jhi _ _ _ _ (hP.yes hbt)).1
     refine Xal ?_
     refine qa9 ?_
     refine qbq ?_
     exact qai
    intro junk15
    refine qaf ?_
    refine q_c (fun hc5=>?_) (fun hc5=>?_)
    ·
     refine Xac ?_
     refine Xbm ?_
     refine Ja6 (Jab (Jcq (Jba (Ja5 (Jba ?_)))))
     refine q_r (L':=L) (R':=R) (Jnq rfl (Jaf (show _=Value.int _ _ from rfl)) (Jaf (show _=Value.int _ _ from rfl)) (Jaf (show _=Value.bool _ from rfl))) ?_
     refine ⟨0,0,false,rfl,⟨by omega,(fun h=>by cases h),fun _=>?_⟩,rfl,rfl⟩
     cases b with
     | false=>rw [hpf,hP.no rfl]
     | true=>rw [hpf,hP.yes rfl];dsimp only;rw [if_neg (by simp at hc5;omega)]
    have hbt:b=true:=by cases b with | true=>rfl | false=>simp at hc5
    have hmb:=(Jhi _ _ _ _ (hP.yes hbt)).1
    rw [hP.yes hbt] at hpf
    dsimp only at hpf
    rw [if_pos (by rw [hbt] at hc5;simp at hc5;omega)] at hpf
    refine qbv ?_
    refine Xau ?_
    refine qa9 ?_
    refine Jaw rfl (ih (m - 1) _ za za za) rfl ?_
    rintro v L' R' ⟨f,q,b2,rfl,hP2,rfl,rfl⟩
    have hPb2:=hP2.bnd
    refine Jax (Jav rfl) rfl ?_
    iterate 3 refine qbs ?_
    refine qad ?_
    refine Xbm ?_
    refine qam ?_
    iterate 3 refine qaa ?_
    refine Jax (Jih rfl rfl) rfl ?_
    refine qar ?_
    refine qah ?_
    refine qad ?_
    refine Xbm ?_
    refine qdb ?_
    refine q_r (L':=L) (R':=R) (Jnq rfl (Jaf (show _=Value.int _ _ from rfl)) (Jaf (show _=Value.int _ _ from rfl)) (Jaf (show _=Value.bool _ from rfl))) ?_
    exact Kal
   refine Ja4 (Jag (Jab (Jam (Jah ?_))))
   refine qad ?_
   refine qad ?_
   refine Xa3 ?_
   refine q_r (L':=L) (R':=R) (Jnq rfl (Jaf (show _=Value.int _ _ from rfl)) (Jaf (show _=Value.int _ _ from rfl)) (Jaf (show _=Value.bool _ from rfl))) ?_
   exact Kcf
  refine qay ?_
  refine Xaz ?_
  refine q_c (fun hc4=>?_) (fun hc4=>?_)
  ·
   refine qae ?_
   refine Xau ?_
   refine qa9 ?_
   refine J73 ?_
   rintro v L' R' ⟨m,r,b,rfl,hP,rfl,rfl⟩
   have hPb:=hP.bnd
   have hpf:=Jyh (n:=n) hc0 hx hc1 hc2 (by first | exact .inl hc3 | exact .inr hc4)
   refine Jax (Jav rfl) rfl ?_
   iterate 3 refine qbs ?_
   refine qad ?_
   refine Xbm ?_
   refine qaw ?_
   refine qah ?_
   refine Xcl ?_
   apply Ja7 (G:=[_,_,_]) (j:=2) (cj:=89) rfl rfl zb rfl (show _=Value.bool _ from rfl) rfl
   ·
    intro hg3
    replace hg3:=qb hg3
    refine Xaa ?_
    refine qbq ?_
    exact qai
   intro junk3
   refine qah ?_
   apply Ja7 (G:=[_,_,_,_,_]) (j:=7) (cj:=94) rfl rfl zb rfl (show _=Value.bool _ from rfl) rfl
   ·
    intro hg8
    replace hg8:=qb hg8
    refine Xal ?_
    refine qa9 ?_
    refine qbq ?_
    exact qai
   intro junk8
   refine qah ?_
   apply Ja7 (G:=[_,_,_,_,_]) (j:=14) (cj:=101) rfl rfl zb rfl (show _=Value.bool _ from rfl) rfl
   ·
    intro hg15
    replace hg15:=qb hg15
    have hbt:b=true:=by cases b with | true=>rfl | false=>simp at hg15
    have hmb:=(Jhi _ _ _ _ (hP.yes hbt)).1
    refine Xal ?_
    refine qa9 ?_
    refine qbq ?_
    exact qai
   intro junk15
   refine qaf ?_
   refine q_c (fun hc5=>?_) (fun hc5=>?_)
   ·
    refine Xac ?_
    refine Xbm ?_
    refine Ja6 (Jab (Jcq (Jba (Ja5 (Jba ?_)))))
    refine q_r (L':=L) (R':=R) (Jnq rfl (Jaf (show _=Value.int _ _ from rfl)) (Jaf (show _=Value.int _ _ from rfl)) (Jaf (show _=Value.bool _ from rfl))) ?_
    refine ⟨0,0,false,rfl,⟨by omega,(fun h=>by cases h),fun _=>?_⟩,rfl,rfl⟩
    cases b with
    | false=>rw [hpf,hP.no rfl]
    | true=>rw [hpf,hP.yes rfl];dsimp only;rw [if_neg (by simp at hc5;omega)]
   have hbt:b=true:=by cases b with | true=>rfl | false=>simp at hc5
   have hmb:=(Jhi _ _ _ _ (hP.yes hbt)).1
   rw [hP.yes hbt] at hpf
   dsimp only at hpf
   rw [if_pos (by rw [hbt] at hc5;simp at hc5;omega)] at hpf
   refine qbv ?_
   refine Xau ?_
   refine qa9 ?_
   refine Jaw rfl (ih (m - 1) _ za za za) rfl ?_
   rintro v L' R' ⟨f,q,b2,rfl,hP2,rfl,rfl⟩
   have hPb2:=hP2.bnd
   refine Jax (Jav rfl) rfl ?_
   iterate 3 refine qbs ?_
   refine qad ?_
   refine Xbm ?_
   refine qam ?_
   iterate 3 refine qaa ?_
   refine Jax (Jih rfl rfl) rfl ?_
   refine qar ?_
   refine qah ?_
   refine qad ?_
   refine Xbm ?_
   refine qdb ?_
   refine q_r (L':=L) (R':=R) (Jnq rfl (Jaf (show _=Value.int _ _ from rfl)) (Jaf (show _=Value.int _ _ from rfl)) (Jaf (show _=Value.bool _ from rfl))) ?_
   exact Kal
  refine Ja4 (Jag (Jab (Jam (Jah ?_))))
  refine qad ?_
  refine qad ?_
  refine Xa3 ?_
  refine q_r (L':=L) (R':=R) (Jnq rfl (Jaf (show _=Value.int _ _ from rfl)) (Jaf (show _=Value.int _ _ from rfl)) (Jaf (show _=Value.bool _ from rfl))) ?_
  exact Kcf
theorem Jqo (l:Arr XNode) (R:List Sl) (hl:InR (J31 l) R):∀(n:Nat),n≤64→∀(i:Int) (L:List Blk),i < n→i < l.l.length→-1≤i→
    Tri Tryz.prog 175 [l.val,.int .i64 i].toArray L R (fun v L' R'=>∃(f d:Int) (b:Bool),v=.tuple #[.int .i64 f,.int .i64 d,.bool b]∧PartR l.l n i f d b∧L=L'∧R=R')
  | 0,_,i,L,hi,_,_=>Jz4 l 0 i L R za
  | n + 1,hn,i,L,hi,hil,hi1=>Jwf l n R hl za (fun i L h1 h2 h3=>Jqo l R hl n za i L h1 h2 h3) i L hi hil hi1
theorem Jpe (l:Arr XNode) (L:List Blk) (R:List Sl) (hl:InR (J31 l) R):
    Tri Tryz.prog 99 [l.val].toArray L R (fun v L' R'=>v=.bool (Jhk l.l)∧L=L'∧R=R'):=by
  refine Jad 32 Tryz.call99 Tryz.func99 rfl rfl rfl ?_
  refine Xax ?_
  refine Xdr ?_
  refine Xav ?_
  apply Ja7 (G:=[_,_,_]) (j:=3) (cj:=9) rfl rfl zb rfl (show _=Value.bool _ from rfl) rfl
  ·
   intro hg4
   replace hg4:=qb hg4
   refine Xao ?_
   refine qa5 ?_
   exact qai
  intro junk4
  refine qaf ?_
  refine q_c (fun hc0=>?_) (fun hc0=>?_)
  ·
   refine Xch ?_
   refine q_b (L':=L) (R':=R) ?_
   exact ⟨by rw [Jhk,decide_eq_false za];rfl,rfl,rfl⟩
  refine qbv ?_
  refine qbm ?_
  refine Xao ?_
  refine qa9 ?_
  refine Jaw rfl (Jqo l _ hl l.l.length za _ _ za za za) rfl ?_
  rintro v L' R' ⟨f,d,b,rfl,hP,rfl,rfl⟩
  refine Jax (Jav rfl) rfl ?_
  iterate 3 refine qbs ?_
  refine qad ?_
  refine Xbm ?_
  refine qam ?_
  refine qah ?_
  refine qah ?_
  apply Jb7 (G:=[_,_]) (j:=1) (cj:=24) rfl rfl zb rfl (show _=Value.bool _ from rfl) rfl
  ·
   intro hg2
   replace hg2:=qb hg2
   refine qaa ?_
   refine qbn ?_
   exact qai
  intro junk2
  refine qah ?_
  apply Jb7 (G:=[_,_]) (j:=5) (cj:=28) rfl rfl zb rfl (show _=Value.bool _ from rfl) rfl
  ·
   intro hg6
   replace hg6:=qb hg6
   refine qaa ?_
   refine qbx ?_
   exact qai
  intro junk6
  refine Xa3 ?_
  refine q_b (L':=L) (R':=R) ?_
  refine ⟨?_,rfl,rfl⟩
  rw [Jhk,show decide (1≤l.l.length∧l.l.length≤64)=true from decide_eq_true za]
  cases b with
  | false=>rw [hP.no rfl];rfl
  | true=>
    rw [hP.yes rfl]
    refine congrArg Value.bool ?_
    rw [Bool.eq_iff_iff]
    simp
theorem J0t {l:List XNode} {n:Nat} (h:Jhk l=true) (k:Nat) (hk:k < l.length) (h1:(l.getD k default).kind=1) (h2:(n:Int)≤(l.getD k default).cond):Jfn l n=1:=by
  rw [Jfn,if_neg (by rw [h];decide),if_pos ⟨_,List.mem_of_getElem? (Jau default hk),h1,h2⟩]
theorem Jvt {l:List XNode} {n:Nat} (h:Jhk l=true) (hk:∀k:Nat,k < l.length→¬ ((l.getD k default).kind=1∧(n:Int)≤(l.getD k default).cond)):Jfn l n=0:=by
  rw [Jfn,if_neg (by rw [h];decide),if_neg]
  rintro ⟨x,hx,h1,h2⟩
  obtain ⟨k,hk',rfl⟩:=List.mem_iff_getElem.1 hx
  have e:l.getD k default=l[k]:=by rw [List.getD_eq_getElem?_getD,List.getElem?_eq_getElem hk'];rfl
  exact hk k hk' (by rw [e];exact ⟨h1,h2⟩)
theorem Jx2 (l:Arr XNode) (n:Nat) (L:List Blk) (R:List Sl) (hl:InR (J31 l) R):
    Tri Tryz.prog 225 [l.val,.int .i64 (n:Int)].toArray L R (fun v L' R'=>v=.int .i64 (Jfn l.l n)∧L=L'∧R=R'):=by
  refine Jad 26 Tryz.call225 Tryz.func225 rfl rfl rfl ?_
  refine Xac ?_
  refine qaw ?_
  refine qbm ?_
  refine q_l rfl (Jpe l _ _ hl) ?_
  refine Xbd ?_
  refine q_c (fun hc0=>?_) (fun hc0=>?_)
  ·
   refine Xa7 ?_
   refine q_i (L':=L) (R':=R) ?_
   exact ⟨by rw [Jfn,if_pos zE],rfl,rfl⟩
  have hr:Jhk l.l=true:=by simpa using hc0
  have hln:=(Jmq.1 hr).1
  refine qbo ?_
  refine Xbv ?_
  refine Jan [(1,Value.int _ _),(10,Value.slice _ _ _),(11,Value.int _ _),(12,Value.int _ _)] zh fun tq0=>?_
  refine q_s [4,6,12,13,14,15,16,17,18,19,20,21,22,23,24,25] (fun g:{k:Nat // k≤l.l.length∧∀j:Nat,j < k→¬ ((l.l.getD j default).kind=1∧(n:Int)≤(l.l.getD j default).cond)}=>[(12,.int .i64 ((g.1:Nat):Int))]) (fun g=>l.l.length - g.1) (⟨0,by omega,fun j hj=>by omega⟩) ?_
  rintro ⟨k,hk,hal⟩ junk
  try dsimp only
  refine Xak ?_
  refine q_c (fun hc1=>?_) (fun hc1=>?_)
  ·
   have h1:=Jau (l:=l.l) (k:=k) default za
   refine qbb ?_
   refine Jax zC rfl ?_
   refine Xc5 ?_
   intro b6
   refine Xb1 ?_
   refine Xb7 ?_
   apply Jb7 (G:=[_,_,_,_]) (j:=3) (cj:=19) rfl rfl zb rfl (show _=Value.bool _ from rfl) rfl
   ·
    intro hg4
    replace hg4:=qb hg4
    refine Xal ?_
    refine qbz ?_
    exact qai
   intro junk4
   refine qaf ?_
   refine q_c (fun hc2=>?_) (fun hc2=>?_)
   ·
    refine Xby ?_
    refine q_i (L':=L) (R':=R) ?_
    exact ⟨by rw [J0t hr k za hc2.1 hc2.2],rfl,rfl⟩
   refine Xay ?_
   exact Jbl (⟨k + 1,by omega,fun j hj=>by
   rcases Nat.lt_or_ge j k with h | h
   · exact hal j h
   · obtain rfl : j = k := by omega
     omega⟩) zm zh zi (Jac _) zy
  refine Xb9 ?_
  refine q_i (L':=L) (R':=R) ?_
  exact ⟨by rw [Jvt hr (fun j hj=>hal j za)],rfl,rfl⟩
end Go.Proofs.YtchfclmokpbldaaGreat
