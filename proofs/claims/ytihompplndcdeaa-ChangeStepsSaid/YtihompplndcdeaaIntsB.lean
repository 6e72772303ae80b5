import Derived.Test.YtihompplndcdeaaFits
import Derived.Test.YtihompplndcdeaaApp0
import Derived.Test.YtihompplndcdeaaOrdW
import Derived.Test.YtihompplndcdeaaNarrow
set_option linter.unusedVariables false
set_option linter.unusedSimpArgs false
section
/-
  What an append to a full read-only slice gives. By an AI agent; no person has read it.
-/
namespace Go.Aw
open Go
section
variable {P:Program} {ρ:Operand→Value} {L:List Blk} {R:List Sl} {dst:Option Tmp} {ty:TypeId} {pos:String} {after:Array Edge} {guard:Option (Nat×Bool)} (tb:Tabs P) {T:TypeId} {x y:Operand}
end
end Go.Aw
end
section
/-
  A slice without its first elements; appending a read-only slice to an own one. By an AI agent; no person has read it.
-/
namespace Go.Proofs.Ytihompplndcdeaa
open Go.Aw Go
section
variable {P:Program} {ρ:Operand→Value} {L:List Blk} {R:List Sl} {dst:Option Tmp} {ty:TypeId} {pos:String} {after:Array Edge} {guard:Option (Nat×Bool)} (tb:Tabs P) {T:TypeId} {x y:Operand}
end
end Go.Proofs.Ytihompplndcdeaa
end
section
/-
  The reference's search for an order of steps. By an AI agent; no person has read it.
-/
namespace Go.Proofs.Ytihompplndcdeaa
open Go.Aw Go
set_option maxRecDepth 20000
attribute [local irreducible] CJ LJ DJ Tri YV Gives Jdn Jaw Jbk Jdo RV Jay OwL.L
section
variable {A9 B9:Prop}
theorem Jo0 (a:A9) (h:A9→B9:=by exact Jax (by first | exact Jdf rfl rfl | exact Jcx rfl rfl | exact Jg7 rfl) rfl):B9:=h a
theorem Jya (h:B9:=by exact ⟨.nil,by rw [he];rfl,OwL.nil_ok,by rw [he];rfl,by rw [Jc7];rfl,rfl⟩):B9:=h
theorem J32 (a:A9) (h:A9→B9:=by exact Jh0 (Jd5 (f:=Jad) (xs:=st) tb rfl rfl rfl (by decide) rfl rfl (hst) (fun _=>rfl) (by omega)) rfl):B9:=h a
theorem J2u (a:A9) (h:A9→B9:=by exact Jax (Jao tb ((⟨o74,st.l⟩:OwL Int)) _ rfl rfl rfl rfl (by assumption) (i:=d.toNat) (by first | rfl | omega | (simp;omega)) (by first | omega | (dsimp only;omega) | (dsimp only;rw [List.length_set];omega) | (dsimp only;simp only [List.length_set];omega))) rfl):B9:=h a
theorem J3a (a:A9) (h:A9→B9:=by exact Jhw (Jav tb ((⟨o74,st.l⟩:OwL Int)) (x) rfl rfl rfl rfl (by repeat (first | apply OSeg.cons | exact OSeg.here | exact OSeg.last | exact OSeg.at (by assumption) | apply OSeg.app)) (by assumption) (fun _=>rfl) (by assumption) (by decide) (by rfl) (by rfl))):B9:=h a
theorem J3z (h:B9:=by exact ⟨⟨o74,st.l.set d.toNat x⟩,by rw [he];simp only [OwL.val,List.length_set],OwL.len_ok Jci hok74 (by simp),by rw [he,if_pos rfl],rfl,rfl⟩):B9:=h
theorem J6d (a:A9) (h:A9→B9:=by exact Jc0 (by first | exact Jfy tb rfl rfl rfl (by first | assumption | exact zr (by simp)) (by assumption) (by rfl) | exact Jbl tb rfl rfl rfl (by repeat (first | exact zi0 | apply zi1 | apply zi2)) (by rfl) | exact Jbl tb rfl rfl rfl (by repeat (first | exact zi0 | apply zi1 | apply zi2)) (Jgl (by assumption)) | exact Jbl tb rfl rfl rfl (by repeat (first | exact zi0 | apply zi1 | apply zi2)) (Jf0 (fun _=>rfl) (by assumption) rfl)) rfl rfl):B9:=h a
end
theorem Jwl (D:Arr XDoor) (st:Arr Int) (d x:Int) (L:List Blk) (R:List Sl) (hD:InR (dsl D) R) (hst:InR (isl st) R):
    Tri Try.prog 40 [D.val,st.val,.int .i64 d,.int .i64 x,.bool true].toArray L R (fun v L' R'=>∃p:OwL Int,v=.tuple #[p.val,.int .i64 (Ji5 D.l st.l d x)]∧p.ok 1 Jad∧p.l=(if Ji5 D.l st.l d x=0 then st.l.set d.toNat x else [])∧p.L 3 Jad ++ L=L'∧R=R'):=by
  refine Jae 80 Try.call40 Try.func40 rfl rfl rfl ?_
  refine Xbf ?_
  refine Xaw ?_
  refine qbm ?_
  refine q_l rfl (Ji9 D _ _ hD) ?_
  refine Xbv ?_
  refine q_c (fun hc0=>?_) (fun hc0=>?_)
  ·
   refine Xbb ?_
   refine qc4 ?_
   refine Xa4 ?_
   refine q_r (L':=L) (R':=R) (Jfb rfl (Jal (show _=Value.slice _ _ _ from rfl)) (Jal (show _=Value.int _ _ from rfl))) ?_
   have he:Ji5 D.l st.l d x=Jbm D.l:=by rw [Ji5,if_pos hc0]
   exact ⟨.nil,by rw [he];rfl,OwL.nil_ok,by rw [he,if_neg hc0],by rw [Jc7];rfl,rfl⟩
  refine qbo ?_
  refine Xat ?_
  refine Xat ?_
  refine Xa3 ?_
  refine q_c (fun hc1=>?_) (fun hc1=>?_)
  ·
   refine Xcw ?_
   refine q_r (L':=L) (R':=R) (Jfb rfl (Jal (show _=Value.slice _ _ _ from rfl)) (Jal (show _=Value.int _ _ from rfl))) ?_
   have he:Ji5 D.l st.l d x=11:=by rw [Ji5,if_neg hc0,if_pos (by omega)]
   exact Jya
  refine qbo ?_
  refine qaa ?_
  refine Xa2 ?_
  apply Jbi (G:=[_,_,_,_]) (j:=2) (cj:=27) rfl rfl (by rfl) rfl (show _=Value.bool _ from rfl) rfl
  ·
   intro hg3
   replace hg3:=qb hg3
   refine qaa ?_
   refine Xat ?_
   refine qbz ?_
   exact qai
  intro junk3
  refine qaf ?_
  refine q_c (fun hc2=>?_) (fun hc2=>?_)
  ·
   refine Xcw ?_
   refine q_r (L':=L) (R':=R) (Jfb rfl (Jal (show _=Value.slice _ _ _ from rfl)) (Jal (show _=Value.int _ _ from rfl))) ?_
   have he:Ji5 D.l st.l d x=15:=by rw [Ji5,if_neg hc0,if_neg (by omega),if_pos (by omega)]
   exact Jya
  have z1:Jbm D.l=0:=Decidable.not_not.1 hc0
  have z2:st.l.length=D.l.length:=by omega
  have z3:0≤d∧d < D.l.length:=by omega
  have hdg:=Jai (l:=D.l) (k:=d.toNat) default (by omega)
  have hD16:=(Ji2 z1).1
  have hot:=Jsl z1 z3
  refine qbo ?_
  refine qaa ?_
  refine Xa2 ?_
  refine Jej (k:=35) (show _=Value.bool _ from rfl) (fun hg3=>?_) (fun hg3=>?_)
  ·
   replace hg3:=qb hg3
   refine Jc0 (Jap (show _=Value.bool _ from rfl)) rfl rfl ?_
   refine Jc0 (Jap (show _=Value.bool _ from rfl)) rfl rfl ?_
   refine Jej (k:=37) (show _=Value.bool _ from rfl) (fun hg5=>?_) (fun hg5=>?_)
   ·
    replace hg5:=qb hg5
    refine Jga rfl rfl ?_
    refine Jga rfl rfl ?_
    ·
     skip
     refine Jc0 (by first | exact Jdf rfl rfl | exact Jcx rfl rfl | exact Jg7 rfl) rfl rfl ?_
     refine Jo0 ?_
     refine qah ?_
     ·
      skip
      iterate 8 refine Jga rfl rfl ?_
      refine Jo0 ?_
      refine qaf ?_
      refine Jco rfl ?_
      refine Xcw ?_
      refine q_r (L':=L) (R':=R) (Jfb rfl (Jal (show _=Value.slice _ _ _ from rfl)) (Jal (show _=Value.int _ _ from rfl))) ?_
      have he:Ji5 D.l st.l d x=1:=by rw [Ji5,if_neg hc0,if_neg (by omega),if_neg (by omega),if_pos (by omega)]
      exact Jya
   replace hg5:=qb hg5
   (exfalso;cases hg5)
  replace hg3:=qb hg3
  iterate 4 refine Jga rfl rfl ?_
  ·
   skip
   refine Jga rfl rfl ?_
   refine Jo0 ?_
   refine qah ?_
   ·
    skip
    refine Jc0 (Jap (show _=Value.int _ _ from rfl)) rfl rfl ?_
    refine Jc0 (Jap (show _=Value.slice _ _ _ from rfl)) rfl rfl ?_
    refine Jc0 (Jap (show _=Value.int _ _ from rfl)) rfl rfl ?_
    refine Jc0 (by first | exact Jaf tb rfl rfl rfl rfl (by first | assumption | exact zr (by simp)) (i:=d.toNat) (by first | rfl | omega | (simp;omega)) (by omega) | exact Jah tb rfl rfl rfl rfl (i:=d.toNat) (by first | rfl | omega | (simp;omega)) (by omega)) rfl rfl ?_
    refine Jc0 (Jho tb rfl rfl rfl) rfl rfl ?_
    refine J6d ?_
    refine Jc0 (Jew tb rfl rfl rfl) rfl rfl ?_
    refine Jc0 (Jkw rfl rfl) rfl rfl ?_
    refine Jo0 ?_
    refine qaf ?_
    refine q_c (fun hc3=>?_) (fun hc3=>?_)
    ·
     refine Xcw ?_
     refine q_r (L':=L) (R':=R) (Jfb rfl (Jal (show _=Value.slice _ _ _ from rfl)) (Jal (show _=Value.int _ _ from rfl))) ?_
     have he:Ji5 D.l st.l d x=1:=by rw [Ji5,if_neg hc0,if_neg (by omega),if_neg (by omega),if_pos (by omega)]
     exact Jya
    refine qbo ?_
    refine Xal ?_
    refine Jax (by first | exact Jaf tb rfl rfl rfl rfl (by first | assumption | exact zr (by simp)) (i:=d.toNat) (by first | rfl | omega | (simp;omega)) (by omega) | exact Jah tb rfl rfl rfl rfl (i:=d.toNat) (by first | rfl | omega | (simp;omega)) (by omega)) rfl ?_
    refine Xbc ?_
    refine Xai ?_
    refine qah ?_
    refine qah ?_
    refine Jej (k:=58) (show _=Value.bool _ from rfl) (fun hg2=>?_) (fun hg2=>?_)
    ·
     replace hg2:=qb hg2
     refine Jc0 (Jap (show _=Value.int _ _ from rfl)) rfl rfl ?_
     refine Jc0 (Jlo rfl rfl) rfl rfl ?_
     refine Jo0 ?_
     refine qah ?_
     refine Jej (k:=62) (show _=Value.bool _ from rfl) (fun hg6=>?_) (fun hg6=>?_)
     ·
      replace hg6:=qb hg6
      refine Jc0 (Jap (show _=Value.int _ _ from rfl)) rfl rfl ?_
      refine Jc0 (Jkw rfl rfl) rfl rfl ?_
      refine Jo0 ?_
      refine qah ?_
      refine Jej (k:=66) (show _=Value.bool _ from rfl) (fun hg10=>?_) (fun hg10=>?_)
      ·
       replace hg10:=qb hg10
       have hsg:=Jai (l:=st.l) (k:=(D.l.getD d.toNat default).other.toNat) 0 (by have:=hot (by omega);omega)
       refine Jc0 (Jap (show _=Value.slice _ _ _ from rfl)) rfl rfl ?_
       refine Jc0 (Jap (show _=Value.int _ _ from rfl)) rfl rfl ?_
       have hot2:=hot (by omega)
       refine Jc0 (by first | exact Jaf tb rfl rfl rfl rfl (by first | assumption | exact zr (by simp)) (i:=(D.l.getD d.toNat default).other.toNat) (by first | rfl | omega | (simp;omega)) (by omega) | exact Jah tb rfl rfl rfl rfl (i:=(D.l.getD d.toNat default).other.toNat) (by first | rfl | omega | (simp;omega)) (by omega)) rfl rfl ?_
       refine J6d ?_
       refine Jc0 (Jlo rfl rfl) rfl rfl ?_
       refine Jo0 ?_
       refine qaf ?_
       refine q_c (fun hc4=>?_) (fun hc4=>?_)
       ·
        refine Xcw ?_
        refine q_r (L':=L) (R':=R) (Jfb rfl (Jal (show _=Value.slice _ _ _ from rfl)) (Jal (show _=Value.int _ _ from rfl))) ?_
        have he:Ji5 D.l st.l d x=10:=by rw [Ji5,if_neg hc0,if_neg (by omega),if_neg (by omega),if_neg (by omega),if_pos (by omega)]
        exact Jya
       refine qbv ?_
       refine qbm ?_
       refine J32 ?_
       rintro v L' R' ⟨o74,rfl,hok74,rfl,rfl⟩
       refine qc4 ?_
       refine qa4 ?_
       have hsd:=Jai (l:=st.l) (k:=d.toNat) 0 (by omega)
       refine Xcg ?_
       refine qaa ?_
       refine J2u ?_
       refine J3a ?_
       rintro v L' R' ⟨rfl,rfl⟩
       refine qam ?_
       refine Xbl ?_
       refine Xau ?_
       refine q_r (L':=(⟨o74,st.l.set d.toNat x⟩:OwL Int).L 3 Jad ++ L) (R':=R) (Jfb rfl (Jal (show _=Value.slice _ _ _ from rfl)) (Jal (show _=Value.int _ _ from rfl))) ?_
       have he:Ji5 D.l st.l d x=0:=by rw [Ji5,if_neg hc0,if_neg (by omega),if_neg (by omega),if_neg (by omega),if_neg (by omega)]
       exact J3z
      replace hg10:=qb hg10
      iterate 5 refine Jga rfl rfl ?_
      refine Jo0 ?_
      refine qaf ?_
      refine Jb0 rfl ?_
      refine qbv ?_
      refine qbm ?_
      refine J32 ?_
      rintro v L' R' ⟨o74,rfl,hok74,rfl,rfl⟩
      refine qc4 ?_
      refine qa4 ?_
      have hsd:=Jai (l:=st.l) (k:=d.toNat) 0 (by omega)
      refine Xcg ?_
      refine qaa ?_
      refine J2u ?_
      refine J3a ?_
      rintro v L' R' ⟨rfl,rfl⟩
      refine qam ?_
      refine Xbl ?_
      refine Xau ?_
      refine q_r (L':=(⟨o74,st.l.set d.toNat x⟩:OwL Int).L 3 Jad ++ L) (R':=R) (Jfb rfl (Jal (show _=Value.slice _ _ _ from rfl)) (Jal (show _=Value.int _ _ from rfl))) ?_
      have he:Ji5 D.l st.l d x=0:=by rw [Ji5,if_neg hc0,if_neg (by omega),if_neg (by omega),if_neg (by omega),if_neg (by omega)]
      exact J3z
     replace hg6:=qb hg6
     refine Jga rfl rfl ?_
     refine Jga rfl rfl ?_
     refine Jo0 ?_
     refine qah ?_
     ·
      skip
      iterate 5 refine Jga rfl rfl ?_
      refine Jo0 ?_
      refine qaf ?_
      refine Jb0 rfl ?_
      refine qbv ?_
      refine qbm ?_
      refine J32 ?_
      rintro v L' R' ⟨o74,rfl,hok74,rfl,rfl⟩
      refine qc4 ?_
      refine qa4 ?_
      have hsd:=Jai (l:=st.l) (k:=d.toNat) 0 (by omega)
      refine Xcg ?_
      refine qaa ?_
      refine J2u ?_
      refine J3a ?_
      rintro v L' R' ⟨rfl,rfl⟩
      refine qam ?_
      refine Xbl ?_
      refine Xau ?_
      refine q_r (L':=(⟨o74,st.l.set d.toNat x⟩:OwL Int).L 3 Jad ++ L) (R':=R) (Jfb rfl (Jal (show _=Value.slice _ _ _ from rfl)) (Jal (show _=Value.int _ _ from rfl))) ?_
      have he:Ji5 D.l st.l d x=0:=by rw [Ji5,if_neg hc0,if_neg (by omega),if_neg (by omega),if_neg (by omega),if_neg (by omega)]
      exact J3z
    replace hg2:=qb hg2
    (exfalso;cases hg2)
theorem Jwi (D:Arr XDoor) (st:Arr Int) (d x:Int) (L:List Blk) (R:List Sl) (hD:InR (dsl D) R) (hst:InR (isl st) R):
    Tri Try.prog 18 [D.val,st.val,.int .i64 d,.int .i64 x].toArray L R (fun v L' R'=>∃p:OwL Int,v=.tuple #[p.val,.int .i64 (Ji5 D.l st.l d x)]∧p.ok 1 Jad∧p.l=(if Ji5 D.l st.l d x=0 then st.l.set d.toNat x else [])∧p.L 3 Jad ++ L=L'∧R=R'):=by
  refine Jae 17 Try.call18 Try.func18 rfl rfl rfl ?_
  refine Xbf ?_
  refine Xai ?_
  refine qbm ?_
  refine Xal ?_
  refine qaa ?_
  refine Jaq rfl (Jwl D st d x _ _ hD hst) rfl ?_
  rintro v L' R' ⟨p,rfl,hpk,hpl,rfl,rfl⟩
  refine Xbw ?_
  refine Xau ?_
  refine q_r (L':=p.L 3 Jad ++ L) (R':=R) (Jfb rfl (Jal (show _=Value.slice _ _ _ from rfl)) (Jal (show _=Value.int _ _ from rfl))) ?_
  exact ⟨p,rfl,hpk,hpl,rfl,rfl⟩
end Go.Proofs.Ytihompplndcdeaa
end
section
/-
  What an order that is found is worth: each step can be done and is harmless, and none is missing. Plain. By an AI agent; no person has read it.
-/
namespace Go.Proofs.Ytihompplndcdeaa
open Go.Aw Go
def Jk9 (s:Sts):List Int:=s.1 ++ s.2
theorem Jky {s:Sts} {k:Nat} (h:k < s.1.length):(Jk9 s).getD k 0=s.1.getD k 0:=by
  rw [Jk9,List.getD_eq_getElem?_getD,List.getElem?_append_left h,← List.getD_eq_getElem?_getD]
theorem Jig {s:Sts} {k:Nat} (h:s.1.length≤k):(Jk9 s).getD k 0=s.2.getD (k - s.1.length) 0:=by
  rw [Jk9,List.getD_eq_getElem?_getD,List.getElem?_append_right h,← List.getD_eq_getElem?_getD]
theorem Jiq (s:Sts):(Jk9 s).length=s.1.length + s.2.length:=by rw [Jk9,List.length_append]
theorem J0s {s t:Sts} {k:Nat} (h:t.1.length=s.1.length):Jk9 (Jgs t s (k:Int))=(Jk9 s).set k ((Jk9 t).getD k 0):=by
  rcases Nat.lt_or_ge k s.1.length with h1 | h1
  · rw [Jtd h1, Jky (by omega), Jk9, Jk9]
    dsimp only
    rw [List.set_append_left _ _ h1]
  · rw [Jqj h1, Jig (by omega), Jk9, Jk9, h]
    dsimp only
    rw [List.set_append_right _ _ h1]
theorem J06 {s t:Sts} (h1:t.1.length=s.1.length) (h:Jk9 s=Jk9 t):s=t:=by
  have:=List.append_inj h h1.symm
  exact Prod.ext this.1 this.2
structure Left (s t:Sts) (r:List Int):Prop where
  nodup:r.Nodup
  iff:∀x,x∈r↔∃k:Nat,x=(k:Int)∧k < (Jk9 s).length∧(Jk9 s).getD k 0≠(Jk9 t).getD k 0
  l1:t.1.length=s.1.length
  l2:t.2.length=s.2.length
theorem Jps {P:Nat→Bool} (k:Nat):(Jjg P k).Nodup:=(Jjm k).imp fun h=>by omega
theorem Left.dif {s t:Sts} (h1:t.1.length=s.1.length) (h2:t.2.length=s.2.length):Left s t (Jmm s t):=by
  refine ⟨?_,fun x=>?_,h1,h2⟩
  · rw [Jmm, List.nodup_append]
    refine ⟨Jps _,?_,fun x hx y hy=>?_⟩
    · exact List.Pairwise.map _ (fun a b h=>by omega) (Jps (P:=Js4 s.2 t.2) s.2.length)
    · obtain ⟨i, e1, e2, _⟩ := Jes.1 hx
      obtain ⟨z,hz,rfl⟩:=List.mem_map.1 hy
      obtain ⟨j,e3,e4,_⟩:=Jes.1 hz
      omega
  · rw [Jmm, List.mem_append, List.mem_map]
    constructor
    · rintro (hx | ⟨z, hz, rfl⟩)
      · obtain ⟨i, e1, e2, e3⟩ := Jes.1 hx
        exact ⟨i,e1,by rw [Jiq];omega,by rw [Jky e2,Jky (by omega)];exact Jgt.1 e3⟩
      · obtain ⟨j, e3, e4, e5⟩ := Jes.1 hz
        refine ⟨s.1.length + j,by omega,by rw [Jiq];omega,?_⟩
        rw [Jig (by omega),Jig (by omega),h1,Nat.add_sub_cancel_left]
        exact Jgt.1 e5
    · rintro ⟨k, rfl, hk, hne⟩
      rw [Jiq] at hk
      rcases Nat.lt_or_ge k s.1.length with h3 | h3
      · rw [Jky h3, Jky (by omega)] at hne
        exact .inl (Jes.2 ⟨k,rfl,h3,Jgt.2 hne⟩)
      · rw [Jig h3, Jig (by omega), h1] at hne
        exact .inr ⟨((k - s.1.length:Nat):Int),Jes.2 ⟨k - s.1.length,rfl,by omega,Jgt.2 hne⟩,by omega⟩
theorem Left.perm {s t:Sts} {r r':List Int} (h:Left s t r) (hp:r'.Perm r):Left s t r':=⟨hp.nodup_iff.2 h.nodup,fun x=>hp.mem_iff.trans (h.iff x),h.l1,h.l2⟩
theorem Left.put {s t:Sts} {k:Int} {r:List Int} (h:Left s t (k :: r)):Left (Jgs t s k) t r∧Jgs t s k≠s∧∃n:Nat,k=(n:Int)∧n < s.1.length + s.2.length:=by
  obtain ⟨n,rfl,hn,hne⟩:=(h.iff k).1 (.head _)
  have hl:=Jkt t s (n:Int)
  have e:=J0s (s:=s) (t:=t) (k:=n) h.l1
  have ln:(Jk9 (Jgs t s (n:Int))).length=(Jk9 s).length:=by rw [e,List.length_set]
  have hnd:=List.nodup_cons.1 h.nodup
  refine ⟨⟨hnd.2,fun x=>?_,by rw [hl.1];exact h.l1,by rw [hl.2];exact h.l2⟩,fun he=>?_,n,rfl,by rw [Jiq] at hn;exact hn⟩
  · have hi := h.iff x
    rw [ln,e]
    constructor
    · intro hx
      obtain ⟨j,rfl,hj,hj2⟩:=hi.1 (.tail _ hx)
      have hjn:j≠n:=fun e=>by subst e;exact hnd.1 hx
      refine ⟨j,rfl,hj,?_⟩
      rw [List.getD_eq_getElem?_getD,List.getElem?_set_ne (fun e=>hjn e.symm),← List.getD_eq_getElem?_getD]
      exact hj2
    · rintro ⟨j, rfl, hj, hj2⟩
      have hjn:j≠n:=fun e=>by
        subst e
        refine hj2 ?_
        rw [List.getD_eq_getElem?_getD,List.getElem?_set_self hj];rfl
      rw [List.getD_eq_getElem?_getD,List.getElem?_set_ne (fun e=>hjn e.symm),← List.getD_eq_getElem?_getD] at hj2
      rcases List.mem_cons.1 (hi.2 ⟨j,rfl,hj,hj2⟩) with h4 | h4
      · omega
      · exact h4
  · refine hne ?_
    rw [← he,e,List.getD_eq_getElem?_getD,List.getElem?_set_self hn];rfl
theorem Left.done {s t:Sts} (h:Left s t []):s=t:=by
  refine J06 h.l1 (List.ext_getElem? fun k=>?_)
  have hln:(Jk9 t).length=(Jk9 s).length:=by rw [Jiq,Jiq,h.l1,h.l2]
  rcases Nat.lt_or_ge k (Jk9 s).length with hk | hk
  · have h1 := Jai (l := Jk9 s) (k := k) 0 hk
    have h2:=Jai (l:=Jk9 t) (k:=k) 0 (by omega)
    rw [h1,h2]
    rcases Classical.em ((Jk9 s).getD k 0=(Jk9 t).getD k 0) with h3 | h3
    · rw [h3]
    · exact absurd ((h.iff k).2 ⟨k,rfl,hk,h3⟩) (by simp)
  · rw [List.getElem?_eq_none hk,List.getElem?_eq_none (by omega)]
inductive GoesS (nx : Sts → Int → Option Sts) : Sts → List Int → Prop
  | nil {s:Sts}:GoesS nx s []
  | cons {s s':Sts} {k:Int} {r:List Int} (h:nx s k=some s') (hr:GoesS nx s' r):GoesS nx s (k :: r)
theorem Jru {nx : Sts → Int → Option Sts} : ∀ (n : Nat) {s : Sts} {left r : List Int}, left.length = n → Jgk nx s left = some r → GoesS nx s r ∧ r.Perm left
  | 0,s,left,r,hn,h=>by
    rw [List.eq_nil_of_length_eq_zero hn,Jj8] at h
    cases h
    rw [List.eq_nil_of_length_eq_zero hn]
    exact ⟨.nil,.refl _⟩
  | n + 1,s,left,r,hn,h=>by
    rw [Jgo (by intro e;rw [e] at hn;cases hn)] at h
    obtain ⟨i,hi,h1⟩:=List.exists_of_findSome?_eq_some h
    rw [List.mem_range] at hi
    rw [Joq] at h1
    cases h2:nx s (left.getD i 0) with
    | none=>rw [h2] at h1;cases h1
    | some s'=>
      rw [h2,Option.bind_some] at h1
      cases h3:Jgk nx s' (left.eraseIdx i) with
      | none=>rw [h3] at h1;cases h1
      | some r'=>
        rw [h3,Option.map_some] at h1
        cases h1
        have:=Jru n (by rw [List.length_eraseIdx,if_pos hi,hn];rfl) h3
        refine ⟨.cons h2 this.1,(this.2.cons _).trans ?_⟩
        have e:left.getD i 0=left[i]:=by rw [List.getD_eq_getElem?_getD,List.getElem?_eq_getElem hi];rfl
        rw [e]
        rw [List.eraseIdx_eq_take_drop_succ]
        have e2:left.take i ++ left[i] :: left.drop (i + 1)=left:=by rw [← List.drop_eq_getElem_cons hi,List.take_append_drop]
        exact (List.perm_middle.symm).trans (by rw [e2])
theorem J0f {a:XAir} {A:List Bool} {K:List XSpan→List Int} {fc:List XFace} {t s s':Sts} {k:Int} (h:nxS a A K fc t s k=some s'):Jwg a.doors.l t s k=true∧s'=Jgs t s k∧(J6o a A K fc s (Jgs t s k)).quiet=true:=by
  rw [nxS] at h
  split at h
  · rename_i h1
    split at h
    · rename_i h2
      exact ⟨h1,(Option.some.inj h).symm,h2⟩
    · cases h
  · cases h
theorem J2s {a:XAir} {s t:XSetting} {fc:List XFace} {A:List Bool} {K:List XSpan→List Int} (h:Jat a=0) (h2:Jdl a s=true∧Jdl a t=true):
    ((Jo5 a s t fc A K).1=0→GoesS (nxS a A K fc (Jak t)) (Jak s) (Jo5 a s t fc A K).2∧Left (Jak s) (Jak t) (Jo5 a s t fc A K).2∧(Jo5 a s t fc A K).2.length≤3)∧((Jo5 a s t fc A K).1≠0→(Jo5 a s t fc A K).1=13∨(Jo5 a s t fc A K).1=2):=by
  rcases Classical.em (3 < (Jmm (Jak s) (Jak t)).length) with h3 | h3
  · rw [Joh h h2 h3]
    exact ⟨fun h=>(by cases h),fun _=>.inr rfl⟩
  · rw [Jrb h h2 h3]
    cases h4:Jgk (nxS a A K fc (Jak t)) (Jak s) (Jmm (Jak s) (Jak t)) with
    | none=>exact ⟨fun h=>(by cases h),fun _=>.inl rfl⟩
    | some r=>
      have hg:=Jru _ rfl h4
      have hl:=Jk1 h h2.1 h2.2
      exact ⟨fun _=>⟨hg.1,(Left.dif hl.1.1.symm hl.1.2.symm).perm hg.2,by have:=hg.2.length_eq;show r.length≤3;omega⟩,fun h=>absurd rfl h⟩
end Go.Proofs.Ytihompplndcdeaa
end
section
/-
  Whether two lists of numbers are the same. By an AI agent; no person has read it.
-/
namespace Go.Proofs.Ytihompplndcdeaa
open Go.Aw Go
set_option maxRecDepth 20000
attribute [local irreducible] CJ LJ DJ Tri YV Gives Jdn Jaw Jbk Jdo RV Jay OwL.L
theorem Jsd (x y:Arr Int) (L:List Blk) (R:List Sl) (hx:InR (isl x) R) (hy:InR (isl y) R):
    Tri Try.prog 20 [x.val,y.val].toArray L R (fun v L' R'=>v=.bool (decide (x.l=y.l))∧L=L'∧R=R'):=by
  refine Jb7 Try.call20 hx fun hxn=>?_
  refine Jae 26 Try.call20 Try.func20 rfl rfl rfl ?_
  refine Xbh ?_
  refine qaw ?_
  refine Xat ?_
  refine Xat ?_
  refine Xa3 ?_
  refine q_c (fun hc0=>?_) (fun hc0=>?_)
  ·
   refine Xbh ?_
   refine qbh ?_
   refine q_b (L':=L) (R':=R) ?_
   exact ⟨by rw [decide_eq_false (fun e=>hc0 (by rw [e]))],rfl,rfl⟩
  refine Xcq ?_
  refine Jag [(0,Value.slice _ _ _),(1,Value.slice _ _ _),(5,Value.int _ _)] (by repeat' (first | exact trivial | refine And.intro rfl ?_)) fun tq0=>?_
  refine q_s [4,5,11,12,13,14,15,16,17,18,19,20,21,22,23,24,25] (fun g:{k:Nat // k≤x.l.length∧∀j:Nat,j < k→x.l.getD j 0=y.l.getD j 0}=>[(5,.int .i64 ((g.1:Nat):Int))]) (fun g=>x.l.length - g.1) (⟨0,by omega,fun j hj=>by omega⟩) ?_
  rintro ⟨k,hk,hal⟩ junk
  try dsimp only
  refine Xap ?_
  refine Xcy ?_
  refine q_c (fun hc1=>?_) (fun hc1=>?_)
  ·
   have hxg:=Jai (l:=x.l) (k:=k) 0 (by omega)
   have hyg:=Jai (l:=y.l) (k:=k) 0 (by omega)
   refine Ja4 (Jaa (Jan (Ja9 (Jan ?_))))
   refine Ja5 tb [0,1,2,3,4,5,6,7,8] _ Jbh (by kernel_rfl) (List.Sublist.refl _) ?_
   refine Jbx (Jap (show _=Value.slice _ _ _ from rfl)) rfl rfl rfl ?_
   refine qao ?_
   refine qds ?_
   refine qbl ?_
   refine Jbx (Jap (show _=Value.slice _ _ _ from rfl)) rfl rfl rfl ?_
   refine qao ?_
   refine qb5 ?_
   refine qbl ?_
   refine Jbx (Jlo rfl rfl) rfl rfl rfl ?_
   refine qbu ?_
   refine q_c (fun hc2=>?_) (fun hc2=>?_)
   ·
    refine Xbh ?_
    refine qbt ?_
    refine q_b (L':=L) (R':=R) ?_
    exact ⟨by rw [decide_eq_false (fun e=>hc2 (by rw [e]))],rfl,rfl⟩
   refine Xbg ?_
   exact Jau (⟨k + 1,by omega,fun j hj=>by
   rcases Nat.lt_or_ge j k with h | h
   · exact hal j h
   · obtain rfl : j = k := by omega
     exact Decidable.not_not.1 hc2⟩) (by repeat (first | exact Off.refl | apply Off.upd rfl | apply Off.havoc rfl | apply Off.updL rfl | apply Off.left rfl)) (by repeat' (first | exact trivial | refine And.intro rfl ?_)) (by repeat (first | exact zs0 _ | exact zs1 _ | apply zs2 | apply zs3 | apply zs4 | apply zs5)) (Jac _) (by dsimp only;omega)
  refine qbk ?_
  refine Xa9 ?_
  refine q_b (L':=L) (R':=R) ?_
  exact ⟨by rw [decide_eq_true (List.ext_getElem? fun j=>by
  rcases Nat.lt_or_ge j x.l.length with h | h
  · rw [Jai (l:=x.l) (k:=j) 0 h,Jai (l:=y.l) (k:=j) 0 (by omega),hal j (by omega)]
  · rw [List.getElem?_eq_none h,List.getElem?_eq_none (by omega)])],rfl,rfl⟩
end Go.Proofs.Ytihompplndcdeaa
end
