/-
  The reference's search for an order of steps. By an AI agent; no person has read it.
-/
import Derived.Test.YtihompplndcdeaaGreatOrdW
import Derived.Test.YtihompplndcdeaaGreatDropN
import Derived.Test.YtihompplndcdeaaGreatNarrow
namespace Go.Proofs.YtihompplndcdeaaGreat
open Go.Aw Go
set_option maxRecDepth 20000
attribute [local irreducible] CJ LJ DJ Tri YV Gives Jd5 Jbd Jbz Jd4 RV Jbf OwL.L
section
variable {A9 B9:Prop}
theorem Jpw (a:A9) (h:A9→B9:=by exact Ja2 (by first | exact Jco rfl rfl | exact Jb9 rfl rfl | exact Je9 rfl) rfl):B9:=h a
theorem J0o (h:B9:=by exact ⟨.nil,by rw [he];rfl,OwL.nil_ok,by rw [he];rfl,by rw [Jcl];rfl,rfl⟩):B9:=h
theorem J4u (a:A9) (h:A9→B9:=by exact Jfo (Jcx (f:=Jad) (xs:=st) tb rfl rfl rfl (by decide) rfl rfl (hst) (fun _=>rfl) (by omega)) rfl):B9:=h a
theorem J5l (a:A9) (h:A9→B9:=by exact Ja2 (Jak tb ((⟨o74,st.l⟩:OwL Int)) _ rfl rfl rfl rfl (by assumption) (i:=d.toNat) (by first | rfl | omega | (simp;omega)) (by first | omega | (dsimp only;omega) | (dsimp only;rw [List.length_set];omega) | (dsimp only;simp only [List.length_set];omega))) rfl):B9:=h a
theorem J33 (a:A9) (h:A9→B9:=by exact Jfa (Jas tb ((⟨o74,st.l⟩:OwL Int)) (x) rfl rfl rfl rfl (by repeat (first | apply OSeg.cons | exact OSeg.here | exact OSeg.last | exact OSeg.at (by assumption) | apply OSeg.app)) (by assumption) (fun _=>rfl) (by assumption) (by decide) (by rfl) (by rfl))):B9:=h a
theorem J4k (h:B9:=by exact ⟨⟨o74,st.l.set d.toNat x⟩,by rw [he];simp only [OwL.val,List.length_set],OwL.len_ok Jcc hok74 (by simp),by rw [he,if_pos rfl],rfl,rfl⟩):B9:=h
theorem J4s (a:A9) (h:A9→B9:=by exact Ja8 tb [] [0,1,2,3,4,5,6,7,8] [9] ([Blk.mk b10 _ _,Blk.mk b6 _ _]) _ Jbn (by kernel_rfl) (by repeat (first | exact zs0 _ | exact zs1 _ | apply zs2 | apply zs3 | apply zs4 | apply zs5)) (List.nil_sublist _)):B9:=h a
theorem J4x (a:A9) (h:A9→B9:=by exact Jbu (Jar (show _=Value.slice _ _ _ from rfl)) rfl rfl rfl):B9:=h a
theorem J6h (a:A9) (h:A9→B9:=by exact Jct (by first | exact Jfm tb rfl rfl rfl (by first | assumption | exact zr (by simp)) (by assumption) (by rfl) | exact Jbo tb rfl rfl rfl (by repeat (first | exact zi0 | apply zi1 | apply zi2)) (by rfl) | exact Jbo tb rfl rfl rfl (by repeat (first | exact zi0 | apply zi1 | apply zi2)) (Jgf (by assumption)) | exact Jbo tb rfl rfl rfl (by repeat (first | exact zi0 | apply zi1 | apply zi2)) (Jfu (fun _=>rfl) (by assumption) rfl)) rfl rfl):B9:=h a
theorem J5v (a:A9) (h:A9→B9:=by exact Jca (by first | exact Jag tb rfl rfl rfl rfl (by first | assumption | exact zr (by simp)) (i:=d) (by first | rfl | omega | (simp;omega)) (by omega) | exact Jal tb rfl rfl rfl rfl (i:=d) (by first | rfl | omega | (simp;omega)) (by omega)) rfl rfl rfl rfl):B9:=h a
theorem J6v (a:A9) (h:A9→B9:=by exact Jca (Jak tb ((⟨o19,s.doors.l⟩:OwL Int)) _ rfl rfl rfl rfl (by assumption) (i:=d) (by first | rfl | omega | (simp;omega)) (by first | omega | (dsimp only;omega) | (dsimp only;rw [List.length_set];omega) | (dsimp only;simp only [List.length_set];omega))) rfl rfl rfl rfl):B9:=h a
theorem J8m (a:A9) (h:A9→B9:=by exact Jpj (Jas tb ((⟨o19,s.doors.l⟩:OwL Int)) (t.doors.l.getD d 0) rfl rfl rfl rfl (by repeat (first | apply OSeg.cons | exact OSeg.here | exact OSeg.last | exact OSeg.at (by assumption) | apply OSeg.app)) (by assumption) (fun _=>rfl) (by assumption) (by decide) (by rfl) (by rfl)) rfl rfl):B9:=h a
theorem J8c (h:B9:=by exact ⟨(⟨o16,s.fans.l⟩:OwL Int),⟨o19,s.doors.l.set d (t.doors.l.getD d 0)⟩,by rw [hcn];simp only [OwL.val,List.length_set],⟨hok16,OwL.len_ok Jcc hok19 (by simp)⟩,fun _=>by rw [Jxl (t:=Jaj t) (s:=Jaj s) hk1,hdk],rfl,rfl⟩):B9:=h
end
theorem Jya (D:Arr XDoor) (st:Arr Int) (d x:Int) (L:List Blk) (R:List Sl) (hD:InR (dsl D) R) (hst:InR (isl st) R):
    Tri Tryz.prog 119 [D.val,st.val,.int .i64 d,.int .i64 x,.bool true].toArray L R (fun v L' R'=>∃p:OwL Int,v=.tuple #[p.val,.int .i64 (Jjp D.l st.l d x)]∧p.ok 1 Jad∧p.l=(if Jjp D.l st.l d x=0 then st.l.set d.toNat x else [])∧p.L 3 Jad ++ L=L'∧R=R'):=by
  refine Jae 80 Tryz.call119 Tryz.func119 rfl rfl rfl ?_
  refine qae ?_
  refine Xc2 ?_
  refine qbm ?_
  refine q_l rfl (Jjx D _ _ hD) ?_
  refine Xbt ?_
  refine q_c (fun hc0=>?_) (fun hc0=>?_)
  ·
   refine Xc1 ?_
   refine Xbs ?_
   refine q_r (L':=L) (R':=R) (Jc8 rfl (Jah (show _=Value.slice _ _ _ from rfl)) (Jah (show _=Value.int _ _ from rfl))) ?_
   have he:Jjp D.l st.l d x=Jb1 D.l:=by rw [Jjp,if_pos hc0]
   exact ⟨.nil,by rw [he];rfl,OwL.nil_ok,by rw [he,if_neg hc0],by rw [Jcl];rfl,rfl⟩
  refine qbo ?_
  refine Xat ?_
  refine Xat ?_
  refine Xaw ?_
  refine q_c (fun hc1=>?_) (fun hc1=>?_)
  ·
   refine Xcq ?_
   refine q_r (L':=L) (R':=R) (Jc8 rfl (Jah (show _=Value.slice _ _ _ from rfl)) (Jah (show _=Value.int _ _ from rfl))) ?_
   have he:Jjp D.l st.l d x=11:=by rw [Jjp,if_neg hc0,if_pos (by omega)]
   exact J0o
  refine qbo ?_
  refine qaa ?_
  refine Xa9 ?_
  apply Jbw (G:=[_,_,_,_]) (j:=2) (cj:=27) rfl rfl (by rfl) rfl (show _=Value.bool _ from rfl) rfl
  ·
   intro hg3
   replace hg3:=qb hg3
   refine qaa ?_
   refine Xat ?_
   refine qbz ?_
   exact qai
  intro junk3
  refine qaf ?_
  refine q_c (fun hc2=>?_) (fun hc2=>?_)
  ·
   refine Xcq ?_
   refine q_r (L':=L) (R':=R) (Jc8 rfl (Jah (show _=Value.slice _ _ _ from rfl)) (Jah (show _=Value.int _ _ from rfl))) ?_
   have he:Jjp D.l st.l d x=15:=by rw [Jjp,if_neg hc0,if_neg (by omega),if_pos (by omega)]
   exact J0o
  have z1:Jb1 D.l=0:=Decidable.not_not.1 hc0
  have z2:st.l.length=D.l.length:=by omega
  have z3:0≤d∧d < D.l.length:=by omega
  have hdg:=Jan (l:=D.l) (k:=d.toNat) default (by omega)
  have hD16:=(Ji8 z1).1
  have hot:=Jtk z1 z3
  refine qbo ?_
  refine qaa ?_
  refine Xa9 ?_
  refine Jfl (k:=35) (show _=Value.bool _ from rfl) (fun hg3=>?_) (fun hg3=>?_)
  ·
   replace hg3:=qb hg3
   refine Jct (Jar (show _=Value.bool _ from rfl)) rfl rfl ?_
   refine Jct (Jar (show _=Value.bool _ from rfl)) rfl rfl ?_
   refine Jfl (k:=37) (show _=Value.bool _ from rfl) (fun hg5=>?_) (fun hg5=>?_)
   ·
    replace hg5:=qb hg5
    refine Jfv rfl rfl ?_
    refine Jfv rfl rfl ?_
    ·
     skip
     refine Jct (by first | exact Jco rfl rfl | exact Jb9 rfl rfl | exact Je9 rfl) rfl rfl ?_
     refine Jpw ?_
     refine qah ?_
     ·
      skip
      iterate 8 refine Jfv rfl rfl ?_
      refine Jpw ?_
      refine qaf ?_
      refine Jcu rfl ?_
      refine Xcq ?_
      refine q_r (L':=L) (R':=R) (Jc8 rfl (Jah (show _=Value.slice _ _ _ from rfl)) (Jah (show _=Value.int _ _ from rfl))) ?_
      have he:Jjp D.l st.l d x=1:=by rw [Jjp,if_neg hc0,if_neg (by omega),if_neg (by omega),if_pos (by omega)]
      exact J0o
   replace hg5:=qb hg5
   (exfalso;cases hg5)
  replace hg3:=qb hg3
  iterate 4 refine Jfv rfl rfl ?_
  ·
   skip
   refine Jfv rfl rfl ?_
   refine Jpw ?_
   refine qah ?_
   ·
    skip
    refine Jct (Jar (show _=Value.int _ _ from rfl)) rfl rfl ?_
    refine Jct (Jar (show _=Value.slice _ _ _ from rfl)) rfl rfl ?_
    refine Jct (Jar (show _=Value.int _ _ from rfl)) rfl rfl ?_
    refine Jct (by first | exact Jag tb rfl rfl rfl rfl (by first | assumption | exact zr (by simp)) (i:=d.toNat) (by first | rfl | omega | (simp;omega)) (by omega) | exact Jal tb rfl rfl rfl rfl (i:=d.toNat) (by first | rfl | omega | (simp;omega)) (by omega)) rfl rfl ?_
    refine Jct (Jgd tb rfl rfl rfl) rfl rfl ?_
    refine J6h ?_
    refine Jct (Je0 tb rfl rfl rfl) rfl rfl ?_
    refine Jct (Jk0 rfl rfl) rfl rfl ?_
    refine Jpw ?_
    refine qaf ?_
    refine q_c (fun hc3=>?_) (fun hc3=>?_)
    ·
     refine Xcq ?_
     refine q_r (L':=L) (R':=R) (Jc8 rfl (Jah (show _=Value.slice _ _ _ from rfl)) (Jah (show _=Value.int _ _ from rfl))) ?_
     have he:Jjp D.l st.l d x=1:=by rw [Jjp,if_neg hc0,if_neg (by omega),if_neg (by omega),if_pos (by omega)]
     exact J0o
    refine qbo ?_
    refine Xad ?_
    refine Ja2 (by first | exact Jag tb rfl rfl rfl rfl (by first | assumption | exact zr (by simp)) (i:=d.toNat) (by first | rfl | omega | (simp;omega)) (by omega) | exact Jal tb rfl rfl rfl rfl (i:=d.toNat) (by first | rfl | omega | (simp;omega)) (by omega)) rfl ?_
    refine Xba ?_
    refine Xal ?_
    refine qah ?_
    refine qah ?_
    refine Jfl (k:=58) (show _=Value.bool _ from rfl) (fun hg2=>?_) (fun hg2=>?_)
    ·
     replace hg2:=qb hg2
     refine Jct (Jar (show _=Value.int _ _ from rfl)) rfl rfl ?_
     refine Jct (Jll rfl rfl) rfl rfl ?_
     refine Jpw ?_
     refine qah ?_
     refine Jfl (k:=62) (show _=Value.bool _ from rfl) (fun hg6=>?_) (fun hg6=>?_)
     ·
      replace hg6:=qb hg6
      refine Jct (Jar (show _=Value.int _ _ from rfl)) rfl rfl ?_
      refine Jct (Jk0 rfl rfl) rfl rfl ?_
      refine Jpw ?_
      refine qah ?_
      refine Jfl (k:=66) (show _=Value.bool _ from rfl) (fun hg10=>?_) (fun hg10=>?_)
      ·
       replace hg10:=qb hg10
       have hsg:=Jan (l:=st.l) (k:=(D.l.getD d.toNat default).other.toNat) 0 (by have:=hot (by omega);omega)
       refine Jct (Jar (show _=Value.slice _ _ _ from rfl)) rfl rfl ?_
       refine Jct (Jar (show _=Value.int _ _ from rfl)) rfl rfl ?_
       have hot2:=hot (by omega)
       refine Jct (by first | exact Jag tb rfl rfl rfl rfl (by first | assumption | exact zr (by simp)) (i:=(D.l.getD d.toNat default).other.toNat) (by first | rfl | omega | (simp;omega)) (by omega) | exact Jal tb rfl rfl rfl rfl (i:=(D.l.getD d.toNat default).other.toNat) (by first | rfl | omega | (simp;omega)) (by omega)) rfl rfl ?_
       refine J6h ?_
       refine Jct (Jll rfl rfl) rfl rfl ?_
       refine Jpw ?_
       refine qaf ?_
       refine q_c (fun hc4=>?_) (fun hc4=>?_)
       ·
        refine Xcq ?_
        refine q_r (L':=L) (R':=R) (Jc8 rfl (Jah (show _=Value.slice _ _ _ from rfl)) (Jah (show _=Value.int _ _ from rfl))) ?_
        have he:Jjp D.l st.l d x=10:=by rw [Jjp,if_neg hc0,if_neg (by omega),if_neg (by omega),if_neg (by omega),if_pos (by omega)]
        exact J0o
       refine Xdc ?_
       refine J4u ?_
       rintro v L' R' ⟨o74,rfl,hok74,rfl,rfl⟩
       refine qc4 ?_
       refine qa4 ?_
       have hsd:=Jan (l:=st.l) (k:=d.toNat) 0 (by omega)
       refine Xby ?_
       refine qaa ?_
       refine J5l ?_
       refine J33 ?_
       rintro v L' R' ⟨rfl,rfl⟩
       refine qam ?_
       refine qbm ?_
       refine Xce ?_
       refine q_r (L':=(⟨o74,st.l.set d.toNat x⟩:OwL Int).L 3 Jad ++ L) (R':=R) (Jc8 rfl (Jah (show _=Value.slice _ _ _ from rfl)) (Jah (show _=Value.int _ _ from rfl))) ?_
       have he:Jjp D.l st.l d x=0:=by rw [Jjp,if_neg hc0,if_neg (by omega),if_neg (by omega),if_neg (by omega),if_neg (by omega)]
       exact J4k
      replace hg10:=qb hg10
      iterate 5 refine Jfv rfl rfl ?_
      refine Jpw ?_
      refine qaf ?_
      refine Jcr rfl ?_
      refine Xdc ?_
      refine J4u ?_
      rintro v L' R' ⟨o74,rfl,hok74,rfl,rfl⟩
      refine qc4 ?_
      refine qa4 ?_
      have hsd:=Jan (l:=st.l) (k:=d.toNat) 0 (by omega)
      refine Xby ?_
      refine qaa ?_
      refine J5l ?_
      refine J33 ?_
      rintro v L' R' ⟨rfl,rfl⟩
      refine qam ?_
      refine qbm ?_
      refine Xce ?_
      refine q_r (L':=(⟨o74,st.l.set d.toNat x⟩:OwL Int).L 3 Jad ++ L) (R':=R) (Jc8 rfl (Jah (show _=Value.slice _ _ _ from rfl)) (Jah (show _=Value.int _ _ from rfl))) ?_
      have he:Jjp D.l st.l d x=0:=by rw [Jjp,if_neg hc0,if_neg (by omega),if_neg (by omega),if_neg (by omega),if_neg (by omega)]
      exact J4k
     replace hg6:=qb hg6
     refine Jfv rfl rfl ?_
     refine Jfv rfl rfl ?_
     refine Jpw ?_
     refine qah ?_
     ·
      skip
      iterate 5 refine Jfv rfl rfl ?_
      refine Jpw ?_
      refine qaf ?_
      refine Jcr rfl ?_
      refine Xdc ?_
      refine J4u ?_
      rintro v L' R' ⟨o74,rfl,hok74,rfl,rfl⟩
      refine qc4 ?_
      refine qa4 ?_
      have hsd:=Jan (l:=st.l) (k:=d.toNat) 0 (by omega)
      refine Xby ?_
      refine qaa ?_
      refine J5l ?_
      refine J33 ?_
      rintro v L' R' ⟨rfl,rfl⟩
      refine qam ?_
      refine qbm ?_
      refine Xce ?_
      refine q_r (L':=(⟨o74,st.l.set d.toNat x⟩:OwL Int).L 3 Jad ++ L) (R':=R) (Jc8 rfl (Jah (show _=Value.slice _ _ _ from rfl)) (Jah (show _=Value.int _ _ from rfl))) ?_
      have he:Jjp D.l st.l d x=0:=by rw [Jjp,if_neg hc0,if_neg (by omega),if_neg (by omega),if_neg (by omega),if_neg (by omega)]
      exact J4k
    replace hg2:=qb hg2
    (exfalso;cases hg2)
theorem Jx1 (D:Arr XDoor) (st:Arr Int) (d x:Int) (L:List Blk) (R:List Sl) (hD:InR (dsl D) R) (hst:InR (isl st) R):
    Tri Tryz.prog 100 [D.val,st.val,.int .i64 d,.int .i64 x].toArray L R (fun v L' R'=>∃p:OwL Int,v=.tuple #[p.val,.int .i64 (Jjp D.l st.l d x)]∧p.ok 1 Jad∧p.l=(if Jjp D.l st.l d x=0 then st.l.set d.toNat x else [])∧p.L 3 Jad ++ L=L'∧R=R'):=by
  refine Jae 17 Tryz.call100 Tryz.func100 rfl rfl rfl ?_
  refine Xd5 ?_
  refine Xal ?_
  refine qbm ?_
  refine Xdh ?_
  refine Jaq rfl (Jya D st d x _ _ hD hst) rfl ?_
  rintro v L' R' ⟨p,rfl,hpk,hpl,rfl,rfl⟩
  refine Xau ?_
  refine Xce ?_
  refine q_r (L':=p.L 3 Jad ++ L) (R':=R) (Jc8 rfl (Jah (show _=Value.slice _ _ _ from rfl)) (Jah (show _=Value.int _ _ from rfl))) ?_
  exact ⟨p,rfl,hpk,hpl,rfl,rfl⟩
theorem Ju5 (a:XAir) (s t:XSetting) (k:Nat) (L:List Blk) (R:List Sl) (ha:AirR a R) (hs:SetR s R) (ht:SetR t R) (hk:k < s.fans.l.length + s.doors.l.length) (hf:t.fans.l.length=s.fans.l.length) (hd:t.doors.l.length=s.doors.l.length) (hn:s.fans.l.length≤8∧s.doors.l.length≤16):
    Tri Tryz.prog 77 [a.val, s.val, t.val, .int .i64 (k : Int)].toArray L R
      (fun w L' R'=>∃pf pd:OwL Int,w=.tuple #[.agg #[pf.val,pd.val],.bool (Jst a.doors.l (Jaj t) (Jaj s) (k:Int))]∧(pf.ok 1 Jad∧pd.ok 1 Jad)∧(Jst a.doors.l (Jaj t) (Jaj s) (k:Int)=true→(pf.l,pd.l)=Jja (Jaj t) (Jaj s) (k:Int))∧pd.L 3 Jad ++ (pf.L 3 Jad ++ L)=L'∧R=R'):=by
  have hsf:=hs.fans
  have hsd:=hs.doors
  have htf:=ht.fans
  have htd:=ht.doors
  have had:=ha.doors
  refine Jae 74 Tryz.call77 Tryz.func77 rfl rfl rfl ?_
  refine Xai ?_
  intro b4
  refine qax ?_
  intro b5
  refine qax ?_
  intro b6
  refine qaq ?_
  intro b8
  refine qaz ?_
  refine qa4 ?_
  refine Jbb tb [0,1,3,4,2,5,6,7,8] ([Blk.mk b5 _ _]) Jbn (by kernel_rfl) (by repeat (first | exact zs0 _ | exact zs1 _ | apply zs2 | apply zs3 | apply zs4 | apply zs5)) ?_
  refine Xae ?_
  refine Xae ?_
  refine Jlz (Jcx (f:=Jad) (xs:=s.fans) tb rfl rfl rfl (by decide) rfl rfl (hsf) (fun _=>rfl) (by omega)) rfl rfl rfl ?_
  rintro v L' R' ⟨o16,rfl,hok16,rfl,rfl⟩
  refine qa1 ?_
  refine Jlz (Jcx (f:=Jad) (xs:=s.doors) tb rfl rfl rfl (by decide) rfl rfl (hsd) (fun _=>rfl) (by omega)) rfl rfl rfl ?_
  rintro v L' R' ⟨o19,rfl,hok19,rfl,rfl⟩
  refine qa1 ?_
  refine qdq ?_
  refine qbr ?_
  intro b10
  refine qbg ?_
  refine qc6 ?_
  refine qaa ?_
  refine Xbd ?_
  refine q_c (fun hc0=>?_) (fun hc0=>?_)
  ·
   have hk1:k < s.fans.l.length:=by omega
   have hg1:=Jan (l:=s.fans.l) (k:=k) 0 hk1
   have hg2:=Jan (l:=t.fans.l) (k:=k) 0 (by omega)
   refine Jam ?_
   refine J4s ?_
   refine Xbk ?_
   refine Xbk ?_
   refine Jca (by first | exact Jag tb rfl rfl rfl rfl (by first | assumption | exact zr (by simp)) (i:=k) (by first | rfl | omega | (simp;omega)) (by omega) | exact Jal tb rfl rfl rfl rfl (i:=k) (by first | rfl | omega | (simp;omega)) (by omega)) rfl rfl rfl rfl ?_
   refine qci ?_
   refine Jca (Jak tb ((⟨o16,s.fans.l⟩:OwL Int)) _ rfl rfl rfl rfl (by assumption) (i:=k) (by first | rfl | omega | (simp;omega)) (by first | omega | (dsimp only;omega) | (dsimp only;rw [List.length_set];omega) | (dsimp only;simp only [List.length_set];omega))) rfl rfl rfl rfl ?_
   refine qba ?_
   refine Jpj (Jas tb ((⟨o16,s.fans.l⟩:OwL Int)) (t.fans.l.getD k 0) rfl rfl rfl rfl (by repeat (first | apply OSeg.cons | exact OSeg.here | exact OSeg.last | exact OSeg.at (by assumption) | apply OSeg.app)) (by assumption) (fun _=>rfl) (by assumption) (by decide) (by rfl) (by rfl)) rfl rfl ?_
   rintro v L' R' ⟨rfl,rfl⟩
   refine qa1 ?_
   refine Jbt (Jaa (Jam (Jaf ?_)))
   refine Xd2 ?_
   refine Xcj ?_
   refine q_r (L':=(⟨o19,s.doors.l⟩:OwL Int).L 3 Jad ++ ((⟨o16,s.fans.l.set k (t.fans.l.getD k 0)⟩:OwL Int).L 3 Jad ++ L)) (R':=R) (Jc8 rfl (Jax (row:=[_,_]) tb rfl rfl rfl (by repeat (first | exact zi0 | apply zi1 | apply zi2)) (by rfl) (by rfl)) (Jah (show _=Value.bool _ from rfl))) ?_
   exact ⟨⟨o16,s.fans.l.set k (t.fans.l.getD k 0)⟩,(⟨o19,s.doors.l⟩:OwL Int),by rw [J0l hk1];simp only [OwL.val,List.length_set],⟨OwL.len_ok Jcc hok16 (by simp),hok19⟩,fun _=>(Jz1 (t:=Jaj t) (s:=Jaj s) hk1).symm,rfl,rfl⟩
  have hk1:s.fans.l.length≤k:=by omega
  obtain ⟨d,hdk⟩:∃d,d=k - s.fans.l.length:=⟨_,rfl⟩
  have hg1:=Jan (l:=s.doors.l) (k:=d) 0 (by omega)
  have hg2:=Jan (l:=t.doors.l) (k:=d) 0 (by omega)
  refine qbv ?_
  refine qaa ?_
  refine Xab ?_
  refine qa9 ?_
  refine Xa5 ?_
  refine Xak ?_
  refine Ja2 (by first | exact Jag tb rfl rfl rfl rfl (by first | assumption | exact zr (by simp)) (i:=d) (by first | rfl | omega | (simp;omega)) (by omega) | exact Jal tb rfl rfl rfl rfl (i:=d) (by first | rfl | omega | (simp;omega)) (by omega)) rfl ?_
  refine qa7 ?_
  refine Xaw ?_
  refine q_c (fun hc1=>?_) (fun hc1=>?_)
  ·
   refine Jam ?_
   refine Jbb tb [0,1,2,3,4,5,6,7,8,9,10,11,12,13,14,15] ([Blk.mk b6 _ _,Blk.mk b5 _ _,Blk.mk b4 _ _]) Jbn (by kernel_rfl) (by repeat (first | exact zs0 _ | exact zs1 _ | apply zs2 | apply zs3 | apply zs4 | apply zs5)) ?_
   refine Xae ?_
   refine Xa0 ?_
   refine Xa0 ?_
   refine Jbu (by first | exact Jag tb rfl rfl rfl rfl (by first | assumption | exact zr (by simp)) (i:=d) (by first | rfl | omega | (simp;omega)) (by omega) | exact Jal tb rfl rfl rfl rfl (i:=d) (by first | rfl | omega | (simp;omega)) (by omega)) rfl rfl rfl ?_
   refine qbl ?_
   refine Jcw rfl (Tri.cast (Jx1 a.doors s.doors (d:Int) (t.doors.l.getD d 0) _ _ had hsd) (by rw [show ((d:Nat):Int)=(k:Int) - s.fans.l.length by omega];rfl)) rfl rfl ?_
   rintro v L' R' ⟨z,rfl,hzk,hzl,rfl,rfl⟩
   refine qas ?_
   refine Jbu (Jar rfl) rfl rfl rfl ?_
   refine Jbu (Jcy rfl rfl) rfl rfl rfl ?_
   refine Jbu (Jcy rfl rfl) rfl rfl rfl ?_
   refine Jbu (Jcg (show _=Value.slice _ _ _ from rfl)) rfl rfl rfl ?_
   refine qcg ?_
   refine Jbt (Jaa (Jam (Jaf ?_)))
   refine qaa ?_
   refine Xaw ?_
   refine q_c (fun hc2=>?_) (fun hc2=>?_)
   ·
    refine qae ?_
    refine Xd2 ?_
    refine Xcj ?_
    refine q_r (L':=(⟨o19,s.doors.l⟩:OwL Int).L 3 Jad ++ ((⟨o16,s.fans.l⟩:OwL Int).L 3 Jad ++ L)) (R':=R) (Jc8 rfl (Jax (row:=[_,_]) tb rfl rfl rfl (by repeat (first | exact zi0 | apply zi1 | apply zi2)) (by rfl) (by rfl)) (Jah (show _=Value.bool _ from rfl))) ?_
    have hcn:Jst a.doors.l (Jaj t) (Jaj s) (k:Int)=false:=by
      rw [Jje (t:=Jaj t) (s:=Jaj s) hk1]
      dsimp only [Jaj]
      rw [← hdk,show ((k:Int) - (s.fans.l.length:Int))=(d:Int) by omega,decide_eq_false hc1,decide_eq_false hc2];rfl
    exact ⟨(⟨o16,s.fans.l⟩:OwL Int),(⟨o19,s.doors.l⟩:OwL Int),by rw [hcn] <;> rfl,⟨hok16,hok19⟩,fun h=>absurd (hcn.symm.trans h) (by decide),rfl,rfl⟩
   refine qcl ?_
   refine J4s ?_
   refine Xbk ?_
   refine Xbk ?_
   refine J5v ?_
   refine qci ?_
   refine J6v ?_
   refine qba ?_
   refine J8m ?_
   rintro v L' R' ⟨rfl,rfl⟩
   refine qa1 ?_
   refine Jbt (Jaa (Jam (Jaf ?_)))
   refine Xd2 ?_
   refine Xbb ?_
   refine q_r (L':=(⟨o19,s.doors.l.set d (t.doors.l.getD d 0)⟩:OwL Int).L 3 Jad ++ ((⟨o16,s.fans.l⟩:OwL Int).L 3 Jad ++ L)) (R':=R) (Jc8 rfl (Jax (row:=[_,_]) tb rfl rfl rfl (by repeat (first | exact zi0 | apply zi1 | apply zi2)) (by rfl) (by rfl)) (Jah (show _=Value.bool _ from rfl))) ?_
   have hcn:Jst a.doors.l (Jaj t) (Jaj s) (k:Int)=true:=by
     rw [Jje (t:=Jaj t) (s:=Jaj s) hk1]
     dsimp only [Jaj]
     rw [← hdk,show ((k:Int) - (s.fans.l.length:Int))=(d:Int) by omega]
     first
       | rw [decide_eq_true (Decidable.not_not.1 hc1)];rfl
       | rw [decide_eq_true (Decidable.not_not.1 hc2),Bool.or_true]
   exact J8c
  refine qcl ?_
  refine J4s ?_
  refine Xbk ?_
  refine Xbk ?_
  refine J5v ?_
  refine qci ?_
  refine J6v ?_
  refine qba ?_
  refine J8m ?_
  rintro v L' R' ⟨rfl,rfl⟩
  refine qa1 ?_
  refine Jbt (Jaa (Jam (Jaf ?_)))
  refine Xd2 ?_
  refine Xbb ?_
  refine q_r (L':=(⟨o19,s.doors.l.set d (t.doors.l.getD d 0)⟩:OwL Int).L 3 Jad ++ ((⟨o16,s.fans.l⟩:OwL Int).L 3 Jad ++ L)) (R':=R) (Jc8 rfl (Jax (row:=[_,_]) tb rfl rfl rfl (by repeat (first | exact zi0 | apply zi1 | apply zi2)) (by rfl) (by rfl)) (Jah (show _=Value.bool _ from rfl))) ?_
  have hcn:Jst a.doors.l (Jaj t) (Jaj s) (k:Int)=true:=by
    rw [Jje (t:=Jaj t) (s:=Jaj s) hk1]
    dsimp only [Jaj]
    rw [← hdk,show ((k:Int) - (s.fans.l.length:Int))=(d:Int) by omega]
    first
      | rw [decide_eq_true (Decidable.not_not.1 hc1)];rfl
      | rw [decide_eq_true (Decidable.not_not.1 hc2),Bool.or_true]
  exact J8c
theorem erase_take {l:List Int} {i:Nat}:l.eraseIdx i=l.take i ++ l.drop (i + 1):=List.eraseIdx_eq_take_drop_succ _ _
theorem Jrr {nx:Sts→Int→Option Sts} {s:Sts} {left:List Int} {i:Nat} {X:Option (List Int)} (hi:i < left.length) (h:X=((List.range left.length).drop i).findSome? (Jl3 nx (Jfg nx) s left)) (hn:Jl3 nx (Jfg nx) s left i=none):X=((List.range left.length).drop (i + 1)).findSome? (Jl3 nx (Jfg nx) s left):=by
  rw [h,Jd2 (Jhd hi),List.findSome?_cons,hn]
theorem Jhf (a : XAir) (t : XSetting) (fc : Arr XFace) (A : List Bool) (K : List XSpan → List Int) (h0 : Ja4 a = 0) (hft : Jdq a t = true) (hA : AiryIs a.mine A) (hK : ∀ fl, CircIs a.mine fl (K fl)) (hneed : Jfp fc.l) (hnc : fc.l.length ≤ 1000) (left : Arr Int) (s : XSetting) (L : List Blk) (R : List Sl)
    (ih:∀left':Arr Int,left'.l.length + 1=left.l.length→∀(s:XSetting) (L:List Blk) (R:List Sl),AirR a R→SetR s R→SetR t R→InR (Jqk fc) R→InR (isl left') R→Jdq a s=true→(∀k∈left'.l,0≤k∧k < t.fans.l.length + t.doors.l.length)→
      Tri Tryz.prog 47 [a.val,s.val,t.val,left'.val,fc.val].toArray L R (fun w L' R'=>∃p:OwL Int,w=.tuple #[p.val,.bool (Jfg (nxS a A K fc.l (Jaj t)) (Jaj s) left'.l).isSome]∧p.ok 1 Jad∧p.l=(Jfg (nxS a A K fc.l (Jaj t)) (Jaj s) left'.l).getD []∧p.L 3 Jad ++ L=L'∧R=R'))
    (ha:AirR a R) (hs:SetR s R) (ht:SetR t R) (hfc:InR (Jqk fc) R) (hleft:InR (isl left) R) (hfs:Jdq a s=true) (hrng:∀k∈left.l,0≤k∧k < t.fans.l.length + t.doors.l.length) (hl3:left.l.length≤1000):
    Tri Tryz.prog 47 [a.val,s.val,t.val,left.val,fc.val].toArray L R (fun w L' R'=>∃p:OwL Int,w=.tuple #[p.val,.bool (Jfg (nxS a A K fc.l (Jaj t)) (Jaj s) left.l).isSome]∧p.ok 1 Jad∧p.l=(Jfg (nxS a A K fc.l (Jaj t)) (Jaj s) left.l).getD []∧p.L 3 Jad ++ L=L'∧R=R'):=by
  refine Jv2 Tryz.call47 hleft fun hcap=>?_
  have hln:=Jpa h0 hfs hft
  refine Jae 84 Tryz.call47 Tryz.func47 rfl rfl rfl ?_
  refine Xai ?_
  intro b5
  refine qax ?_
  intro b6
  refine qax ?_
  intro b7
  refine qc4 ?_
  refine Xb2 ?_
  refine Xat ?_
  refine Xbq ?_
  refine q_c (fun hc0=>?_) (fun hc0=>?_)
  ·
   refine Xd5 ?_
   refine Xcj ?_
   refine q_r (L':=L) (R':=R) (Jc8 rfl (Jah (show _=Value.slice _ _ _ from rfl)) (Jah (show _=Value.bool _ from rfl))) ?_
   have hn:left.l=[]:=List.eq_nil_of_length_eq_zero (by omega)
   exact ⟨.nil,by rw [hn,Jkx];rfl,OwL.nil_ok,by rw [hn,Jkx];rfl,by rw [Jcl];rfl,rfl⟩
  have hne:left.l≠[]:=fun h=>by rw [h] at hc0;exact hc0 rfl
  refine Xdr ?_
  refine Jai [(3,Value.slice _ _ _),(4,Value.slice _ _ _),(5,Value.pointer _),(6,Value.pointer _),(7,Value.pointer _),(12,Value.int _ _)] (by repeat' (first | exact trivial | refine And.intro rfl ?_)) fun tq0=>?_
  refine q_s [10,11,12,13,14,15,16,17,18,19,23,24,25,26,27,28,29,30,31,32,33,34,35,36,37,38,39,40,41,42,43,44,45,46,47,48,49,50,51,52,53,54,55,56,57,58,59,60,61,62,63,64,65,66,67,68,69,70,71,72,73,74,75,76,77,78,79,80,81,82,83] (fun g:{i:Nat // i≤left.l.length∧Jfg (nxS a A K fc.l (Jaj t)) (Jaj s) left.l=((List.range left.l.length).drop i).findSome? (Jl3 (nxS a A K fc.l (Jaj t)) (Jfg (nxS a A K fc.l (Jaj t))) (Jaj s) left.l)}=>[(12,.int .i64 ((g.1:Nat):Int))]) (fun g=>left.l.length - g.1) (⟨0,by omega,by rw [List.drop_zero];exact Jg8 hne⟩) ?_
  rintro ⟨i,hi0,hsr⟩ junk
  try dsimp only
  refine Xcg ?_
  refine q_c (fun hc1=>?_) (fun hc1=>?_)
  ·
   have hi:i < left.l.length:=by omega
   have hkr:=hrng _ (List.mem_of_getElem? (Jan 0 hi))
   obtain ⟨k,hk⟩:∃k:Nat,left.l.getD i 0=(k:Int):=⟨(left.l.getD i 0).toNat,by omega⟩
   have hkg:left.l[i]?=some (k:Int):=by rw [← hk];exact Jan 0 hi
   refine Ja3 (Jaa (Jam (Ja1 (Jam ?_))))
   refine Jbb tb [0,1,2,3,4,5,6,7,8,9,10,11,12,13] ([Blk.mk b7 _ _,Blk.mk b6 _ _,Blk.mk b5 _ _]) Jbn (by kernel_rfl) (by repeat (first | exact zs0 _ | exact zs1 _ | apply zs2 | apply zs3 | apply zs4 | apply zs5)) ?_
   refine Xef ?_
   refine J4x ?_
   refine qao ?_
   refine Jbu (by first | exact Jag tb rfl rfl rfl rfl (by first | assumption | exact zr (by simp)) (i:=i) (by first | rfl | omega | (simp;omega)) (by omega) | exact Jal tb rfl rfl rfl rfl (i:=i) (by first | rfl | omega | (simp;omega)) (by omega)) rfl rfl rfl ?_
   refine qbl ?_
   refine Jcw rfl (Ju5 a s t k _ _ ha hs ht (by omega) (by omega) (by omega) (by omega)) rfl rfl ?_
   rintro v L' R' ⟨pf,pd,rfl,⟨hpf,hpd⟩,hput,rfl,rfl⟩
   refine qas ?_
   refine Jbu (Jar rfl) rfl rfl rfl ?_
   refine Jbu (Jcy rfl rfl) rfl rfl rfl ?_
   refine Jbu (Jcy rfl rfl) rfl rfl rfl ?_
   refine qbr ?_
   intro b13
   refine qbg ?_
   refine Jbu (Jcg (show _=Value.bool _ from rfl)) rfl rfl rfl ?_
   refine Jbt (Jaa (Jam (Jam ?_)))
   refine Jby (A:=[_]) (wd:=1) [] (fun _=>rfl) (by decide) hpd (fun s hs=>by cases hs) ?_
   refine qb1 ?_
   refine Jby (A:=[_]) (wd:=1) [] (fun _=>rfl) (by decide) hpf (fun s hs=>by cases hs) ?_
   refine qb1 ?_
   obtain ⟨nxt,hnxt⟩:∃nxt:XSetting,nxt=⟨pf.arr,pd.arr⟩:=⟨_,rfl⟩
   obtain ⟨R1,hR1e⟩:∃R1,R1=isl pf.arr :: isl pd.arr :: R:=⟨_,rfl⟩
   have hR1:∀r∈R,InR r R1:=fun r hr=>Jab (by rw [hR1e];exact .tail _ (.tail _ hr))
   have hnR:SetR nxt R1:=by rw [hnxt,hR1e];exact ⟨Jab (.head _),Jab (.tail _ (.head _))⟩
   refine J2x (show _=R1 by rw [hR1e]) ?_
   refine Jg5 (L':=⟨b13,nxt.cells,25⟩ :: ⟨b7,t.cells,25⟩ :: ⟨b6,s.cells,25⟩ :: ⟨b5,a.cells,35⟩ :: L) (by rw [hnxt];rfl) ?_
   have hty:Jl3 (nxS a A K fc.l (Jaj t)) (Jfg (nxS a A K fc.l (Jaj t))) (Jaj s) left.l i=((nxS a A K fc.l (Jaj t)) (Jaj s) (k:Int)).bind fun s'=>(Jfg (nxS a A K fc.l (Jaj t)) s' (left.l.eraseIdx i)).map ((k:Int) :: ·):=by rw [Jl3,hk]
   refine qay ?_
   refine Xc3 ?_
   refine q_c (fun hc2=>?_) (fun hc2=>?_)
   ·
    refine Jb6 (Jbk (Ja6 (Jaa (Jaf ?_))))
    refine Xah ?_
    have hnx:(nxS a A K fc.l (Jaj t)) (Jaj s) (k:Int)=none:=by rw [nxS,if_neg (by rw [hc2];decide)]
    exact Jat ⟨i + 1,by omega,Jrr hi hsr (by rw [hty,hnx];rfl)⟩ (by repeat (first | exact Off.refl | apply Off.upd rfl | apply Off.havoc rfl | apply Off.updL rfl | apply Off.left rfl)) (by repeat' (first | exact trivial | refine And.intro rfl ?_)) (by repeat (first | exact zs0 _ | exact zs1 _ | apply zs2 | apply zs3 | apply zs4 | apply zs5)) hR1 (by dsimp only;omega)
   have hput1:=hput hc2
   have hns:Jaj nxt=Jja (Jaj t) (Jaj s) (k:Int):=by rw [hnxt,← hput1]
   have hfn:Jdq a nxt=true:=by
     have h1:=J0j (a:=a) (s:=Jaj s) (t:=Jaj t) ((Jox a rfl).trans hfs) ((Jox a rfl).trans hft) (k:Int)
     rw [← hns] at h1
     exact (Jox a rfl).trans h1
   have ha1:=Jbm ha hR1
   have hs1:=Jbc hs hR1
   have he1:Jpo a s a nxt=0:=Jle.2 ⟨Jfs.2 ⟨h0,hfs⟩,Jfs.2 ⟨h0,hfn⟩,Nat.le_refl _,Nat.le_refl _⟩
   refine Xdp ?_
   refine Xcl ?_
   refine Jaq rfl (Jgz a a s nxt fc A A (K (Jgi a s A).2) (K (Jgi a nxt A).2) _ _ ha1 hs1 ha1 hnR (hfc.mono hR1) hneed hnc (fun _=>hA) (fun _=>hA) (hK _) (hK _)) rfl ?_
   rintro v L' R' ⟨v1,rfl,hvk,hvg,rfl,rfl⟩
   have hvc:v1.get=J8q a A K fc.l (Jaj s) (Jja (Jaj t) (Jaj s) (k:Int)):=by rw [hvg,J1e,if_pos he1,J8q,← hns,Jzf,Jzf]
   refine Ja2 (Jar rfl) rfl ?_
   refine Xea ?_
   intro b15
   refine qak ?_
   refine Xav ?_
   refine Xcp ?_
   apply Jbw (G:=[_,_,_]) (j:=2) (cj:=53) rfl rfl (by rfl) rfl (show _=Value.bool _ from rfl) rfl
   ·
    intro hg3
    replace hg3:=qb hg3
    refine qa8 ?_
    refine q_l rfl (Jiv v1 _ _) ?_
    refine qb4 ?_
    exact qai
   intro junk3
   refine qaf ?_
   refine q_c (fun hc3=>?_) (fun hc3=>?_)
   ·
    refine Jb6 (Jbk (Ja6 (Jaa (Jaf ?_))))
    refine Xah ?_
    have hnx:(nxS a A K fc.l (Jaj t)) (Jaj s) (k:Int)=none:=by
      rcases hc3 with h | h
      · exact absurd he1 h
      · rw [nxS,if_pos hc2,← hvc,if_neg (by rw [h];decide)]
    exact Jat ⟨i + 1,by omega,Jrr hi hsr (by rw [hty,hnx];rfl)⟩ (by repeat (first | exact Off.refl | apply Off.upd rfl | apply Off.havoc rfl | apply Off.updL rfl | apply Off.left rfl)) (by repeat' (first | exact trivial | refine And.intro rfl ?_)) (by repeat (first | exact zs0 _ | exact zs1 _ | apply zs2 | apply zs3 | apply zs4 | apply zs5)) hR1 (by dsimp only;omega)
   have hnx:(nxS a A K fc.l (Jaj t)) (Jaj s) (k:Int)=some (Jaj nxt):=by rw [nxS,if_pos hc2,← hvc,if_pos hc3.2,hns]
   rw [hnx,Option.bind_some] at hty
   have hle1:=hleft.mono hR1
   have htl:(left.l.take i).length=i:=by rw [List.length_take];omega
   have hdl:(left.l.drop (i + 1)).length=left.l.length - (i + 1):=List.length_drop
   have htl2:(J71 left i).l.length=i:=htl
   refine qcl ?_
   refine Jke (L':=⟨b13,nxt.cells,25⟩ :: ⟨b7,t.cells,25⟩ :: ⟨b6,s.cells,25⟩ :: ⟨b5,a.cells,35⟩ :: L) (by repeat (first | exact zs0 _ | exact zs1 _ | apply zs2 | apply zs3 | apply zs4 | apply zs5)) (Jac _) ?_
   refine Jwr i hle1 ?_
   refine J27 (m:=i + 1) (hle1.mono fun r hr=>Jab (.tail _ hr)) (by omega) (by omega) (by decide) ?_
   refine Jbb tb [0,1,2,4,5,6,7,3,8,9] ([]) Jbn (by kernel_rfl) (by repeat (first | exact zs0 _ | exact zs1 _ | apply zs2 | apply zs3 | apply zs4 | apply zs5)) ?_
   refine J4x ?_
   refine qao ?_
   refine Jbu (Jmh tb rfl rfl rfl rfl (n:=(left.l.take i).length) (by first | rfl | omega | (simp;omega)) (by omega)) rfl rfl rfl ?_
   refine J4x ?_
   refine qao ?_
   refine qc2 ?_
   refine Jbu (Jx6 (m:=i + 1) tb rfl rfl rfl rfl (by omega) (by omega) (by omega)) rfl rfl rfl ?_
   refine Jlz (Jcx (f:=Jad) (xs:=J71 left i) tb rfl rfl rfl (by decide) rfl rfl ((Jab (.tail _ (.head _)))) (fun _=>rfl) (by omega)) rfl rfl rfl ?_
   rintro v L' R' ⟨o61,rfl,hok61,rfl,rfl⟩
   refine qa1 ?_
   refine Jlz (Jsb tb (⟨o61,left.l.take i⟩:OwL Int) (J19 left (i + 1) 1) rfl rfl rfl (by decide) rfl (show Value.slice (if left.cap=i + 1 then left.a else left.a.map (·.add ((i + 1) * 1))) (left.l.length - (i + 1)) (left.cap - (i + 1))=Value.slice _ (left.l.drop (i + 1)).length _ by rw [hdl]) hok61 (Jab (.head _)) (by repeat (first | apply OSeg.cons | exact OSeg.here | exact OSeg.last | exact OSeg.at (by assumption) | apply OSeg.app)) (fun _=>rfl) (by dsimp only;rw [htl,hdl];omega)) rfl rfl rfl ?_
   rintro v L' R' ⟨o66,rfl,hok66,rfl,rfl⟩
   refine qa1 ?_
   refine Jbu (Jcg (show _=Value.slice _ _ _ from rfl)) rfl rfl rfl ?_
   refine qb9 ?_
   have hre:left.l.take i ++ (J19 left (i + 1) 1).l=left.l.eraseIdx i:=erase_take.symm
   rw [hre] at hok66 ⊢
   obtain ⟨rest,hrest⟩:∃rest:OwL Int,rest=⟨o66,left.l.eraseIdx i⟩:=⟨_,rfl⟩
   have hrl:rest.l=left.l.eraseIdx i:=by rw [hrest]
   have hrk:rest.ok 1 Jad:=by rw [hrest];exact hok66
   refine Jg5 (show _=rest.L 3 Jad ++ (⟨b13,nxt.cells,25⟩ :: ⟨b7,t.cells,25⟩ :: ⟨b6,s.cells,25⟩ :: ⟨b5,a.cells,35⟩ :: L) by rw [hrest]) ?_
   rw [← hrest]
   refine Jby (A:=[]) (wd:=1) [] (fun _=>rfl) (by decide) hrk (fun s hs=>by cases hs) ?_
   refine Jg5 (by simp only [List.nil_append];rfl) ?_
   refine Jke (R':=isl rest.arr :: R1) (List.Sublist.refl _) (fun r hr=>Jab (by
     rcases List.mem_cons.1 hr with h | h
     · rw [h];exact .head _
     · exact .tail _ (.tail _ (.tail _ h)))) ?_
   have hR2:∀r∈R1,InR r (isl rest.arr :: R1):=fun r hr=>Jab (.tail _ hr)
   have hR3:∀r∈R,InR r (isl rest.arr :: R1):=fun r hr=>(hR1 r hr).mono hR2
   have hrl1:rest.l.length + 1=left.l.length:=by rw [hrl,List.length_eraseIdx,if_pos hi];omega
   have hrr:∀k∈rest.arr.l,0≤k∧k < t.fans.l.length + t.doors.l.length:=fun k hk=>hrng k (List.mem_of_mem_eraseIdx (by rw [← hrl];exact hk))
   refine qay ?_
   refine Xdv ?_
   refine qbm ?_
   refine Jaq rfl (ih rest.arr hrl1 nxt _ _ (Jbm ha hR3) (Jbc hnR hR2) (Jbc ht hR3) (hfc.mono hR3) (Jab (.head _)) hfn hrr) rfl ?_
   rintro v L' R' ⟨p,rfl,hpk,hpl,rfl,rfl⟩
   rw [show rest.arr.l=left.l.eraseIdx i from hrl] at hpl ⊢
   refine Ja2 (Jar rfl) rfl ?_
   refine Xcr ?_
   refine Xbr ?_
   refine Xdi ?_
   refine q_c (fun hc4=>?_) (fun hc4=>?_)
   ·
    obtain ⟨r,hr⟩:=Option.isSome_iff_exists.1 hc4
    rw [hr,Option.getD_some] at hpl
    have hsn:Jfg (nxS a A K fc.l (Jaj t)) (Jaj s) left.l=some ((k:Int) :: r):=by
      rw [hsr,Jd2 (Jhd hi),List.findSome?_cons,hty,hr];rfl
    have hpn:=Jq3 _ rfl hr
    have hpn2:(left.l.eraseIdx i).length≤1000:=by rw [← hrl];omega
    have hle3:=hleft.mono hR3
    refine qae ?_
    refine Xad ?_
    refine Ja2 (by first | exact Jag tb rfl rfl rfl rfl (by first | assumption | exact zr (by simp)) (i:=i) (by first | rfl | omega | (simp;omega)) (by omega) | exact Jal tb rfl rfl rfl rfl (i:=i) (by first | rfl | omega | (simp;omega)) (by omega)) rfl ?_
    refine qa7 ?_
    refine qcx ?_
    rintro v L' R' ⟨b81,rfl,rfl,hR81⟩
    replace hR81:=hR81.symm;subst hR81
    refine qbm ?_
    have hbk:(⟨.own b81 1 [],[(k:Int)]⟩:OwL Int).ok 1 Jad:=Ji5 Jcc rfl (by decide)
    refine J89 (Jln (f:=Jad) (n:=1) [(k:Int)] rfl _) ?_
    refine Jgt (Jlr tb (⟨.own b81 1 [],[(k:Int)]⟩:OwL Int) p rfl rfl rfl rfl rfl hbk hpk Jcc OSeg.here (by repeat (first | exact Jaw | apply Jau | apply Jba)) (Nat.succ_pos 0) (fun _=>rfl) (by rw [hpl];simp;omega)) rfl rfl ?_
    rintro v L' R' ⟨o83,rfl,hok83,rfl,rfl⟩
    refine qc4 ?_
    refine Xdk ?_
    refine Jbe (L':=(⟨o83,[(k:Int)] ++ p.l⟩:OwL Int).L 3 Jad ++ L) (R':=R) (Jc8 rfl (Jah (show _=Value.slice _ _ _ from rfl)) (Jah (show _=Value.bool _ from rfl))) ?hp ?hL ?hR
    case hp=>exact ⟨⟨o83,[(k:Int)] ++ p.l⟩,by rw [hsn];rfl,hok83,by rw [hsn,hpl];rfl,rfl,rfl⟩
    case hL=>exact (by repeat (first | exact zs0 _ | exact zs1 _ | apply zs2 | apply zs3 | apply zs4 | apply zs5))
    case hR=>exact hR3
   refine Xa1 ?_
   have hrn:Jfg (nxS a A K fc.l (Jaj t)) (Jaj nxt) (left.l.eraseIdx i)=none:=by cases hz:Jfg (nxS a A K fc.l (Jaj t)) (Jaj nxt) (left.l.eraseIdx i) with | none=>rfl | some r=>rw [hz] at hc4;cases hc4
   exact Jat ⟨i + 1,by omega,Jrr hi hsr (by rw [hty,hrn];rfl)⟩ (by repeat (first | exact Off.refl | apply Off.upd rfl | apply Off.havoc rfl | apply Off.updL rfl | apply Off.left rfl)) (by repeat' (first | exact trivial | refine And.intro rfl ?_)) (by repeat (first | exact zs0 _ | exact zs1 _ | apply zs2 | apply zs3 | apply zs4 | apply zs5)) hR3 (by dsimp only;omega)
  obtain rfl:i=left.l.length:=by omega
  have hsn:Jfg (nxS a A K fc.l (Jaj t)) (Jaj s) left.l=none:=by rw [hsr,List.drop_eq_nil_of_le (by simp)];rfl
  refine qbk ?_
  refine qc4 ?_
  refine Xbb ?_
  refine q_r (L':=L) (R':=R) (Jc8 rfl (Jah (show _=Value.slice _ _ _ from rfl)) (Jah (show _=Value.bool _ from rfl))) ?_
  exact ⟨.nil,by rw [hsn];rfl,OwL.nil_ok,by rw [hsn];rfl,by rw [Jcl];rfl,rfl⟩
end Go.Proofs.YtihompplndcdeaaGreat
