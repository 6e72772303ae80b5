import Derived.Test.YtihompplndcdeaaSpans
import Derived.Test.YtihompplndcdeaaCircS
set_option linter.unusedVariables false
set_option linter.unusedSimpArgs false
section
/-
  Faces and their air: airflow.Fed and the reference's. By an AI agent; no person has read it.
-/
namespace Go.Proofs.Ytihompplndcdeaa
open Go.Aw Go
set_option maxRecDepth 20000
attribute [local irreducible] CJ LJ DJ Tri YV Gives Jdn Jaw Jbk Jdo RV Jay OwL.L
section
variable {A9 B9:Prop}
theorem Jwo (a:A9) (h:A9→B9:=by exact Jh0 (Jam (f:=Jad) (a:=_) tb rfl rfl rfl rfl (w2) (by repeat (first | apply OSeg.cons | exact OSeg.here | exact OSeg.last | exact OSeg.at (by assumption) | apply OSeg.app)) (Ja1 (by repeat (first | exact zi0 | apply zi1 | apply zi2)) rfl rfl) rfl (by first | omega | (simp only [List.length_cons,List.length_nil,List.length_append];omega))) rfl):B9:=h a
theorem J2r (a:A9) (h:A9→B9:=by exact Jbx (Jap (show _=Value.slice _ _ _ from rfl)) rfl rfl rfl):B9:=h a
theorem J54 (a:A9) (h:A9→B9:=by exact Jax (by first | exact Jaf tb rfl rfl rfl rfl (by first | assumption | exact zr (by simp)) (i:=k) (by first | rfl | omega | (simp;omega)) (by omega) | exact Jah tb rfl rfl rfl rfl (i:=k) (by first | rfl | omega | (simp;omega)) (by omega)) rfl):B9:=h a
theorem J56 (a:A9) (h:A9→B9:=by exact Jbx (by first | exact Jaf tb rfl rfl rfl rfl (by first | assumption | exact zr (by simp)) (i:=f.road.toNat) (by first | rfl | omega | (simp;omega)) (by omega) | exact Jah tb rfl rfl rfl rfl (i:=f.road.toNat) (by first | rfl | omega | (simp;omega)) (by omega)) rfl rfl rfl):B9:=h a
end
structure XFace where
  road:Int
  need:Int
  deriving Inhabited
def XFace.cells (s:XFace):List Value:=[.int .i64 s.road,.int .i64 s.need]
abbrev Jty (x:Arr XFace):Sl:=x.sl 2 XFace.cells []
structure WrTo {α:Type} (n:Nat) (z:α) (g:Nat→α) (i:Nat) (l:List α):Prop where
  len:l.length=n
  don:∀j:Nat,j < i→l[j]?=some (g j)
  non:∀j:Nat,i≤j→j < n→l[j]?=some z
theorem WrTo.zero {α:Type} {n:Nat} {z:α} {g:Nat→α}:WrTo n z g 0 (List.replicate n z):=⟨by simp,fun j hj=>by omega,fun j _ hj=>by rw [List.getElem?_replicate,if_pos hj]⟩
theorem WrTo.next {α:Type} {n:Nat} {z:α} {g:Nat→α} {i:Nat} {l:List α} (h:WrTo n z g i l) (hi:i < n) {x:α} (hx:x=g i):WrTo n z g (i + 1) (l.set i x):=by
  have hl:=h.len
  refine ⟨by simp [hl],fun j hj=>?_,fun j h1 h2=>?_⟩
  · rw [List.getElem?_set]
    split
    · rename_i e;rw [if_pos (by omega),hx,e]
    · exact h.don j (by omega)
  · rw [List.getElem?_set_ne (by omega)]
    exact h.non j (by omega) h2
theorem WrTo.stay {α:Type} {n:Nat} {z:α} {g:Nat→α} {i:Nat} {l:List α} (h:WrTo n z g i l) (hi:i < n) (hx:z=g i):WrTo n z g (i + 1) l:=by
  refine ⟨h.len,fun j hj=>?_,fun j h1 h2=>h.non j (by omega) h2⟩
  rcases Nat.lt_or_ge j i with h1 | h1
  · exact h.don j h1
  · obtain rfl : j = i := by omega
    rw [h.non j (Nat.le_refl _) hi,hx]
theorem WrTo.done {α:Type} {n:Nat} {z:α} {g:Nat→α} {l:List α} (h:WrTo n z g n l):l=(List.range n).map g:=by
  have hl:=h.len
  refine List.ext_getElem? fun j=>?_
  rcases Nat.lt_or_ge j n with hj | hj
  · rw [h.don j hj,List.getElem?_map,List.getElem?_range hj];rfl
  · rw [List.getElem?_eq_none (by omega),List.getElem?_eq_none (by simp;omega)]
def Js6 (x:XSpan) (need:Int):Int:=
  if x.high < x.low then 0 else if (need≤0∨need≤x.low)∨x.high≤ -need then 1 else if -need < x.low∧x.high < need then -1 else 0
def Jgi (fl:List XSpan) (f:XFace):Int:=if 0≤f.road∧f.road < fl.length then Js6 (fl.getD f.road.toNat default) f.need else 0
def Jww (fl:List XSpan) (fc:List XFace):List Int:=(List.range fc.length).map fun k=>Jgi fl (fc.getD k default)
def Jhn (fc:List XFace):Prop:=∀f∈fc,-4611686018427387904≤f.need∧f.need≤4611686018427387904
theorem J2p (x:XSpan) (need:Int) (L:List Blk) (R:List Sl) (hn:-4611686018427387904≤need∧need≤4611686018427387904):
    Tri Try.prog 70 [x.val,.int .i64 need].toArray L R (fun v L' R'=>v=.int .i64 (Js6 x need)∧L=L'∧R=R'):=by
  refine Jae 39 Try.call70 Try.func70 rfl rfl rfl ?_
  refine Xaj ?_
  intro b2
  refine qad ?_
  refine Jbr (Jaa (Jan (Ja9 (Jan (Jaj ?_)))))
  refine Xa1 ?_
  refine qa5 ?_
  refine Xbt ?_
  refine q_c (fun hc0=>?_) (fun hc0=>?_)
  ·
   refine Xc4 ?_
   refine q_i (L':=L) (R':=R) ?_
   exact ⟨by rw [Js6,if_pos hc0],rfl,rfl⟩
  refine Xbb ?_
  refine qbx ?_
  refine qah ?_
  apply Jbi (G:=[_,_,_,_]) (j:=2) (cj:=14) rfl rfl (by rfl) rfl (show _=Value.bool _ from rfl) rfl
  ·
   intro hg3
   replace hg3:=qb hg3
   refine Xah ?_
   refine qbz ?_
   exact qai
  intro junk3
  refine qah ?_
  apply Jbi (G:=[_,_,_,_,_]) (j:=8) (cj:=20) rfl rfl (by rfl) rfl (show _=Value.bool _ from rfl) rfl
  ·
   intro hg9
   replace hg9:=qb hg9
   refine Xah ?_
   refine qcq ?_
   refine qbx ?_
   exact qai
  intro junk9
  refine Xbt ?_
  refine q_c (fun hc1=>?_) (fun hc1=>?_)
  ·
   refine Xc4 ?_
   refine q_i (L':=L) (R':=R) ?_
   exact ⟨by rw [Js6,if_neg (by omega),if_pos (by omega)],rfl,rfl⟩
  refine qae ?_
  refine Xah ?_
  refine qcq ?_
  refine qa5 ?_
  refine qah ?_
  apply Jb3 (G:=[_,_,_,_]) (j:=5) (cj:=33) rfl rfl (by rfl) rfl (show _=Value.bool _ from rfl) rfl
  ·
   intro hg6
   replace hg6:=qb hg6
   refine Xah ?_
   refine qaj ?_
   exact qai
  intro junk6
  refine Xbt ?_
  refine q_c (fun hc2=>?_) (fun hc2=>?_)
  ·
   refine Xc4 ?_
   refine q_i (L':=L) (R':=R) ?_
   exact ⟨by rw [Js6,if_neg (by omega),if_neg (by omega),if_pos (by omega)],rfl,rfl⟩
  refine Ja4 (Ja7 (Jaa (Jan (Jaj ?_))))
  refine Xau ?_
  refine q_i (L':=L) (R':=R) ?_
  exact ⟨by rw [Js6,if_neg (by omega),if_neg (by omega),if_neg (by omega)],rfl,rfl⟩
theorem Ju2 (fl:Arr XSpan) (fc:Arr XFace) (L:List Blk) (R:List Sl) (hfl:InR (Jrc fl) R) (hfc:InR (Jty fc) R) (hn:Jhn fc.l) (hlen:fc.l.length≤1000) (hflen:fl.l.length≤1000):
    Tri Try.prog 52 [fl.val,fc.val].toArray L R (fun w L' R'=>∃p:OwL Int,w=p.val∧p.ok 1 Jad∧p.l=Jww fl.l fc.l∧p.L 3 Jad ++ L=L'∧R=R'):=by
  refine Jae 41 Try.call52 Try.func52 rfl rfl rfl ?_
  refine Xbf ?_
  refine qam ?_
  refine Xat ?_
  refine qc7 ?_
  rintro v L' R' ⟨b10,rfl,rfl,hR10⟩
  replace hR10:=hR10.symm;subst hR10
  refine qc4 ?_
  refine qco ?_
  refine Jlf (Jgh (f:=Jad) (x:=0) rfl _) ?_
  refine qay ?_
  refine Xcl ?_
  refine Jag [(0,Value.slice _ _ _),(5,Value.slice _ _ _),(11,Value.slice _ _ _),(12,Value.int _ _),(13,Value.int _ _)] (by repeat' (first | exact trivial | refine And.intro rfl ?_)) fun tq0=>?_
  refine q_p [6,7,13,14,15,16,17,18,19,20,21,22,23,24,25,26,27,28,29,30,31,32,33,34,35,36,37,38,39] ((⟨fun g=>[(13,.int .i64 ((g.1.1:Nat):Int))],fun g=>(⟨.own b10 fc.l.length [],g.1.2⟩:OwL Int).L 3 Jad ++ L,fun _=>R,fun g=>fc.l.length - g.1.1⟩:Head {g:Nat×List Int // g.1≤fc.l.length∧WrTo fc.l.length 0 (fun k=>Jgi fl.l (fc.l.getD k default)) g.1 g.2})) (⟨(0,List.replicate fc.l.length 0),by dsimp only;omega,.zero⟩) ?_
  rintro ⟨⟨k,l⟩,w1,w2⟩ junk
  try dsimp only
  dsimp only at w1 w2
  have hll:=w2.len
  have hkq:(⟨.own b10 fc.l.length [],l⟩:OwL Int).ok 1 Jad:=by have:=Jfa (f:=Jad) (wd:=1) (b:=b10) (n:=fc.l.length) (x:=0) Jci (by simp only [maxLen];omega);exact OwL.len_ok Jci this (by simp;exact hll)
  refine Xar ?_
  refine q_c (fun hc0=>?_) (fun hc0=>?_)
  ·
   have hfg:=Jai (l:=fc.l) (k:=k) default (by omega)
   have hlg:=w2.non k (Nat.le_refl _) (by omega)
   have hnd:=hn _ (List.mem_of_getElem? hfg)
   obtain ⟨f,hf⟩:∃f,f=fc.l.getD k default:=⟨_,rfl⟩
   rw [← hf] at hfg hnd
   refine Xa8 ?_
   refine J54 ?_
   refine Xcu ?_
   intro b7
   refine qad ?_
   refine Xcd ?_
   refine qbz ?_
   refine qah ?_
   apply Jb3 (G:=[_,_,_,_,_]) (j:=3) (cj:=21) rfl rfl (by rfl) rfl (show _=Value.bool _ from rfl) rfl
   ·
    intro hg4
    replace hg4:=qb hg4
    refine Xaa ?_
    refine Xat ?_
    refine qaj ?_
    exact qai
   intro junk4
   refine qaf ?_
   refine q_c (fun hc1=>?_) (fun hc1=>?_)
   ·
    have hsg:=Jai (l:=fl.l) (k:=f.road.toNat) default (by omega)
    have hfv:Js6 (fl.l.getD f.road.toNat default) f.need=(fun k=>Jgi fl.l (fc.l.getD k default)) k:=by dsimp only;rw [← hf,Jgi,if_pos (by omega)]
    refine Jaz tb [] [0,1,2,3,4,5,6,7,8,9,10] [11] ([Blk.mk b7 _ _]) _ Jbh (by kernel_rfl) (by repeat (first | exact zs0 _ | exact zs1 _ | apply zs2 | apply zs3 | apply zs4 | apply zs5)) (List.nil_sublist _) ?_
    refine qct ?_
    refine qbf ?_
    refine Xcx ?_
    refine Jb1 (by first | exact Jaf tb rfl rfl rfl rfl (by first | assumption | exact zr (by simp)) (i:=f.road.toNat) (by first | rfl | omega | (simp;omega)) (by omega) | exact Jah tb rfl rfl rfl rfl (i:=f.road.toNat) (by first | rfl | omega | (simp;omega)) (by omega)) rfl rfl rfl rfl ?_
    refine qd1 ?_
    refine Xac ?_
    refine Jbt rfl (J2p (fl.l.getD f.road.toNat default) f.need _ _ hnd) rfl rfl ?_
    rintro v L' R' ⟨rfl,rfl,rfl⟩
    refine qas ?_
    refine Jb1 (Jao tb ((⟨.own b10 fc.l.length [],l⟩:OwL Int)) _ rfl rfl ((show _=Value.slice _ _ _ from rfl).trans (Jei hll)) rfl (by assumption) (i:=k) (by first | rfl | omega | (simp;omega)) (by first | omega | (dsimp only;omega) | (dsimp only;rw [List.length_set];omega) | (dsimp only;simp only [List.length_set];omega))) rfl rfl rfl rfl ?_
    refine qba ?_
    refine Jqb (Jav tb ((⟨.own b10 fc.l.length [],l⟩:OwL Int)) (Js6 (fl.l.getD f.road.toNat default) f.need) rfl rfl rfl rfl (by repeat (first | apply OSeg.cons | exact OSeg.here | exact OSeg.last | exact OSeg.at (by assumption) | apply OSeg.app)) (by assumption) (fun _=>rfl) (by assumption) (by decide) (by rfl) (by rfl)) rfl rfl ?_
    rintro v L' R' ⟨rfl,rfl⟩
    refine qa1 ?_
    refine qby ?_
    refine Xag ?_
    exact q_k ⟨(k + 1,l.set k (Js6 (fl.l.getD f.road.toNat default) f.need)),by dsimp only;omega,w2.next (by omega) hfv⟩
   have hfv:(0:Int)=(fun k=>Jgi fl.l (fc.l.getD k default)) k:=by dsimp only;rw [← hf,Jgi,if_neg (by omega)]
   refine Xay ?_
   exact q_k ⟨(k + 1,l),by dsimp only;omega,w2.stay (by omega) hfv⟩
  obtain rfl:k=fc.l.length:=by omega
  refine Xco ?_
  refine q_r (L':=(⟨.own b10 fc.l.length [],l⟩:OwL Int).L 3 Jad ++ L) (R':=R) (Jd4 rfl (Jal (show _=Value.slice _ _ _ from rfl))) ?_
  exact ⟨(⟨.own b10 fc.l.length [],l⟩:OwL Int),by simp only [OwL.val,Ow.addr,Ow.cap,hll],hkq,w2.done,rfl,rfl⟩
theorem Jta (fl:Arr XSpan) (fc:Arr XFace) (L:List Blk) (R:List Sl) (hfl:InR (Jrc fl) R) (hfc:InR (Jty fc) R) (hn:Jhn fc.l) (hlen:fc.l.length≤1000) (hflen:fl.l.length≤1000):
    Tri Try.prog 15 [fl.val,fc.val].toArray L R (fun w L' R'=>∃p:OwL Int,w=p.val∧p.ok 1 Jad∧p.l=Jww fl.l fc.l∧p.L 3 Jad ++ L=L'∧R=R'):=by
  refine Jae 86 Try.call15 Try.func15 rfl rfl rfl ?_
  refine Xbf ?_
  refine qam ?_
  refine Xbo ?_
  refine Xav ?_
  refine Jag [(0,Value.slice _ _ _),(1,Value.slice _ _ _),(5,Value.slice _ _ _),(6,Value.int _ _)] (by repeat' (first | exact trivial | refine And.intro rfl ?_)) fun tq0=>?_
  refine Jcc [5,6,7,8,9,10,11,12,13,14,15,16,17,18,19,20,21,22,23,24,25,26,27,28,29,30,31,32,33,34,35,36,37,38,39,40,41,42,43,44,45,46,47,48,49,50,51,52,53,54,55,56,57,58,59,60,61,62,63,64,65,66,67,68,69,70,71,72,73,74,75,76,77,78,79,80,81,82,83,84] ((⟨fun g=>[(6,.int .i64 ((g.1.1:Nat):Int)),(5,g.1.2.val)],fun g=>g.1.2.L 3 Jad ++ L,fun _=>R,fun g=>fc.l.length - g.1.1⟩:Head {g:Nat×OwL Int // g.1≤fc.l.length∧g.2.ok 1 Jad∧g.2.l=(List.range g.1).map (fun k=>Jgi fl.l (fc.l.getD k default))})) (⟨(0,OwL.nil),by dsimp only;omega,OwL.nil_ok,rfl⟩) (by repeat' (first | exact trivial | refine And.intro rfl ?_)) (by dsimp only;rw [Jc7,List.nil_append];exact List.Sublist.refl _) (Jac _) ?_
  rintro ⟨⟨k,q⟩,w1,w2,w3⟩ junk
  try dsimp only
  dsimp only at w1 w2 w3
  have hql:q.l.length=k:=by rw [w3];simp
  refine Xap ?_
  refine Xcy ?_
  refine q_c (fun hc0=>?_) (fun hc0=>?_)
  ·
   have hfg:=Jai (l:=fc.l) (k:=k) default (by omega)
   have hnd:=hn _ (List.mem_of_getElem? hfg)
   obtain ⟨f,hf⟩:∃f,f=fc.l.getD k default:=⟨_,rfl⟩
   rw [← hf] at hfg hnd
   refine qbb ?_
   refine Xal ?_
   refine J54 ?_
   refine Xcu ?_
   intro b7
   refine Xbe ?_
   refine qad ?_
   refine qco ?_
   refine Ja5 tb [0,1,2,3,4,5,6,7,8,9,10,11,12,13,14,15,16,17,18,19,20,21,22,23,24] ([Blk.mk b7 _ _]) Jbh (by kernel_rfl) (by repeat (first | exact zs0 _ | exact zs1 _ | apply zs2 | apply zs3 | apply zs4 | apply zs5)) ?_
   refine Xad ?_
   refine Jbx (Jkw rfl rfl) rfl rfl rfl ?_
   refine qb2 ?_
   refine Jep (k:=23) (show _=Value.bool _ from rfl) (fun hg3=>?_) (fun hg3=>?_)
   ·
    replace hg3:=qb hg3
    refine Xad ?_
    refine J2r ?_
    refine Jbx (Jew tb rfl rfl rfl) rfl rfl rfl ?_
    refine Jbx (Jna rfl rfl) rfl rfl rfl ?_
    refine qbp ?_
    refine qb2 ?_
    refine Jep (k:=30) (show _=Value.bool _ from rfl) (fun hg10=>?_) (fun hg10=>?_)
    ·
     replace hg10:=qb hg10
     have hsg:=Jai (l:=fl.l) (k:=f.road.toNat) default (by omega)
     refine J2r ?_
     refine Xad ?_
     refine J56 ?_
     refine Xb9 ?_
     refine J2r ?_
     refine Xad ?_
     refine J56 ?_
     refine Xb9 ?_
     refine Jbx (Jv1 rfl rfl) rfl rfl rfl ?_
     refine Xbi ?_
     refine q_c (fun hc1=>?_) (fun hc1=>?_)
     ·
      refine qae ?_
      refine Xch ?_
      refine Jax (by first | exact Jaf tb rfl rfl rfl rfl (by first | assumption | exact zr (by simp)) (i:=f.road.toNat) (by first | rfl | omega | (simp;omega)) (by omega) | exact Jah tb rfl rfl rfl rfl (i:=f.road.toNat) (by first | rfl | omega | (simp;omega)) (by omega)) rfl ?_
      refine Xcu ?_
      intro b9
      refine Xcd ?_
      refine qbx ?_
      refine qah ?_
      apply Jbi (G:=[_,_,_,_,_]) (j:=3) (cj:=53) rfl rfl (by rfl) rfl (show _=Value.bool _ from rfl) rfl
      ·
       intro hg4
       replace hg4:=qb hg4
       refine Xa1 ?_
       refine qbz ?_
       exact qai
      intro junk4
      refine qah ?_
      apply Jbi (G:=[_,_,_,_,_,_]) (j:=10) (cj:=60) rfl rfl (by rfl) rfl (show _=Value.bool _ from rfl) rfl
      ·
       intro hg11
       replace hg11:=qb hg11
       refine Xa1 ?_
       refine qcq ?_
       refine qbx ?_
       exact qai
      intro junk11
      refine qaf ?_
      refine q_c (fun hc2=>?_) (fun hc2=>?_)
      ·
       refine qay ?_
       refine qad ?_
       refine Jbr (Jaa (Jaj ?_))
       refine Xal ?_
       refine qcx ?_
       rintro v L' R' ⟨b83,rfl,rfl,hR83⟩
       replace hR83:=hR83.symm;subst hR83
       refine Jwo ?_
       rintro v L' R' ⟨o84,rfl,hok84,rfl,rfl⟩
       refine qc4 ?_
       refine Xca ?_
       exact Jau ⟨(k + 1,(⟨o84,_⟩:OwL Int)),by dsimp only;omega,hok84,by
       dsimp only
       rw [List.range_succ,List.map_append,w3]
       refine congrArg (fun z=>_ ++ [z]) ?_
       show _=Jgi fl.l (fc.l.getD k default)
       rw [← hf]
       simp only [Jgi,Js6]
       repeat' split
       all_goals omega⟩ (by repeat (first | exact Off.refl | apply Off.upd rfl | apply Off.havoc rfl | apply Off.updL rfl | apply Off.left rfl)) (by repeat' (first | exact trivial | refine And.intro rfl ?_)) (by repeat (first | exact zs0 _ | exact zs1 _ | apply zs2 | apply zs3 | apply zs4 | apply zs5)) (Jac _) (by dsimp only;omega)
      refine qae ?_
      refine Xa1 ?_
      refine qcq ?_
      refine qa5 ?_
      refine qah ?_
      apply Jb3 (G:=[_,_,_,_,_]) (j:=6) (cj:=74) rfl rfl (by rfl) rfl (show _=Value.bool _ from rfl) rfl
      ·
       intro hg7
       replace hg7:=qb hg7
       refine Xa1 ?_
       refine qaj ?_
       exact qai
      intro junk7
      refine qaf ?_
      refine q_c (fun hc3=>?_) (fun hc3=>?_)
      ·
       refine qay ?_
       refine qad ?_
       refine Jbr (Jaa (Jaj ?_))
       refine Xal ?_
       refine qcx ?_
       rintro v L' R' ⟨b83,rfl,rfl,hR83⟩
       replace hR83:=hR83.symm;subst hR83
       refine Jwo ?_
       rintro v L' R' ⟨o84,rfl,hok84,rfl,rfl⟩
       refine qc4 ?_
       refine Xca ?_
       exact Jau ⟨(k + 1,(⟨o84,_⟩:OwL Int)),by dsimp only;omega,hok84,by
       dsimp only
       rw [List.range_succ,List.map_append,w3]
       refine congrArg (fun z=>_ ++ [z]) ?_
       show _=Jgi fl.l (fc.l.getD k default)
       rw [← hf]
       simp only [Jgi,Js6]
       repeat' split
       all_goals omega⟩ (by repeat (first | exact Off.refl | apply Off.upd rfl | apply Off.havoc rfl | apply Off.updL rfl | apply Off.left rfl)) (by repeat' (first | exact trivial | refine And.intro rfl ?_)) (by repeat (first | exact zs0 _ | exact zs1 _ | apply zs2 | apply zs3 | apply zs4 | apply zs5)) (Jac _) (by dsimp only;omega)
      refine Ja4 (Jaa (Jaj ?_))
      refine Xal ?_
      refine qcx ?_
      rintro v L' R' ⟨b83,rfl,rfl,hR83⟩
      replace hR83:=hR83.symm;subst hR83
      refine Jwo ?_
      rintro v L' R' ⟨o84,rfl,hok84,rfl,rfl⟩
      refine qc4 ?_
      refine Xca ?_
      exact Jau ⟨(k + 1,(⟨o84,_⟩:OwL Int)),by dsimp only;omega,hok84,by
      dsimp only
      rw [List.range_succ,List.map_append,w3]
      refine congrArg (fun z=>_ ++ [z]) ?_
      show _=Jgi fl.l (fc.l.getD k default)
      rw [← hf]
      simp only [Jgi,Js6]
      repeat' split
      all_goals omega⟩ (by repeat (first | exact Off.refl | apply Off.upd rfl | apply Off.havoc rfl | apply Off.updL rfl | apply Off.left rfl)) (by repeat' (first | exact trivial | refine And.intro rfl ?_)) (by repeat (first | exact zs0 _ | exact zs1 _ | apply zs2 | apply zs3 | apply zs4 | apply zs5)) (Jac _) (by dsimp only;omega)
     refine Ja4 (Jaa (Jaj ?_))
     refine Xal ?_
     refine qcx ?_
     rintro v L' R' ⟨b83,rfl,rfl,hR83⟩
     replace hR83:=hR83.symm;subst hR83
     refine Jwo ?_
     rintro v L' R' ⟨o84,rfl,hok84,rfl,rfl⟩
     refine qc4 ?_
     refine Xca ?_
     exact Jau ⟨(k + 1,(⟨o84,_⟩:OwL Int)),by dsimp only;omega,hok84,by
     dsimp only
     rw [List.range_succ,List.map_append,w3]
     refine congrArg (fun z=>_ ++ [z]) ?_
     show _=Jgi fl.l (fc.l.getD k default)
     rw [← hf]
     simp only [Jgi,Js6]
     repeat' split
     all_goals omega⟩ (by repeat (first | exact Off.refl | apply Off.upd rfl | apply Off.havoc rfl | apply Off.updL rfl | apply Off.left rfl)) (by repeat' (first | exact trivial | refine And.intro rfl ?_)) (by repeat (first | exact zs0 _ | exact zs1 _ | apply zs2 | apply zs3 | apply zs4 | apply zs5)) (Jac _) (by dsimp only;omega)
    replace hg10:=qb hg10
    iterate 13 refine qap ?_
    refine Xbi ?_
    refine Jb0 rfl ?_
    refine Ja4 (Jaa (Jaj ?_))
    refine Xal ?_
    refine qcx ?_
    rintro v L' R' ⟨b83,rfl,rfl,hR83⟩
    replace hR83:=hR83.symm;subst hR83
    refine Jwo ?_
    rintro v L' R' ⟨o84,rfl,hok84,rfl,rfl⟩
    refine qc4 ?_
    refine Xca ?_
    exact Jau ⟨(k + 1,(⟨o84,_⟩:OwL Int)),by dsimp only;omega,hok84,by
    dsimp only
    rw [List.range_succ,List.map_append,w3]
    refine congrArg (fun z=>_ ++ [z]) ?_
    show _=Jgi fl.l (fc.l.getD k default)
    rw [← hf]
    simp only [Jgi,Js6]
    repeat' split
    all_goals omega⟩ (by repeat (first | exact Off.refl | apply Off.upd rfl | apply Off.havoc rfl | apply Off.updL rfl | apply Off.left rfl)) (by repeat' (first | exact trivial | refine And.intro rfl ?_)) (by repeat (first | exact zs0 _ | exact zs1 _ | apply zs2 | apply zs3 | apply zs4 | apply zs5)) (Jac _) (by dsimp only;omega)
   replace hg3:=qb hg3
   iterate 5 refine qap ?_
   refine qbp ?_
   refine qb2 ?_
   iterate 13 refine qap ?_
   refine Xbi ?_
   refine Jb0 rfl ?_
   refine Ja4 (Jaa (Jaj ?_))
   refine Xal ?_
   refine qcx ?_
   rintro v L' R' ⟨b83,rfl,rfl,hR83⟩
   replace hR83:=hR83.symm;subst hR83
   refine Jwo ?_
   rintro v L' R' ⟨o84,rfl,hok84,rfl,rfl⟩
   refine qc4 ?_
   refine Xca ?_
   exact Jau ⟨(k + 1,(⟨o84,_⟩:OwL Int)),by dsimp only;omega,hok84,by
   dsimp only
   rw [List.range_succ,List.map_append,w3]
   refine congrArg (fun z=>_ ++ [z]) ?_
   show _=Jgi fl.l (fc.l.getD k default)
   rw [← hf]
   simp only [Jgi,Js6]
   repeat' split
   all_goals omega⟩ (by repeat (first | exact Off.refl | apply Off.upd rfl | apply Off.havoc rfl | apply Off.updL rfl | apply Off.left rfl)) (by repeat' (first | exact trivial | refine And.intro rfl ?_)) (by repeat (first | exact zs0 _ | exact zs1 _ | apply zs2 | apply zs3 | apply zs4 | apply zs5)) (Jac _) (by dsimp only;omega)
  obtain rfl:k=fc.l.length:=by omega
  refine Xco ?_
  refine q_r (L':=q.L 3 Jad ++ L) (R':=R) (Jd4 rfl (Jal (show _=Value.slice _ _ _ from rfl))) ?_
  exact ⟨q,rfl,w2,w3,rfl,rfl⟩
end Go.Proofs.Ytihompplndcdeaa
end
section
/-
  What a change does to the air; the search for an order of steps. Plain. By an AI agent; no person has read it.
-/
namespace Go.Proofs.Ytihompplndcdeaa
open Go.Aw Go
def Jjg (P : Nat → Bool) : Nat → List Int
  | 0=>[]
  | k + 1=>if P k=true then Jjg P k ++ [(k:Int)] else Jjg P k
theorem Ji1 {P : Nat → Bool} : ∀ k, (Jjg P k).length ≤ k
  | 0=>Nat.le_refl _
  | k + 1=>by
    have:=Ji1 (P:=P) k
    rw [Jjg]
    split
    · simp;omega
    · omega
theorem Jes {P : Nat → Bool} {x : Int} : ∀ {k : Nat}, x ∈ Jjg P k ↔ ∃ i : Nat, x = (i : Int) ∧ i < k ∧ P i = true
  | 0=>⟨fun h=>(by cases h),fun ⟨i,_,h,_⟩=>(by omega)⟩
  | k + 1=>by
    have ih:=Jes (P:=P) (x:=x) (k:=k)
    rw [Jjg]
    constructor
    · intro h
      split at h
      · rename_i hk
        rcases List.mem_append.1 h with h | h
        · obtain ⟨i,h1,h2,h3⟩:=ih.1 h;exact ⟨i,h1,by omega,h3⟩
        · exact ⟨k,List.mem_singleton.1 h,by omega,hk⟩
      · obtain ⟨i,h1,h2,h3⟩:=ih.1 h;exact ⟨i,h1,by omega,h3⟩
    · rintro ⟨i, h1, h2, h3⟩
      rcases Nat.lt_or_ge i k with h4 | h4
      · split
        · exact List.mem_append_left _ (ih.2 ⟨i,h1,h4,h3⟩)
        · exact ih.2 ⟨i,h1,h4,h3⟩
      · obtain rfl : i = k := by omega
        rw [if_pos h3]
        exact List.mem_append_right _ (List.mem_singleton.2 h1)
theorem Jjm {P : Nat → Bool} : ∀ k, (Jjg P k).Pairwise (· < ·)
  | 0=>List.Pairwise.nil
  | k + 1=>by
    rw [Jjg]
    split
    · rw [List.pairwise_append]
      refine ⟨Jjm k,List.pairwise_singleton _ _,fun a ha b hb=>?_⟩
      obtain ⟨i,h1,h2,_⟩:=Jes.1 ha
      rw [List.mem_singleton.1 hb];omega
    · exact Jjm k
def Jim (now before:List Int):List Int:=now.filter fun x=>!decide (x∈before)
theorem Jxf {now before:List Int} {k:Nat} {x:Int} (h:now[k]?=some x) (hx:x ∉ before):Jim (now.take (k + 1)) before=Jim (now.take k) before ++ [x]:=by
  rw [Jim,Jfg h,List.filter_append,Jim]
  simp [hx]
theorem Jz9 {now before:List Int} {k:Nat} {x:Int} (h:now[k]?=some x) (hx:x∈before):Jim (now.take (k + 1)) before=Jim (now.take k) before:=by
  rw [Jim,Jfg h,List.filter_append,Jim]
  simp [hx]
theorem Jpd (l:List Int):Jim l l=[]:=by
  rw [Jim,List.filter_eq_nil_iff]
  intro x hx
  simp [hx]
theorem Jy1 (now before:List Int):(Jim now before).length≤now.length:=List.length_filter_le _ _
structure XVerd where
  turned:List Int
  starved:List Int
  circles:List Int
  lost:List Int
  deriving DecidableEq,Inhabited
def XVerd.quiet (v:XVerd):Bool:=v.turned.isEmpty && v.starved.isEmpty && v.circles.isEmpty && v.lost.isEmpty
def Jso (fl gl:List XSpan) (i:Nat):Bool:=decide (Jl8 (fl.getD i default)≠0) && decide (Jl8 (gl.getD i default)≠Jl8 (fl.getD i default))
def Jsf (fl gl:List XSpan) (fc:List XFace) (i:Nat):Bool:=decide ((Jww fl fc).getD i 0=1) && decide ((Jww gl fc).getD i 0≠1)
def Jwx (a:XMine) (fl:List XSpan) (b:XMine) (gl:List XSpan) (fc:List XFace) (A B:List Bool) (Cf Cg:List Int):XVerd:=
  ⟨Jjg (Jso fl gl) a.roads.l.length,Jjg (Jsf fl gl fc) fc.length,Jim Cg Cf,Jim (Jff B b.places.l.length) (Jff A a.places.l.length)⟩
def Juo (a:XAir) (s:XSetting):Int:=if Jat a≠0 then Jat a else if Jdl a s=false then 21 else 0
theorem Jv9 (a:XAir) (s:XSetting) (A:List Bool):(Jf8 a s A).1=Juo a s:=by
  rw [Jf8,Juo]
  (repeat' split) <;> rfl
theorem Jem {a:XAir} {s:XSetting}:Juo a s=0↔Jat a=0∧Jdl a s=true:=by
  rw [Juo]
  constructor
  · intro h
    split at h
    · omega
    · rename_i h1
      split at h
      · cases h
      · rename_i h2;exact ⟨by omega,by simpa using h2⟩
  · rintro ⟨h1, h2⟩
    rw [if_neg (by omega),if_neg (by rw [h2];decide)]
def Js2 (a:XAir) (s:XSetting) (b:XAir) (t:XSetting):Int:=
  if Juo a s≠0 then Juo a s else if Juo b t≠0 then Juo b t else if b.mine.places.l.length < a.mine.places.l.length∨b.mine.roads.l.length < a.mine.roads.l.length then 11 else 0
theorem Jns (m : XMine) (fl : List XSpan) : ∀ k, ∃ C, CircTo m fl k C
  | 0=>⟨[],.zero⟩
  | k + 1=>by
    obtain ⟨C,hC⟩:=Jns m fl k
    rcases Classical.em (Jkf m fl k false) with h1 | h1
    · exact ⟨_,hC.yes (.inl h1)⟩
    · rcases Classical.em (Jkf m fl k true) with h2 | h2
      · exact ⟨_,hC.yes (.inr h2)⟩
      · exact ⟨_,hC.no h1 h2⟩
theorem Jx0 (m:XMine) (fl:List XSpan):∃C,CircIs m fl C:=(Jns m fl _).imp fun _ h=>h.done
theorem Jhp (m:XMine):∃K:List XSpan→List Int,∀fl,CircIs m fl (K fl):=⟨fun fl=>Classical.choose (Jx0 m fl),fun fl=>Classical.choose_spec (Jx0 m fl)⟩
theorem CircIs.len {m:XMine} {fl:List XSpan} {C:List Int} (h:CircIs m fl C):C.length≤m.roads.l.length:=by
  obtain ⟨C',h'⟩:=Jns m fl m.roads.l.length
  rw [h.unique h'.done];exact h'.len
end Go.Proofs.Ytihompplndcdeaa
end
section
/-
  The search for an order of steps. Plain. By an AI agent; no person has read it.
-/
namespace Go.Proofs.Ytihompplndcdeaa
open Go.Aw Go
def Ji5 (l:List XDoor) (st:List Int) (door state:Int):Int:=
  if Jbm l≠0 then Jbm l else if st.length≠l.length then 11 else if door < 0∨(l.length:Int)≤door then 15
  else if state < 0∨((l.getD door.toNat default).rests.l.length:Int)≤state then 1
  else if state≠0∧0≤(l.getD door.toNat default).other∧st.getD (l.getD door.toNat default).other.toNat 0≠0 then 10 else 0
abbrev Sts:=List Int×List Int
def mkS (s:Sts):XSetting:=⟨⟨none,0,s.1⟩,⟨none,0,s.2⟩⟩
abbrev Jak (s:XSetting):Sts:=(s.fans.l,s.doors.l)
def flS (a:XAir) (A:List Bool) (s:Sts):List XSpan:=(Jf8 a (mkS s) A).2
def J6o (a:XAir) (A:List Bool) (K:List XSpan→List Int) (fc:List XFace) (s s':Sts):XVerd:=
  Jwx a.mine (flS a A s) a.mine (flS a A s') fc A A (K (flS a A s)) (K (flS a A s'))
def Jgs (t s:Sts) (k:Int):Sts:=if k < s.1.length then (s.1.set k.toNat (t.1.getD k.toNat 0),s.2) else (s.1,s.2.set (k - s.1.length).toNat (t.2.getD (k - s.1.length).toNat 0))
def Jwg (D:List XDoor) (t s:Sts) (k:Int):Bool:=decide (k < s.1.length) || decide (t.2.getD (k - s.1.length).toNat 0= -1) || decide (Ji5 D s.2 (k - s.1.length) (t.2.getD (k - s.1.length).toNat 0)=0)
def nxS (a:XAir) (A:List Bool) (K:List XSpan→List Int) (fc:List XFace) (t s:Sts) (k:Int):Option Sts:=
  if Jwg a.doors.l t s k=true then (if (J6o a A K fc s (Jgs t s k)).quiet=true then some (Jgs t s k) else none) else none
def Joq (nx:Sts→Int→Option Sts) (go:Sts→List Int→Option (List Int)) (s:Sts) (left:List Int) (i:Nat):Option (List Int):=
  (nx s (left.getD i 0)).bind fun s'=>(go s' (left.eraseIdx i)).map (left.getD i 0 :: ·)
def Jm5 (nx : Sts → Int → Option Sts) : Nat → Sts → List Int → Option (List Int)
  | 0,_,left=>if left=[] then some [] else none
  | n + 1,s,left=>if left=[] then some [] else (List.range left.length).findSome? (Joq nx (Jm5 nx n) s left)
def Jgk (nx:Sts→Int→Option Sts) (s:Sts) (left:List Int):Option (List Int):=Jm5 nx left.length s left
theorem Jj8 {nx:Sts→Int→Option Sts} {s:Sts}:Jgk nx s []=some []:=rfl
theorem Jgo {nx:Sts→Int→Option Sts} {s:Sts} {left:List Int} (h:left≠[]):Jgk nx s left=(List.range left.length).findSome? (Joq nx (Jgk nx) s left):=by
  obtain ⟨n,hn⟩:∃n,left.length=n + 1:=⟨left.length - 1,by have:=List.length_pos_iff.2 h;omega⟩
  rw [Jgk,hn,Jm5,if_neg h,hn]
  have key:∀l:List Nat,(∀i∈l,i < n + 1)→l.findSome? (Joq nx (Jm5 nx n) s left)=l.findSome? (Joq nx (Jgk nx) s left):=by
    intro l
    induction l with
    | nil=>intro _;rfl
    | cons i r ih=>
      intro hl
      have hi:=hl i (by simp)
      have e:Joq nx (Jm5 nx n) s left i=Joq nx (Jgk nx) s left i:=by
        rw [Joq,Joq]
        congr 1
        funext s'
        rw [Jgk,List.length_eraseIdx,if_pos (by omega),hn]
        rfl
      rw [List.findSome?_cons,List.findSome?_cons,e,ih (fun j hj=>hl j (by simp [hj]))]
  exact key _ (fun i hi=>List.mem_range.1 hi)
theorem Jvn {nx : Sts → Int → Option Sts} : ∀ (n : Nat) {s : Sts} {left r : List Int}, left.length = n → Jgk nx s left = some r → r.length = n
  | 0,s,left,r,hn,h=>by
    rw [List.eq_nil_of_length_eq_zero hn,Jj8] at h
    cases h;rfl
  | n + 1,s,left,r,hn,h=>by
    rw [Jgo (by intro e;rw [e] at hn;cases hn)] at h
    obtain ⟨i,hi,h1⟩:=List.exists_of_findSome?_eq_some h
    rw [List.mem_range] at hi
    rw [Joq] at h1
    cases h2:nx s (left.getD i 0) with
    | none=>rw [h2] at h1;cases h1
    | some s'=>
      rw [h2,Option.bind_some] at h1
      cases h3:Jgk nx s' (left.eraseIdx i) with
      | none=>rw [h3] at h1;cases h1
      | some r'=>
        rw [h3,Option.map_some] at h1
        cases h1
        have:=Jvn n (by rw [List.length_eraseIdx,if_pos hi,hn];rfl) h3
        simp [this]
def Js4 (s t:List Int) (i:Nat):Bool:=decide (s.getD i 0≠t.getD i 0)
def Jmm (s t:Sts):List Int:=Jjg (Js4 s.1 t.1) s.1.length ++ (Jjg (Js4 s.2 t.2) s.2.length).map (fun k=>(s.1.length:Int) + k)
def Jo5 (a:XAir) (s t:XSetting) (fc:List XFace) (A:List Bool) (K:List XSpan→List Int):Int×List Int:=
  if Jat a≠0 then (Jat a,[]) else if Jdl a s=false∨Jdl a t=false then (21,[]) else if 3 < (Jmm (Jak s) (Jak t)).length then (2,[])
  else match Jgk (nxS a A K fc (Jak t)) (Jak s) (Jmm (Jak s) (Jak t)) with
    | some r=>(0,r)
    | none=>(13,[])
def Jsp (a:XAir) (s t:XSetting):List Int:=if Jea a s=true∧Jea a t=true then Jmm (Jak s) (Jak t) else []
def Jck : List Int → Nat → List Int
  | [],_=>[]
  | k :: r,d=>if d % 2=1 then Jck r (d / 2) else k :: Jck r (d / 2)
def Jj2 (t : Sts) : List Int → Nat → Sts → Sts
  | [],_,s=>s
  | k :: r,d,s=>Jj2 t r (d / 2) (if d % 2=1 then Jgs t s k else s)
def Jl4 (d i:Nat):Bool:=decide (d / 2 ^ i % 2=1)
theorem Jrr : ∀ (l : List Int) (d : Nat), (Jck l d).length ≤ l.length
  | [],_=>Nat.le_refl _
  | k :: r,d=>by
    have:=Jrr r (d / 2)
    rw [Jck]
    split
    · simp;omega
    · simp;omega
theorem Jpi : ∀ l : List Int, Jck l 0 = l
  | []=>rfl
  | k :: r=>by rw [Jck,if_neg (by decide),Nat.zero_div,Jpi r]
theorem Jr7 (t : Sts) : ∀ (l : List Int) (s : Sts), Jj2 t l 0 s = s
  | [],_=>rfl
  | k :: r,s=>by rw [Jj2,if_neg (by decide),Nat.zero_div,Jr7 t r]
theorem Jkn {d i:Nat}:Jl4 d (i + 1)=Jl4 (d / 2) i:=by
  rw [Jl4,Jl4,Nat.pow_succ,Nat.mul_comm,← Nat.div_div_eq_div_mul]
theorem Jva {d i:Nat}:(d + 2 ^ (i + 1)) / 2=d / 2 + 2 ^ i∧(d + 2 ^ (i + 1)) % 2=d % 2:=by
  rw [Nat.pow_succ];omega
theorem Jkt (t s:Sts) (k:Int):(Jgs t s k).1.length=s.1.length∧(Jgs t s k).2.length=s.2.length:=by
  rw [Jgs]
  split <;> simp
theorem Jx3 (t s:Sts) (k k':Int):Jgs t (Jgs t s k) k'=Jgs t (Jgs t s k') k:=by
  have h1:=(Jkt t s k).1
  have h2:=(Jkt t s k').1
  have sw:∀(l u:List Int) (i j:Nat),(l.set i (u.getD i 0)).set j (u.getD j 0)=(l.set j (u.getD j 0)).set i (u.getD i 0):=by
    intro l u i j
    by_cases h:i=j
    · subst h;rfl
    · exact List.set_comm _ _ h
  unfold Jgs at h1 h2 ⊢
  by_cases a:k < s.1.length <;> by_cases b:k' < s.1.length <;> simp only [a,b,if_true,if_false,List.length_set,sw]
theorem Jqz (t : Sts) : ∀ (l : List Int) (d : Nat) (s : Sts) (k : Int), Jj2 t l d (Jgs t s k) = Jgs t (Jj2 t l d s) k
  | [],_,_,_=>rfl
  | x :: r,d,s,k=>by
    rw [Jj2,Jj2]
    split
    · rw [Jx3,Jqz t r]
    · rw [Jqz t r]
theorem Jvg (t : Sts) : ∀ (l : List Int) (d i : Nat) (s : Sts), i < l.length → Jl4 d i = false → Jj2 t l (d + 2 ^ i) s = Jgs t (Jj2 t l d s) (l.getD i 0)
  | [],_,_,_,h,_=>absurd h (by simp)
  | k :: r,d,0,s,_,hb=>by
    have hb':d % 2=0:=by simp [Jl4] at hb;omega
    rw [Jj2,Jj2,if_pos (by omega),if_neg (by omega),show (d + 2 ^ 0) / 2=d / 2 by omega,Jqz]
    rfl
  | k :: r,d,i + 1,s,h,hb=>by
    obtain ⟨e1,e2⟩:=Jva (d:=d) (i:=i)
    rw [Jj2,Jj2,e1,e2]
    exact Jvg t r (d / 2) i _ (by simpa using h) (by rw [← Jkn];exact hb)
def Jp3 : Nat → Nat → Nat
  | 0,_=>0
  | i + 1,d=>(if d % 2=1 then 0 else 1) + Jp3 i (d / 2)
theorem Jnj : ∀ (i d : Nat), Jp3 (i + 1) d = Jp3 i d + if Jl4 d i = true then 0 else 1
  | 0,d=>by simp [Jp3,Jl4]
  | i + 1,d=>by
    rw [Jp3,Jnj i (d / 2),Jp3,Jkn]
    omega
theorem Jvy : ∀ (l : List Int) (d : Nat), Jp3 l.length d = (Jck l d).length
  | [],_=>rfl
  | k :: r,d=>by
    rw [List.length_cons,Jp3,Jck,Jvy r]
    split
    · simp
    · simp;omega
theorem Jma : ∀ (l : List Int) (d i : Nat), i < l.length → Jl4 d i = false → Jp3 i d < (Jck l d).length ∧ (Jck l d).getD (Jp3 i d) 0 = l.getD i 0 ∧ (Jck l d).eraseIdx (Jp3 i d) = Jck l (d + 2 ^ i)
  | [],_,_,h,_=>absurd h (by simp)
  | k :: r,d,0,_,hb=>by
    have hb':d % 2=0:=by simp [Jl4] at hb;omega
    rw [Jck,if_neg (by omega),Jck,if_pos (by omega),show (d + 2 ^ 0) / 2=d / 2 by omega,Jp3]
    exact ⟨by simp,rfl,rfl⟩
  | k :: r,d,i + 1,h,hb=>by
    obtain ⟨e1,e2⟩:=Jva (d:=d) (i:=i)
    obtain ⟨h1,h2,h3⟩:=Jma r (d / 2) i (by simpa using h) (by rw [← Jkn];exact hb)
    rw [Jck,Jck,e1,e2,Jp3]
    by_cases hd:d % 2=1
    · rw [if_pos hd, if_pos hd, if_pos hd, Nat.zero_add]
      exact ⟨h1,h2,h3⟩
    · rw [if_neg hd, if_neg hd, if_neg hd, Nat.add_comm]
      exact ⟨by simp;exact h1,by simpa using h2,by simpa using h3⟩
theorem Jpo : ∀ (l : List Int) (d : Nat), d < 2 ^ l.length → (Jck l d = [] ↔ d = 2 ^ l.length - 1)
  | [],d,h=>by simp at h;simp [Jck,h]
  | k :: r,d,h=>by
    rw [List.length_cons,Nat.pow_succ] at h ⊢
    have ih:=Jpo r (d / 2) (by omega)
    have hp:0 < 2 ^ r.length:=Nat.pow_pos (by decide)
    rw [Jck]
    split
    · rw [ih];omega
    · refine ⟨fun h => (by cases h), fun h => ?_⟩
      omega
theorem Jpq : ∀ (n d i : Nat), d < 2 ^ n → i < n → Jl4 d i = false → d + 2 ^ i < 2 ^ n
  | 0,_,_,_,h,_=>absurd h (by omega)
  | n + 1,d,0,h,_,hb=>by
    have hb':d % 2=0:=by simp [Jl4] at hb;omega
    rw [Nat.pow_succ] at h ⊢
    omega
  | n + 1,d,i + 1,h,hi,hb=>by
    have:=Jpq n (d / 2) i (by rw [Nat.pow_succ] at h;omega) (by omega) (by rw [← Jkn];exact hb)
    rw [Nat.pow_succ] at h ⊢
    rw [Nat.pow_succ] 
    omega
theorem Jnr {nx : Sts → Int → Option Sts} {s : Sts} {l : List Int} {d i : Nat} {X : Option (List Int)} (hi : i < l.length) (hb : Jl4 d i = false)
    (h:X=((List.range (Jck l d).length).drop (Jp3 i d)).findSome? (Joq nx (Jgk nx) s (Jck l d))) (hn:Joq nx (Jgk nx) s (Jck l d) (Jp3 i d)=none):
    X=((List.range (Jck l d).length).drop (Jp3 (i + 1) d)).findSome? (Joq nx (Jgk nx) s (Jck l d)):=by
  obtain ⟨h1,_,_⟩:=Jma l d i hi hb
  rw [h,Jnj,if_neg (by rw [hb];decide),Jd2 (Jkv h1),List.findSome?_cons,hn]
theorem J6k {nx:Sts→Int→Option Sts} {s:Sts} {l:List Int} {d i:Nat} (hi:i < l.length) (hb:Jl4 d i=false):
    Joq nx (Jgk nx) s (Jck l d) (Jp3 i d)=(nx s (l.getD i 0)).bind fun s'=>(Jgk nx s' (Jck l (d + 2 ^ i))).map (l.getD i 0 :: ·):=by
  obtain ⟨_,h2,h3⟩:=Jma l d i hi hb
  rw [Joq,h2,h3]
end Go.Proofs.Ytihompplndcdeaa
end
