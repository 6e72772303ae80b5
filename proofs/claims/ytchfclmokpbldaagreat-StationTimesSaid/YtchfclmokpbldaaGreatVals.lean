import Derived.Test.YtchfclmokpbldaaGreatFeedX
import Derived.Test.YtchfclmokpbldaaGreatRestP
import Derived.Test.YtchfclmokpbldaaGreatRuleD
import Derived.Test.YtchfclmokpbldaaGreatSiteD
set_option linter.unusedVariables false
set_option linter.unusedSimpArgs false
section
/-
  When a threshold can end; what is kept of a restoration. By an AI agent; no person has read it.
-/
namespace Go.Proofs.YtchfclmokpbldaaGreat
open Go.Aw Go
set_option maxRecDepth 20000
attribute [local irreducible] CJ LJ DJ Tri YV Gives Jcj Ja1 Jbg Jci RV Ja2 OwL.L
section
variable {A9 B9:Prop}
theorem Kaf (a:A9) (h:A9→B9:=by exact Jax zXa rfl):B9:=h a
end
theorem J3f (L:List Blk) (R:List Sl):
    Tri Tryz.prog 79 ([]:List Value).toArray L R (fun v L' R'=>v=(⟨true,-1,0⟩:XWatch).val∧L=L'∧R=R'):=by
  refine Jad 2 Tryz.call79 Tryz.func79 rfl rfl rfl ?_
  refine qae ?_
  refine qaq ?_
  intro b0
  refine qam ?_
  refine Jax (Jbc (qs:=[(0,(Value.bool _).cells.toList),(1,(Value.int _ _).cells.toList)]) (out:=[_,_,_]) tb rfl rfl rfl rfl) rfl ?_
  refine Xbq ?_
  refine q_r (L':=L) (R':=R) (Jec rfl (Jao (row:=[_,_,_]) tb rfl rfl rfl zf zb zb)) ?_
  exact ⟨rfl,rfl,rfl⟩
theorem J4t (c:Arr XCut) (r:XRest) (L:List Blk) (R:List Sl) (hc:InR (Jp3 c) R):
    Tri Tryz.prog 157 [c.val,r.val].toArray L R (fun v L' R'=>v=(Jga c.l r).val∧L=L'∧R=R'):=by
  refine Jc1 Tryz.call157 hc fun hcn=>?_
  refine Jad 39 Tryz.call157 Tryz.func157 rfl rfl rfl ?_
  refine Xaf ?_
  intro b3
  refine qaq ?_
  intro b4
  refine qaw ?_
  refine Xaa ?_
  refine Xb7 ?_
  apply Ja7 (G:=[_,_,_,_,_,_,_,_,_,_,_,_,_,_,_,_,_,_,_,_,_,_,_,_,_,_,_]) (j:=3) (cj:=8) rfl rfl zb rfl (show _=Value.bool _ from rfl) rfl
  ·
   intro hg4
   replace hg4:=qb hg4
   refine Xaa ?_
   refine qbz ?_
   refine qah ?_
   apply Jb7 (G:=[_,_,_,_,_]) (j:=7) (cj:=12) rfl rfl zb rfl (show _=Value.bool _ from rfl) rfl
   ·
    intro hg8
    replace hg8:=qb hg8
    refine Xaa ?_
    refine Xao ?_
    refine qaj ?_
    exact qai
   intro junk8
   refine qah ?_
   apply Jb7 (G:=[_,_,_,_,_,_]) (j:=14) (cj:=19) rfl rfl zb rfl (show _=Value.bool _ from rfl) rfl
   ·
    intro hg15
    replace hg15:=qb hg15
    have hcg:=Jau (l:=c.l) (k:=r.zone.toNat) default za
    refine Xcj ?_
    refine Kaf ?_
    refine Xb4 ?_
    exact qai
   intro junk15
   refine qah ?_
   apply Jb7 (G:=[_,_,_,_,_,_,_]) (j:=22) (cj:=27) rfl rfl zb rfl (show _=Value.bool _ from rfl) rfl
   ·
    intro hg23
    replace hg23:=qb hg23
    have hcg:=Jau (l:=c.l) (k:=r.zone.toNat) default za
    refine Xcj ?_
    refine Kaf ?_
    refine Xb4 ?_
    refine qbq ?_
    exact qai
   intro junk23
   exact qai
  intro junk4
  refine qaf ?_
  refine q_c (fun hc0=>?_) (fun hc0=>?_)
  ·
   refine qae ?_
   refine Jax (Jal (row:=[_,_,_,_,_]) tb rfl rfl rfl zf zb zb) rfl ?_
   refine qak ?_
   refine qbh ?_
   refine q_r (L':=L) (R':=R) (Jec rfl (Jao (row:=[_,_,_,_,_]) tb rfl rfl rfl zf zb zb)) ?_
   exact ⟨by rw [Jga,if_pos (by rw [Jqq];simpa [and_assoc] using hc0)],rfl,rfl⟩
  refine qbv ?_
  refine q_l rfl (Jsp _ _) ?_
  refine Xbq ?_
  refine q_r (L':=L) (R':=R) (Jec rfl (Jao (row:=[_,_,_,_,_]) tb rfl rfl rfl zf zb zb)) ?_
  exact ⟨by
  rw [Jga,if_neg]
  rw [Jqq]
  rintro (h | ⟨h1,h2,h3⟩)
  · exact hc0.1 h
  · rcases hc0.2 with (h | h) | h
    · omega
    · rw [h] at h2;cases h2
    · exact h h3,rfl,rfl⟩
theorem J5i {A:List Blk} {R:List Sl} {p:OwL XCut} (r:XRest) (hp:InB (p.L 71 XCut.cells) A) (okp:p.ok 3 XCut.cells):
    Tri Tryz.prog 157 [p.val,r.val].toArray A R (fun v L' R'=>v=(Jga p.l r).val∧A=L'∧R=R'):=
  Tri.lendU (S:=[Jp3 p.arr]) (fun w G hh s hs=>by
    rw [List.mem_singleton.1 hs]
    exact Jn3 (T:=71) hh hp okp (fun _=>rfl) ze (fun s hs=>by cases hs)) (J4t p.arr r [] _ (Jaa (.head _)))
end Go.Proofs.YtchfclmokpbldaaGreat
end
section
/-
  The values of conditions: cutoff.Values. By an AI agent; no person has read it.
-/
namespace Go.Proofs.YtchfclmokpbldaaGreat
open Go.Aw Go
set_option maxRecDepth 20000
attribute [local irreducible] CJ LJ DJ Tri YV Gives Jcj Ja1 Jbg Jci RV Ja2 OwL.L
section
variable {A9 B9:Prop}
theorem J5n (h:B9:=by exact ⟨.nil,.nil,by rw [he];rfl,⟨OwL.nil_ok,OwL.nil_ok⟩,by rw [valuesV,if_pos za],by rw [valuesW,if_pos za],by rw [Jbi,Jbi];rfl,rfl⟩):B9:=h
theorem J4p (a:A9) (h:A9→B9:=by exact Jax (Jat tb ((⟨.own b w.l.length [],vs⟩:OwL Int)) _ rfl rfl ((show _=Value.slice _ _ _ from rfl).trans (Jcs hvl)) rfl zg (i:=k) zj zu) rfl):B9:=h a
theorem Kcd (a:A9) (h:A9→B9:=by exact Jax (Jal (row:=[_,_,_,_,_,_,_,_]) tb rfl rfl rfl zf zb zb) rfl):B9:=h a
theorem J9y (a:A9) (h:A9→B9:=by exact Jbs rfl (Jbm (f:=XWatch.cells) (xs:=w) tb rfl rfl rfl ze rfl rfl (hw) (fun _=>rfl) za) rfl rfl):B9:=h a
theorem Kcs (a:A9) (h:A9→B9:=by exact Jt4 5 hT8 (List.nil_sublist _) zc rfl rfl rfl rfl rfl (Jca (show _=Value.slice _ _ _ from rfl))):B9:=h a
theorem Kbq (a:A9) (h:A9→B9:=by exact Jt4 6 hT8 (List.nil_sublist _) zc rfl rfl rfl rfl rfl (Jca (show _=Value.slice _ _ _ from rfl))):B9:=h a
theorem J9u (a:A9) (h:A9→B9:=by exact Jbv (Jal (row:=[_,_,_]) tb rfl rfl rfl zf zb zb) rfl rfl rfl rfl):B9:=h a
end
theorem J7k {fl:List XSpan} {f:XFace}:Kdk fl [f]=[Jl6 fl f]:=rfl
abbrev J62 (s:XSite) (w:List XWatch) (t:Int):Nat→Option Int:=fun i=>nzO (Jq8 (s.conds.l.getD i default) (w.getD i default) t)
abbrev Kdj (s:XSite) (m:List XMeas) (w:List XWatch) (fl:List XSpan) (t:Int):Nat→Int:=fun i=>Jni s.sensors.l m fl (s.conds.l.getD i default) (w.getD i default) t
abbrev Kdi (s:XSite) (m:List XMeas) (w:List XWatch) (t:Int):Nat→XWatch:=fun i=>Ji0 s.sensors.l m (s.conds.l.getD i default) (w.getD i default) t
structure ValsA (s:XSite) (m:Arr XMeas) (w:Arr XWatch) (fl:Arr XSpan) (R:List Sl):Prop where
  site:SiteR s R
  mR:InR (Jde m) R
  wR:InR (Jwm w) R
  flR:InR (J06 fl) R
  ok:∀x∈m.l,Jhj x
theorem Juu {s:XSite} {m:List XMeas} {w:List XWatch} {fl:List XSpan} {t:Int} (h0:Jb1 s=0) (h1:m.length=s.sensors.l.length∧w.length=s.conds.l.length∧fl.length=s.air.mine.roads.l.length) (h2:¬ (t < 0∨2147483648 < t)):valuesErr s m w fl t=((List.range w.length).findSome? (J62 s w t)).getD 0:=by
  rw [valuesErr,if_neg za,if_neg (fun h=>h h1),if_neg h2]
theorem J00 (s:XSite) (m:Arr XMeas) (w:Arr XWatch) (fl:Arr XSpan) (t:Int) (L:List Blk) (R:List Sl) (h:ValsA s m w fl R):
    Tri Tryz.prog 154 [s.val, m.val, w.val, fl.val, .int .i64 t].toArray L R
      (fun v L' R'=>∃(p:OwL Int) (q:OwL XWatch),v=.tuple #[p.val,q.val,.int .i64 (valuesErr s m.l w.l fl.l t)]∧(p.ok 1 Jap∧q.ok 3 XWatch.cells)∧p.l=valuesV s m.l w.l fl.l t∧q.l=valuesW s m.l w.l fl.l t∧p.L 3 Jap ++ (q.L 153 XWatch.cells ++ L)=L'∧R=R'):=by
  obtain ⟨hs,hm,hw,hfl,hok⟩:=h
  have hsR:=hs.sensors
  have hcR:=hs.conds
  refine Jad 152 Tryz.call154 Tryz.func154 rfl rfl rfl ?_
  refine Xaf ?_
  intro b5
  refine Xbr ?_
  refine Xas ?_
  refine Kcd ?_
  refine q_l rfl (Jgp s _ _ hs) ?_
  refine Xa9 ?_
  refine q_c (fun hc0=>?_) (fun hc0=>?_)
  ·
   refine Xbc ?_
   refine Xbr ?_
   refine Xai ?_
   refine q_r (L':=L) (R':=R) (Jnq rfl (Jaf (show _=Value.slice _ _ _ from rfl)) (Jaf (show _=Value.slice _ _ _ from rfl)) (Jaf (show _=Value.int _ _ from rfl))) ?_
   have he:valuesErr s m.l w.l fl.l t=Jb1 s:=by rw [valuesErr,if_pos hc0]
   exact J5n
  have hsk:=Jez (s:=s) za
  have hsl:=hsk.len
  have hrl:=(Jeo hsk.air).mine.roads
  refine qbo ?_
  refine Xao ?_
  refine Xab ?_
  refine Xbu ?_
  apply Ja7 (G:=[_,_,_,_,_,_]) (j:=6) (cj:=32) rfl rfl zb rfl (show _=Value.bool _ from rfl) rfl
  ·
   intro hg7
   replace hg7:=qb hg7
   refine Xao ?_
   refine Xab ?_
   refine qbq ?_
   exact qai
  intro junk7
  refine qah ?_
  apply Ja7 (G:=[_,_,_,_,_,_,_,_]) (j:=14) (cj:=40) rfl rfl zb rfl (show _=Value.bool _ from rfl) rfl
  ·
   intro hg15
   replace hg15:=qb hg15
   refine Xao ?_
   iterate 3 refine qab ?_
   refine qac ?_
   refine qag ?_
   refine qbq ?_
   exact qai
  intro junk15
  refine qaf ?_
  refine q_c (fun hc1=>?_) (fun hc1=>?_)
  ·
   refine qae ?_
   refine Xbr ?_
   refine Xai ?_
   refine q_r (L':=L) (R':=R) (Jnq rfl (Jaf (show _=Value.slice _ _ _ from rfl)) (Jaf (show _=Value.slice _ _ _ from rfl)) (Jaf (show _=Value.int _ _ from rfl))) ?_
   have he:valuesErr s m.l w.l fl.l t=11:=by rw [valuesErr,if_neg za,if_pos za]
   exact J5n
  refine qbo ?_
  refine Xb0 ?_
  apply Ja7 (G:=[_,_]) (j:=2) (cj:=52) rfl rfl zb rfl (show _=Value.bool _ from rfl) rfl
  ·
   intro hg3
   replace hg3:=qb hg3
   refine Xb5 ?_
   exact qai
  intro junk3
  refine qaf ?_
  refine q_c (fun hc2=>?_) (fun hc2=>?_)
  ·
   refine qae ?_
   refine Xbr ?_
   refine Xai ?_
   refine q_r (L':=L) (R':=R) (Jnq rfl (Jaf (show _=Value.slice _ _ _ from rfl)) (Jaf (show _=Value.slice _ _ _ from rfl)) (Jaf (show _=Value.int _ _ from rfl))) ?_
   have he:valuesErr s m.l w.l fl.l t=8:=by rw [valuesErr,if_neg za,if_neg za,if_pos za]
   exact J5n
  have hve:=Juu (s:=s) (m:=m.l) (w:=w.l) (fl:=fl.l) (t:=t) za za za
  refine qcl ?_
  refine Jr3 [56,57,58,59,60,14,15] ((⟨fun g=>[(14,.slice (some ⟨g.1.1,0,none⟩) w.l.length w.l.length),(15,(⟨g.1.2,w.l⟩:OwL XWatch).val)],fun g=>(⟨.own g.1.1 w.l.length [],List.replicate w.l.length 0⟩:OwL Int).L 3 Jap ++ ((⟨g.1.2,w.l⟩:OwL XWatch).L 153 XWatch.cells ++ (⟨b5,s.cells,38⟩ :: L)),fun _=>R,fun _=>0⟩:Head {g:Nat×Ow // (⟨g.2,w.l⟩:OwL XWatch).ok 3 XWatch.cells})) ?_ ?_
  ·
   skip
   refine Jxv tb [] [0,1,3,2,4,5,6] [] (_) [] 7 Jby zc rfl rfl zi fun hT8=>?_
   refine Jt4 0 hT8 (List.nil_sublist _) zc rfl rfl rfl rfl rfl (Jav (show _=Value.slice _ _ _ from rfl)) ?_
   refine Jt4 1 hT8 (List.nil_sublist _) zc rfl rfl rfl rfl rfl (Jhf tb rfl rfl rfl) ?_
   refine Jt4 3 hT8 (List.nil_sublist _) zc rfl rfl rfl rfl rfl (Jav (show _=Value.slice _ _ _ from rfl)) ?_
   refine Jai [2,4] hT8 (List.nil_sublist _) zc ?_
   refine Jaq ?_ ?_
   ·
    skip
    refine Jbs rfl (Je2 tb rfl rfl rfl rfl rfl rfl rfl za za) rfl rfl ?_
    rintro v L' R' ⟨b58,rfl,rfl,hR58⟩
    replace hR58:=hR58.symm;subst hR58
    refine qa1 ?_
    refine Jai [4] hT8 (List.nil_sublist _) zc ?_
    refine qca ?_
    refine J9y ?_
    rintro v L' R' ⟨o60,rfl,hok60,rfl,rfl⟩
    refine qa1 ?_
    refine Kcs ?_
    refine Kbq ?_
    refine Ja8 hT8 (List.nil_sublist _) zc rfl ?_
    refine Jaz ?_
    first
      | exact Jas ⟨(b58,o60),hok60⟩ zm zh (List.Perm.refl _) zia (Jac _)
      | exact Jas ⟨(b58,o60),hok60⟩ zm zh List.perm_middle zia (Jac _)
   refine qca ?_
   refine J9y ?_
   rintro v L' R' ⟨o60,rfl,hok60,rfl,rfl⟩
   refine qa1 ?_
   refine Jai [2] hT8 (List.nil_sublist _) zc ?_
   refine qca ?_
   refine Jbs rfl (Je2 tb rfl rfl rfl rfl rfl rfl rfl za za) rfl rfl ?_
   rintro v L' R' ⟨b58,rfl,rfl,hR58⟩
   replace hR58:=hR58.symm;subst hR58
   refine qa1 ?_
   refine Kcs ?_
   refine Kbq ?_
   refine Ja8 hT8 (List.nil_sublist _) zc rfl ?_
   refine Jaz ?_
   first
     | exact Jas ⟨(b58,o60),hok60⟩ zm zh (List.Perm.refl _) zia (Jac _)
     | exact Jas ⟨(b58,o60),hok60⟩ zm zh List.perm_middle zia (Jac _)
  rintro ⟨⟨b,o⟩,hok60⟩ junk
  try dsimp only
  dsimp only at hok60
  refine qbi ?_
  refine Xaw ?_
  refine Jan [(1,Value.slice _ _ _),(2,Value.slice _ _ _),(3,Value.slice _ _ _),(4,Value.int _ _),(5,Value.pointer _),(14,Value.slice _ _ _),(15,Value.slice _ _ _),(62,Value.slice _ _ _),(63,Value.int _ _),(64,Value.int _ _)] zh fun tq0=>?_
  refine q_p [10,11,12,16,17,18,19,20,64,65,66,67,68,69,70,71,72,73,74,75,76,77,78,79,80,81,82,83,84,85,86,87,88,89,90,91,92,93,94,95,96,97,98,99,100,101,102,103,104,105,106,107,108,109,110,111,112,113,114,115,116,117,118,119,120,121,122,123,124,125,126,127,128,129,130,131,132,133,134,135,136,137,138,139,140,141,142,143,144,145,146,147,148,149] ((⟨fun g=>[(64,.int .i64 ((g.1.1:Nat):Int))],fun g=>(⟨.own b w.l.length [],g.1.2.1⟩:OwL Int).L 3 Jap ++ ((⟨o,g.1.2.2⟩:OwL XWatch).L 153 XWatch.cells ++ (⟨b5,s.cells,38⟩ :: L)),fun _=>R,fun g=>w.l.length - g.1.1⟩:Head {g:Nat×List Int×List XWatch // (g.1≤w.l.length∧(List.range w.l.length).findSome? (J62 s w.l t)=((List.range w.l.length).drop g.1).findSome? (J62 s w.l t))∧WrTo w.l.length 0 (Kdj s m.l w.l fl.l t) g.1 g.2.1∧WrO w.l (Kdi s m.l w.l t) g.1 g.2.2})) (⟨(0,List.replicate w.l.length 0,w.l),⟨by dsimp only;omega,by rw [List.drop_zero]⟩,.zero,.zero⟩) ?_
  rintro ⟨⟨k,vs,ws⟩,⟨hk,hp⟩,hV,hW⟩ junk
  try dsimp only
  dsimp only at hk hp hV hW
  have hvl:=hV.len
  have hwl:=hW.len
  have hvk:(⟨.own b w.l.length [],vs⟩:OwL Int).ok 1 Jap:=by have:=Jfc (f:=Jap) (wd:=1) (b:=b) (n:=w.l.length) (x:=0) Jds zG;exact OwL.len_ok Jds this (by simp;exact hvl)
  have hwk:(⟨o,ws⟩:OwL XWatch).ok 3 XWatch.cells:=OwL.len_ok (fun _=>rfl) hok60 hwl
  refine Xak ?_
  refine q_c (fun hc3=>?_) (fun hc3=>?_)
  ·
   have hcg:=Jau (l:=s.conds.l) (k:=k) default za
   have hwg:=Jau (l:=w.l) (k:=k) default za
   have hvg:=hV.non k (Nat.le_refl _) za
   have hwg2:=hW.old k (Nat.le_refl _)
   rw [hwg] at hwg2
   have hcf:=Jst (hsk.cond _ (List.mem_of_getElem? hcg))
   have hVn:=fun (v:Int)=>hV.next (x:=v) za
   have hWn:=fun (v:XWatch)=>hW.next (x:=v) za
   have hpn:=Jen (f:=J62 s w.l t) hp za
   have hps:=fun (e:Int) (he:J62 s w.l t k=some e)=>Jdo (f:=J62 s w.l t) hp za he
   obtain ⟨c,hc⟩:∃c,c=s.conds.l.getD k default:=⟨_,rfl⟩
   obtain ⟨wk,hwe⟩:∃wk,wk=w.l.getD k default:=⟨_,rfl⟩
   obtain ⟨X,hX⟩:∃X,X=Jew s.sensors.l m.l c.target t:=⟨_,rfl⟩
   have hvE:J62 s w.l t k=nzO (Jq8 c wk t):=by rw [hc,hwe]
   have hvV:Kdj s m.l w.l fl.l t k=Jni s.sensors.l m.l fl.l c wk t:=by rw [hc,hwe]
   have hvW:Kdi s m.l w.l t k=Ji0 s.sensors.l m.l c wk t:=by rw [hc,hwe]
   rw [← hc] at hcg hcf
   rw [← hwe] at hwg hwg2
   rw [hvV] at hVn
   rw [hvE] at hpn hps
   rw [hvW] at hWn
   rw [Jni,← hX] at hVn
   rw [Jq8] at hpn hps
   refine Xa6 ?_
   refine Jax zC rfl ?_
   refine Jax zVa rfl ?_
   refine qaq ?_
   intro b17
   refine qad ?_
   refine Xa2 ?_
   refine Kcd ?_
   refine qbm ?_
   refine Xal ?_
   refine q_l rfl (Jub s m c.target t _ _ hsR hm hok za) ?_
   rw [← hX]
   refine qaq ?_
   intro b18
   refine Xb1 ?_
   refine Ja6 (Jab (Jbd (Jam (Jah ?_))))
   refine Xaz ?_
   refine q_c (fun hc4=>?_) (fun hc4=>?_)
   ·
    refine Jam ?_
    refine Jbf tb [0,1,2,3,4,5,6,7,8,9,10,11,12,13,14] ([Blk.mk b18 _ _,Blk.mk b17 _ _]) Jby zc zi ?_
    refine qal ?_
    refine Jbu (Jal (row:=[_,_,_]) tb rfl rfl rfl zf zb zb) rfl rfl rfl ?_
    refine Jbu (Jav (show _=Value.slice _ _ _ from rfl)) rfl rfl rfl ?_
    refine Xdp ?_
    refine qdv ?_
    refine qbd ?_
    refine qao ?_
    refine q_d rfl (J6u c.level wk X t _ _) ?_
    refine Jbu (Jav rfl) rfl rfl rfl ?_
    refine Jbu (Jb3 rfl rfl) rfl rfl rfl ?_
    refine Jbu (Jb3 rfl rfl) rfl rfl rfl ?_
    refine qbr ?_
    intro b19
    refine Xdq ?_
    refine qc6 ?_
    refine qaa ?_
    refine Xaq ?_
    refine q_c (fun hc5=>?_) (fun hc5=>?_)
    ·
     refine Xbc ?_
     refine Xbr ?_
     refine qad ?_
     refine Ja6 (Jab (Jcq (Jba (Ja5 (Ja5 (Jba (Jdu (Ja5 (Jba ?_)))))))))
     refine q_r (L':=L) (R':=R) (Jnq rfl (Jaf (show _=Value.slice _ _ _ from rfl)) (Jaf (show _=Value.slice _ _ _ from rfl)) (Jaf (show _=Value.int _ _ from rfl))) ?_
     have hfe:=hps (Jd7 c.level wk t) (by rw [if_pos hc4,Jtl hc5])
     have he:valuesErr s m.l w.l fl.l t=Jd7 c.level wk t:=by rw [hve,hfe];rfl
     exact J5n
    have hse:Jd7 c.level wk t=0:=by omega
    rw [Jy9 hse]
    refine Ja4 (Jab ?_)
    refine Jbk tb [96,97] [0,1,2,3,4,5,6,7,8,9] [10,11,12] ([Blk.mk b19 _ _,Blk.mk b18 _ _,Blk.mk b17 _ _]) _ Jby zc zi (by (repeat (first | apply List.Sublist.cons (a:=Blk.mk b15 _ _) | apply List.Sublist.cons (a:=Blk.mk b14 _ _) | apply List.Sublist.cons_cons));exact List.Sublist.refl _) ?_
    refine Xc7 ?_
    refine Jd2 (Jav (show _=Value.slice _ _ _ from rfl)) rfl rfl rfl rfl ?_
    refine Jd2 (Jav (show _=Value.int _ _ from rfl)) rfl rfl rfl rfl ?_
    refine J9u ?_
    refine Jbv (Jal (row:=[_,_,_,_,_,_]) tb rfl rfl rfl zf zb zb) rfl rfl rfl rfl ?_
    refine J9u ?_
    refine Jbv (Jal (row:=[_,_]) tb rfl rfl rfl zf zb zb) rfl rfl rfl rfl ?_
    refine Jdf rfl (J6q c (Jex c.level wk X t) X _ _) rfl rfl ?_
    rintro v L' R' ⟨rfl,rfl,rfl⟩
    refine ⟨zi,zx,?_⟩
    refine Jbv (Jat tb ((⟨o,ws⟩:OwL XWatch)) _ rfl rfl ((show _=Value.slice _ _ _ from rfl).trans (by simp only [OwL.val,hwl])) rfl zg (i:=k) zj zu) rfl rfl rfl rfl ?_
    refine qba ?_
    refine Jmm (Jcn tb ((⟨o,ws⟩:OwL XWatch)) (Jex c.level wk X t) rfl rfl rfl rfl zk zg (fun _=>rfl) zg (Nat.le_of_ble_eq_true rfl) zb zb) rfl rfl ?_
    rintro v L' R' ⟨rfl,rfl⟩
    refine qa1 ?_
    refine Jbu (Jat tb ((⟨.own b w.l.length [],vs⟩:OwL Int)) _ rfl rfl ((show _=Value.slice _ _ _ from rfl).trans (Jcs hvl)) rfl zg (i:=k) zj zu) rfl rfl rfl ?_
    refine Jmm (Jar tb ((⟨.own b w.l.length [],vs⟩:OwL Int)) (if (Jex c.level wk X t).over=false then -1 else if Jfi X c.level.cut=1 then 1 else 0) rfl rfl rfl rfl zk zg (fun _=>rfl) zg ze zb zb) rfl rfl ?_
    rintro v L' R' ⟨rfl,rfl⟩
    refine qa1 ?_
    refine Jaz (Jag (Jag (Jab (Jah ?_))))
    refine Xae ?_
    exact q_k ⟨(k + 1,vs.set k (if (Jex c.level wk X t).over=false then -1 else if Jfi X c.level.cut=1 then 1 else 0),ws.set k (Jex c.level wk X t)),hpn (by rw [if_pos hc4,hse];rfl),hVn _ (by rw [if_neg (show ¬ c.kind=5 by omega),if_neg (show ¬ c.kind=2 by omega),if_neg (show ¬ c.kind=3 by omega),if_neg (show ¬ c.kind=4 by omega)]),hWn _ (by rw [Ji0,if_pos hc4,hX])⟩
   have hst:Ji0 s.sensors.l m.l c wk t=wk:=by rw [Ji0,if_neg hc4]
   have hWk:=hW.stay (show w.l[k]?=some (Kdi s m.l w.l t k) by rw [hvW,hwg,hst])
   have hpk:=hpn (by rw [if_neg hc4];rfl)
   refine Xbf ?_
   refine q_c (fun hc6=>?_) (fun hc6=>?_)
   ·
    refine Xci ?_
    refine qbe ?_
    refine Xaa ?_
    refine q_l rfl (Jod X c.value _ _) ?_
    have hab:-1≤Jfi X c.value∧Jfi X c.value≤1:=by rw [Jfi];(repeat' split) <;> omega
    refine qcq ?_
    refine J4p ?_
    refine Jd9 (Jar tb ((⟨.own b w.l.length [],vs⟩:OwL Int)) (-(Jfi X c.value)) rfl rfl rfl rfl zk zg (fun _=>rfl) zg ze zb zb) ?_
    rintro v L' R' ⟨rfl,rfl⟩
    refine Ja6 (Jag (Jag (Jab (Jah ?_))))
    refine Xae ?_
    exact q_k ⟨(k + 1,vs.set k (-(Jfi X c.value)),ws),hpk,hVn _ (by rw [if_neg za,if_pos hc6]),hWk⟩
   refine Xbf ?_
   refine q_c (fun hc7=>?_) (fun hc7=>?_)
   ·
    refine Xci ?_
    refine qbe ?_
    refine q_l rfl (Jw1 X _ _) ?_
    refine J4p ?_
    refine Jd9 (Jar tb ((⟨.own b w.l.length [],vs⟩:OwL Int)) (Jhb X) rfl rfl rfl rfl zk zg (fun _=>rfl) zg ze zb zb) ?_
    rintro v L' R' ⟨rfl,rfl⟩
    refine Ja6 (Jag (Jag (Jab (Jah ?_))))
    refine Xae ?_
    exact q_k ⟨(k + 1,vs.set k (Jhb X),ws),hpk,hVn _ (by rw [if_neg za,if_neg za,if_pos hc7]),hWk⟩
   refine Xbf ?_
   refine q_c (fun hc8=>?_) (fun hc8=>?_)
   ·
    refine qae ?_
    refine Xau ?_
    refine J4p ?_
    refine Jd9 (Jar tb ((⟨.own b w.l.length [],vs⟩:OwL Int)) (-1) rfl rfl rfl rfl zk zg (fun _=>rfl) zg ze zb zb) ?_
    rintro v L' R' ⟨rfl,rfl⟩
    refine qa4 ?_
    refine Jbf tb [0,1,2] ([Blk.mk b18 _ _]) Jby zc zi ?_
    refine qbd ?_
    refine q_d rfl (Jb5 _ _) ?_
    refine Jbu (Jpr J63 rfl rfl) rfl rfl rfl ?_
    refine qbu ?_
    refine q_c (fun hc9=>?_) (fun hc9=>?_)
    ·
     have hvk2:=OwL.set_ok (p:=(⟨.own b w.l.length [],vs⟩:OwL Int)) (i:=k) (x:= -1) Jds hvk
     have hvg2:(vs.set k (-1))[k]?=some (-1):=List.getElem?_set_self za
     refine Xci ?_
     refine Jax (Jat tb ((⟨.own b w.l.length [],vs.set k (-1)⟩:OwL Int)) _ rfl rfl ((show _=Value.slice _ _ _ from rfl).trans (Jcs (by rw [List.length_set];exact hvl))) rfl zg (i:=k) zj zu) rfl ?_
     refine Jd9 (Jar tb ((⟨.own b w.l.length [],vs.set k (-1)⟩:OwL Int)) (1) rfl rfl rfl rfl zk zg (fun _=>rfl) zg ze zb zb) ?_
     rintro v L' R' ⟨rfl,rfl⟩
     refine Ja6 (Jag (Jag (Jab (Jah ?_))))
     refine Xae ?_
     exact q_k ⟨(k + 1,(vs.set k (-1)).set k 1,ws),hpk,by dsimp only;rw [List.set_set];exact hVn _ (by rw [if_neg za,if_neg za,if_neg za,if_pos hc8,if_pos (Jtb.2 za)]),hWk⟩
    refine Ja4 (Jag (Jag (Jab (Jah ?_))))
    refine Xae ?_
    exact q_k ⟨(k + 1,vs.set k (-1),ws),hpk,hVn _ (by rw [if_neg za,if_neg za,if_neg za,if_pos hc8,if_neg (fun e=>by rw [Jtb] at e;omega)]),hWk⟩
   refine Xbf ?_
   refine q_c (fun hc10=>?_) (fun hc10=>?_)
   ·
    refine Xci ?_
    refine qbm ?_
    refine Xa1 ?_
    refine qcd ?_
    refine Jgl (Ja0 (qs:=[(0,(Value.agg _).cells.toList)]) (out:=[_,_]) tb rfl rfl rfl rfl rfl rfl rfl) rfl ?_
    rintro v L' R' ⟨b143,rfl,rfl,hR143⟩
    replace hR143:=hR143.symm;subst hR143
    refine Jhr (wd:=2) (len:=1) (cap:=1) (rows:=[XFace.cells ⟨c.target,c.value⟩]) (subs:=[]) rfl ze ze (fun r hr=>by rw [List.mem_singleton.1 hr];rfl) ze rfl (fun s hs=>by cases hs) ?_
    refine Jaw rfl (J6c fl ⟨some ⟨b143,0,none⟩,1,[⟨c.target,c.value⟩]⟩ _ _ (hfl.mono fun r h=>Jaa zw) (Jaa (.head _)) (fun f hf=>by rw [List.mem_singleton.1 hf];dsimp only;omega) (show 1≤1000 by decide) za) rfl ?_
    rintro v L' R' ⟨p,rfl,hpk1,hpl,rfl,rfl⟩
    rw [J7k] at hpl
    have hp0:p.l[0]?=some (Jl6 fl.l ⟨c.target,c.value⟩):=by rw [hpl];rfl
    have hpn1:p.l.length=1:=by rw [hpl];rfl
    have hfb:-1≤Jl6 fl.l ⟨c.target,c.value⟩∧Jl6 fl.l ⟨c.target,c.value⟩≤1:=by rw [Jl6,J33];(repeat' split) <;> omega
    refine Jax (Jat tb (p) _ rfl rfl rfl rfl zg (i:=0) zj zu) rfl ?_
    refine Jax (Jbj tb (p) rfl rfl rfl zk zg (fun _=>rfl) zg zb) rfl ?_
    refine qcq ?_
    refine J4p ?_
    refine Jd9 (Jar tb ((⟨.own b w.l.length [],vs⟩:OwL Int)) (-(Jl6 fl.l ⟨c.target,c.value⟩)) rfl rfl rfl rfl zk zg (fun _=>rfl) zg ze zb zb) ?_
    rintro v L' R' ⟨rfl,rfl⟩
    refine Ja6 (Jag (Jag (Jab (Jah ?_))))
    refine Xae ?_
    exact Jbl ⟨(k + 1,vs.set k (-(Jl6 fl.l ⟨c.target,c.value⟩)),ws),hpk,hVn _ (by rw [if_pos hc10]),hWk⟩ zm zh zi (fun r h=>Jaa zw) zy
   (exfalso;omega)
  obtain rfl:k=w.l.length:=by omega
  have hn:=Jf2 (f:=J62 s w.l t) hp (Nat.le_refl _)
  have he:valuesErr s m.l w.l fl.l t=0:=by rw [hve,hn];rfl
  refine Xc9 ?_
  refine qbm ?_
  refine Xbr ?_
  refine Xah ?_
  refine q_r (L':=(⟨.own b w.l.length [],vs⟩:OwL Int).L 3 Jap ++ ((⟨o,ws⟩:OwL XWatch).L 153 XWatch.cells ++ L)) (R':=R) (Jnq rfl (Jaf (show _=Value.slice _ _ _ from rfl)) (Jaf (show _=Value.slice _ _ _ from rfl)) (Jaf (show _=Value.int _ _ from rfl))) ?_
  exact ⟨(⟨.own b w.l.length [],vs⟩:OwL Int),(⟨o,ws⟩:OwL XWatch),by rw [he,OwL.val,OwL.val,hvl,hwl];try rfl,⟨hvk,hwk⟩,by rw [valuesV,if_neg za];exact hV.done,by rw [valuesW,if_neg za];exact hW.done,rfl,rfl⟩
end Go.Proofs.YtchfclmokpbldaaGreat
end
