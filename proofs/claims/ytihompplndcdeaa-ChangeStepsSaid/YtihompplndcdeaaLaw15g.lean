/-
  Statements about chapter 15: an order leads over harmless changes to the other setting. By an AI agent; no person has read it.
-/
import Derived.Test.YtihompplndcdeaaLaw15e
import Derived.Test.YtihompplndcdeaaIntsB
import Derived.Test.YtihompplndcdeaaSpans
set_option linter.unusedVariables false
set_option linter.unusedSimpArgs false
namespace Go.Proofs.Ytihompplndcdeaa
open Go.Aw Go
section
variable {A9 B9:Prop}
theorem J0j (a:A9) (h:A9→B9:=by exact Jax (by first | exact Jdf rfl rfl | exact Jcx rfl rfl | exact Jg7 rfl) rfl):B9:=h a
theorem J6f (a:A9) (h:A9→B9:=by exact Jaz tb [] [0,1,2,3,4,5,6,7,8] [9] ([Blk.mk b14 _ _,Blk.mk b7 _ _]) _ Jbh (by kernel_rfl) (by repeat (first | exact zs0 _ | exact zs1 _ | apply zs2 | apply zs3 | apply zs4 | apply zs5)) (List.nil_sublist _)):B9:=h a
end
theorem J19 {z:XSetting} {t:Sts}:Jak z=t↔z.fans.l=t.1∧z.doors.l=t.2:=by
  obtain ⟨t1,t2⟩:=t
  simp only [Jak,Prod.mk.injEq]
set_option maxRecDepth 20000
attribute [local irreducible] CJ LJ DJ Tri YV Gives Jdn Jaw Jbk Jdo RV Jay OwL.L
theorem Jm6 (y:Arr Int) (R:List Sl) (hy:CodesR y R):
    Tri Try.prog 4 [y.val].toArray [] R (fun v L' R'=>v=.bool true∧[]=L'∧R=R'):=by
  refine Jae 179 Try.call4 Try.func4 rfl rfl rfl ?_
  refine Xbh ?_
  refine qam ?_
  refine qbm ?_
  refine Jaq rfl (Jt1 y _ _ hy) rfl ?_
  rintro v L' R' ⟨c,rfl,hx,rfl,rfl⟩
  refine qc1 ?_
  refine qam ?_
  refine qa6 ?_
  refine Jaq rfl (J34 (.consL .nil) hx (Nat.zero_le _)) rfl ?_
  rintro v L' R' ⟨m,k1,S,rfl,hm,hMA,hif,hid,hk1,rfl,rfl⟩
  simp only [List.append_assoc,List.cons_append,List.nil_append]
  refine Jax (Jap rfl) rfl ?_
  iterate 3 refine qbs ?_
  refine qaq ?_
  intro b4
  refine qaq ?_
  intro b5
  refine qaq ?_
  intro b6
  iterate 3 refine qak ?_
  refine qa4 ?_
  refine Jt5 (A:=[]) hm hMA (fun f hf=>(hif f hf).mono fun r hr=>Jab (by simp [hr])) (fun f hf=>(hid f hf).mono fun r hr=>Jab (by simp [hr])) fun a s x R1 hMA hA hT hX hR1=>?_
  refine qb1 ?_
  obtain ⟨_,hae,hF,hri,hfo⟩:=hMA.b
  have hx1:CodesR (Jd6 y) R1:=hx.mono fun r hr=>hR1 r (by simp [hr])
  have hR0:∀r∈R,InR r R1:=fun r hr=>hR1 r (by simp [hr])
  have hnp:=hMA.nplaces
  have hnr:=hMA.nroads
  have hnf:=hMA.nfans
  have hnd:=hMA.ndoors
  obtain ⟨A,hAA⟩:=Juh a.mine
  obtain ⟨K,hK⟩:=Jhp a.mine
  refine Ja5 tb [0,1,3,4,2,5,6,7,8] ([Blk.mk b4 _ _]) Jbh (by kernel_rfl) (by repeat (first | exact zs0 _ | exact zs1 _ | apply zs2 | apply zs3 | apply zs4 | apply zs5)) ?_
  refine qb8 ?_
  refine qbc ?_
  refine qb8 ?_
  refine qbc ?_
  refine Jdx rfl (Jqx (a:=a) (.consB (.consB (.consB (.consL .nil)))) hx1 hk1 hA.doors (by omega) (by omega) hae.rests) rfl rfl ?_
  rintro v L' R' ⟨tf,td,k3,rfl,⟨ht1,ht2⟩,hAS,hk3,rfl,rfl⟩
  simp only [List.append_assoc,List.cons_append,List.nil_append]
  refine qas ?_
  refine Jdx rfl (Tri.spl (.consB (.consB (.consB (.consL .rest)))) (Jhk c (Jd6 y) k3 a _ hx1 hk3 (by omega))) rfl rfl ?_
  rintro v L' R' ⟨_,rfl,f,k4,rfl,hfk,hfd,hk4,rfl,rfl⟩
  simp only [List.append_assoc,List.cons_append,List.nil_append]
  refine qas ?_
  refine qbr ?_
  intro b7
  refine qbg ?_
  refine Jbx (Jcy (show _=Value.slice _ _ _ from rfl)) rfl rfl rfl ?_
  refine qb9 ?_
  refine Jbn (A:=[_,_,_,_]) (wd:=1) [] (fun _=>rfl) (by decide) ht1 (fun s hs=>by cases hs) ?_
  refine qb1 ?_
  refine Jbn (A:=[_,_,_,_]) (wd:=1) [] (fun _=>rfl) (by decide) ht2 (fun s hs=>by cases hs) ?_
  refine qb1 ?_
  refine Jbn (A:=[_,_,_,_]) (wd:=2) [] (fun _=>rfl) (by decide) hfk (fun s hs=>by cases hs) ?_
  refine qb1 ?_
  obtain ⟨R3,hR3e⟩:∃R3,R3=Jty f.arr :: isl td.arr :: isl tf.arr :: R1:=⟨_,rfl⟩
  have hR3:∀r∈R1,InR r R3:=fun r hr=>Jab (by simp [hR3e,hr])
  have hU:SetR (⟨tf.arr,td.arr⟩:XSetting) R3:=⟨Jab (by simp [hR3e]),Jab (by simp [hR3e])⟩
  have hfR:InR (Jty f.arr) R3:=Jab (by simp [hR3e])
  have hfo2:Jhn f.arr.l:=fun y hy=>by have:=(hfd.at_ y hy).2;omega
  have hfl:f.arr.l.length≤1000:=by have:=hfd.len;show f.l.length≤1000;omega
  have hA3:=Jcd hA hR3
  have hT3:=Jbu hT hR3
  have hRR3:∀r∈R,InR r R3:=fun r hr=>(hR0 r hr).mono hR3
  have hfit:=hAS.fit
  refine Jz1 (show _=R3 by rw [hR3e]) ?_
  refine qay ?_
  refine Xaz ?_
  refine qbe ?_
  refine qbm ?_
  refine Jaq rfl (Jh6 a s (⟨tf.arr,td.arr⟩:XSetting) f.arr A K _ _ hA3 hT3 hU hfR hfo2 hfl (fun _=>hAA) hK) rfl ?_
  rintro v L' R' ⟨p,rfl,hpk,hpl,rfl,rfl⟩
  have hsq:=J2s (fc:=f.l) (A:=A) (K:=K) hMA.err ⟨hMA.fit,hfit⟩
  refine Jax (Jap rfl) rfl ?_
  refine Xbw ?_
  refine Xcm ?_
  refine Xa3 ?_
  refine q_c (fun hc0=>?_) (fun hc0=>?_)
  ·
   have hc0':=hsq.2 hc0
   refine Xbb ?_
   refine Xcr ?_
   refine Jej (k:=46) (show _=Value.bool _ from rfl) (fun hg3=>?_) (fun hg3=>?_)
   ·
    replace hg3:=qb hg3
    refine Jga rfl rfl ?_
    refine Jga rfl rfl ?_
    refine J0j ?_
    refine qah ?_
    ·
     skip
     refine Jiv rfl (Jfv _ _) rfl rfl ?_
     rintro v L' R' ⟨rfl,rfl,rfl⟩
     refine J0j ?_
     refine qaz ?_
     refine qbh ?_
     refine Jbj (L':=[]) (R':=R) (Jd4 rfl (Jal (show _=Value.bool _ from rfl))) ?hp ?hL ?hR
     case hp=>exact ⟨rfl,rfl,rfl⟩
     case hL=>exact List.nil_sublist _
     case hR=>exact hRR3
   replace hg3:=qb hg3
   refine Jc0 (Jap (show _=Value.int _ _ from rfl)) rfl rfl ?_
   refine Jc0 (Jm8 rfl rfl) rfl rfl ?_
   refine J0j ?_
   refine qah ?_
   refine Jej (k:=50) (show _=Value.bool _ from rfl) (fun hg7=>?_) (fun hg7=>?_)
   ·
    replace hg7:=qb hg7
    refine Jiv rfl (Jfv _ _) rfl rfl ?_
    rintro v L' R' ⟨rfl,rfl,rfl⟩
    refine J0j ?_
    refine qaz ?_
    refine qbh ?_
    refine Jbj (L':=[]) (R':=R) (Jd4 rfl (Jal (show _=Value.bool _ from rfl))) ?hp ?hL ?hR
    case hp=>exact ⟨rfl,rfl,rfl⟩
    case hL=>exact List.nil_sublist _
    case hR=>exact hRR3
   replace hg7:=qb hg7
   (exfalso;omega)
  obtain ⟨hgo,hlf,hp3⟩:=hsq.1 (Decidable.not_not.1 hc0)
  rw [← show p.l=(Jo5 a s (⟨tf.arr,td.arr⟩:XSetting) f.l A K).2 from hpl] at hgo hlf hp3
  refine qcl ?_
  refine Jbn (A:=[]) (wd:=1) [] (fun _=>rfl) (by decide) hpk (fun s hs=>by cases hs) ?_
  refine Jlf (by simp only [List.nil_append];rfl) ?_
  obtain ⟨R4,hR4e⟩:∃R4,R4=isl p.arr :: R3:=⟨_,rfl⟩
  have hR4:∀r∈R3,InR r R4:=fun r hr=>Jab (by simp [hR4e,hr])
  have hpR:InR (isl p.arr) R4:=Jab (by simp [hR4e])
  refine Jz1 (show _=R4 by rw [hR4e]) ?_
  refine qay ?_
  refine qbe ?_
  refine qaq ?_
  intro b11
  refine Xbk ?_
  refine Xcl ?_
  refine Jag [(4,Value.pointer _),(5,Value.pointer _),(7,Value.pointer _),(8,Value.slice _ _ _),(11,Value.pointer _),(54,Value.slice _ _ _),(55,Value.int _ _),(56,Value.int _ _)] (by repeat' (first | exact trivial | refine And.intro rfl ?_)) fun tq0=>?_
  refine q_p [2,13,14,15,16,17,18,19,56,57,58,59,60,61,62,63,64,65,66,67,68,69,70,71,72,73,74,75,76,77,78,79,80,81,82,83,84,85,86,87,88,89,90,91,92,93,94,95,96,97,98,99,100,101,102,103,104,105,106,107,108,109,110,111,112,113,114,115,116,117,118,119,120,121,122,123,124,125,126,127,128,129,130,131,132,133,134,135,136,137,138,139,140,141,142,143,144,145,146,147,148,149,150,151,152,153,154,155,156,157,158,159,160,161,162,163] ((⟨fun g=>[(56,.int .i64 ((g.1.1:Nat):Int))],fun g=>⟨b11,g.1.2.1.cells,35⟩ :: ⟨b7,[tf.val,td.val],35⟩ :: ⟨b6,x.cells,37⟩ :: ⟨b5,s.cells,35⟩ :: ⟨b4,a.cells,32⟩ :: cblk c (Jd6 y) k4 :: [],fun g=>g.1.2.2,fun g=>p.l.length - g.1.1⟩:Head {g:Nat×XSetting×List Sl // g.1≤p.l.length∧SetR g.2.1 g.2.2∧(∀r∈R4,InR r g.2.2)∧GoesS (nxS a A K f.l (Jak (⟨tf.arr,td.arr⟩:XSetting))) (Jak g.2.1) (p.l.drop g.1)∧Left (Jak g.2.1) (Jak (⟨tf.arr,td.arr⟩:XSetting)) (p.l.drop g.1)∧Jdl a g.2.1=true})) (⟨(0,s,R4),Nat.zero_le _,Jbu hT3 hR4,fun r hr=>Jab hr,hgo,hlf,hMA.fit⟩) ?_
  rintro ⟨⟨i,z,R5⟩,hi,hz,h45,hzgo,hzlf,hzf⟩ junk
  try dsimp only
  dsimp only at hi hz h45 hzgo hzlf hzf ⊢
  have hz1:=hz.fans
  have hz2:=hz.doors
  have hA5:=(Jcd hA3 hR4)
  have hA5:=Jcd hA5 h45
  have hU5:=Jbu (Jbu hU hR4) h45
  have hT5:=Jbu (Jbu hT3 hR4) h45
  have hf5:=(hfR.mono hR4).mono h45
  have hp5:=hpR.mono h45
  have hU51:=hU5.fans
  have hU52:=hU5.doors
  have hln:=Jk1 hMA.err hzf hMA.fit
  have hln2:=Jk1 hMA.err hzf hfit
  have hlt:z.fans.l.length=tf.l.length∧z.doors.l.length=td.l.length:=hln2.1
  refine Xar ?_
  refine q_c (fun hc1=>?_) (fun hc1=>?_)
  ·
   have hpg:=Jai (l:=p.l) (k:=i) 0 (by omega)
   rw [Jd2 hpg] at hzgo hzlf
   obtain ⟨hlf',hne,k,hke,hkb⟩:=hzlf.put
   rw [hke] at hpg hzgo hlf' hne
   obtain ⟨z1,hnx,hgo'⟩:∃z1,(nxS a A K f.l (Jak (⟨tf.arr,td.arr⟩:XSetting))) (Jak z) (k:Int)=some z1∧GoesS (nxS a A K f.l (Jak (⟨tf.arr,td.arr⟩:XSetting))) z1 (p.l.drop (i + 1)):=by
     cases hzgo with
     | cons h hr=>exact ⟨_,h,hr⟩
   obtain ⟨hcan,rfl,hquiet⟩:=J0f hnx
   dsimp only [Jak] at hkb
   refine qbb ?_
   refine Jax (by first | exact Jaf tb rfl rfl rfl rfl (by first | assumption | exact zr (by simp)) (i:=i) (by first | rfl | omega | (simp;omega)) (by omega) | exact Jah tb rfl rfl rfl rfl (i:=i) (by first | rfl | omega | (simp;omega)) (by omega)) rfl ?_
   refine qa7 ?_
   refine Xcm ?_
   refine Xa2 ?_
   apply Jbi (G:=[_,_,_,_,_,_,_,_,_]) (j:=2) (cj:=62) rfl rfl (by rfl) rfl (show _=Value.bool _ from rfl) rfl
   ·
    intro hg3
    replace hg3:=qb hg3
    refine qaa ?_
    refine Xab ?_
    refine Xab ?_
    refine qar ?_
    refine qbz ?_
    exact qai
   intro junk3
   refine qaf ?_
   refine q_c (fun hc2=>?_) (fun hc2=>?_)
   ·
    (exfalso;omega)
   refine qcl ?_
   refine Ja5 tb [0,1,3,4,2,5,6,7,8] ([Blk.mk b11 _ _]) Jbh (by kernel_rfl) (by repeat (first | exact zs0 _ | exact zs1 _ | apply zs2 | apply zs3 | apply zs4 | apply zs5)) ?_
   refine Xad ?_
   refine Xad ?_
   refine Jmx (Jd5 (f:=Jad) (xs:=z.fans) tb rfl rfl rfl (by decide) rfl rfl (hz1) (fun _=>rfl) (by omega)) rfl rfl rfl ?_
   rintro v L' R' ⟨o75,rfl,hok75,rfl,rfl⟩
   refine qa1 ?_
   refine Jmx (Jd5 (f:=Jad) (xs:=z.doors) tb rfl rfl rfl (by decide) rfl rfl (hz2) (fun _=>rfl) (by omega)) rfl rfl rfl ?_
   rintro v L' R' ⟨o78,rfl,hok78,rfl,rfl⟩
   refine qa1 ?_
   refine qdq ?_
   refine qbr ?_
   intro b14
   refine qbg ?_
   refine qc6 ?_
   refine qaa ?_
   refine Xbd ?_
   refine Jfq [2,15,16,17,85,86,87,88,89,90,91,92,93,94,95,96,97,98,99,100,101,102,103,104,105,106,107,108,109,110,111,112,113,114,115,116,117,118,119,120,121,122,123,124,125,126,127,128,129,130,131] ((⟨fun _=>[],fun g=>⟨b14,[g.1.1.val,g.1.2.val],35⟩ :: g.1.2.L 3 Jad ++ (g.1.1.L 3 Jad ++ (⟨b11,z.cells,35⟩ :: ⟨b7,[tf.val,td.val],35⟩ :: ⟨b6,x.cells,37⟩ :: ⟨b5,s.cells,35⟩ :: ⟨b4,a.cells,32⟩ :: cblk c (Jd6 y) k4 :: [])),fun _=>R5,fun _=>0⟩:Head {g:OwL Int×OwL Int // (g.1.ok 1 Jad∧g.2.ok 1 Jad)∧(g.1.l,g.2.l)=Jgs (Jak (⟨tf.arr,td.arr⟩:XSetting)) (Jak z) (k:Int)})) ?_ ?_
   ·
    skip
    refine q_c (fun hc3=>?_) (fun hc3=>?_)
    ·
     have hk1:k < z.fans.l.length:=by omega
     have hg1:=Jai (l:=z.fans.l) (k:=k) 0 hk1
     have hg2:=Jai (l:=tf.l) (k:=k) 0 (by omega)
     refine J6f ?_
     refine Xba ?_
     refine Xba ?_
     refine Jb1 (by first | exact Jaf tb rfl rfl rfl rfl (by first | assumption | exact zr (by simp)) (i:=k) (by first | rfl | omega | (simp;omega)) (by omega) | exact Jah tb rfl rfl rfl rfl (i:=k) (by first | rfl | omega | (simp;omega)) (by omega)) rfl rfl rfl rfl ?_
     refine qci ?_
     refine Jb1 (Jao tb ((⟨o75,z.fans.l⟩:OwL Int)) _ rfl rfl rfl rfl (by assumption) (i:=k) (by first | rfl | omega | (simp;omega)) (by first | omega | (dsimp only;omega) | (dsimp only;rw [List.length_set];omega) | (dsimp only;simp only [List.length_set];omega))) rfl rfl rfl rfl ?_
     refine qba ?_
     refine Jqb (Jav tb ((⟨o75,z.fans.l⟩:OwL Int)) (tf.l.getD k 0) rfl rfl rfl rfl (by repeat (first | apply OSeg.cons | exact OSeg.here | exact OSeg.last | exact OSeg.at (by assumption) | apply OSeg.app)) (by assumption) (fun _=>rfl) (by assumption) (by decide) (by rfl) (by rfl)) rfl rfl ?_
     rintro v L' R' ⟨rfl,rfl⟩
     refine qa1 ?_
     refine Jb8 ?_
     exact Jiu ⟨(⟨o75,z.fans.l.set k (tf.l.getD k 0)⟩,(⟨o78,z.doors.l⟩:OwL Int)),⟨OwL.len_ok Jci hok75 (by simp),hok78⟩,(Jtd (t:=Jak (⟨tf.arr,td.arr⟩:XSetting)) (s:=Jak z) hk1).symm⟩ (by repeat (first | exact Off.refl | apply Off.upd rfl | apply Off.havoc rfl | apply Off.updL rfl | apply Off.left rfl)) (by repeat' (first | exact trivial | refine And.intro rfl ?_)) (by dsimp only;simp only [OwL.val,List.length_set];exact List.Sublist.refl _) (Jac _)
    have hk1:z.fans.l.length≤k:=by omega
    obtain ⟨d,hdk⟩:∃d,d=k - z.fans.l.length:=⟨_,rfl⟩
    have hg1:=Jai (l:=z.doors.l) (k:=d) 0 (by omega)
    have hg2:=Jai (l:=td.l) (k:=d) 0 (by omega)
    have hcan2:=hcan
    rw [Jmr (t:=Jak (⟨tf.arr,td.arr⟩:XSetting)) (s:=Jak z) hk1] at hcan2
    dsimp only [Jak] at hcan2
    rw [← hdk,show ((k:Int) - (z.fans.l.length:Int))=(d:Int) by omega] at hcan2
    refine Xbb ?_
    refine Xab ?_
    refine qa9 ?_
    refine qad ?_
    refine qco ?_
    refine Ja5 tb [0,1,2,3,4,5,6,7,8,9,10,11,12,13,14,15] ([Blk.mk b11 _ _,Blk.mk b7 _ _,Blk.mk b4 _ _]) Jbh (by kernel_rfl) (by repeat (first | exact zs0 _ | exact zs1 _ | apply zs2 | apply zs3 | apply zs4 | apply zs5)) ?_
    refine Xad ?_
    refine Xa0 ?_
    refine Xa0 ?_
    refine Jbx (by first | exact Jaf tb rfl rfl rfl rfl (by first | assumption | exact zr (by simp)) (i:=d) (by first | rfl | omega | (simp;omega)) (by omega) | exact Jah tb rfl rfl rfl rfl (i:=d) (by first | rfl | omega | (simp;omega)) (by omega)) rfl rfl rfl ?_
    refine qbl ?_
    refine Jdx rfl (Tri.cast (Jwi a.doors z.doors (d:Int) (td.l.getD d 0) _ _ hA5.doors hz2) (by rw [show ((d:Nat):Int)=(k:Int) - s.fans.l.length by omega];rfl)) rfl rfl ?_
    rintro v L' R' ⟨zc,rfl,hzk,hzl,rfl,rfl⟩
    refine qas ?_
    refine Jbx (Jap rfl) rfl rfl rfl ?_
    refine Jbx (Jd8 rfl rfl) rfl rfl rfl ?_
    refine Jbx (Jd8 rfl rfl) rfl rfl rfl ?_
    refine Jbx (Jcy (show _=Value.slice _ _ _ from rfl)) rfl rfl rfl ?_
    refine qcg ?_
    refine Jb8 (Jaa (Jan (Jaj ?_)))
    refine Xah ?_
    refine Jax (by first | exact Jaf tb rfl rfl rfl rfl (by first | assumption | exact zr (by simp)) (i:=d) (by first | rfl | omega | (simp;omega)) (by omega) | exact Jah tb rfl rfl rfl rfl (i:=d) (by first | rfl | omega | (simp;omega)) (by omega)) rfl ?_
    refine qa7 ?_
    refine Xb5 ?_
    apply Jb3 (G:=[_,_]) (j:=6) (cj:=119) rfl rfl (by rfl) rfl (show _=Value.bool _ from rfl) rfl
    ·
     intro hg7
     replace hg7:=qb hg7
     refine qaa ?_
     refine qbq ?_
     exact qai
    intro junk7
    refine qaf ?_
    refine q_c (fun hc4=>?_) (fun hc4=>?_)
    ·
     (exfalso;rw [decide_eq_false hc4.1,decide_eq_false hc4.2] at hcan2;exact absurd hcan2 (by decide))
    refine Ja4 (Jaa ?_)
    refine J6f ?_
    refine Xba ?_
    refine Xba ?_
    refine Jb1 (by first | exact Jaf tb rfl rfl rfl rfl (by first | assumption | exact zr (by simp)) (i:=d) (by first | rfl | omega | (simp;omega)) (by omega) | exact Jah tb rfl rfl rfl rfl (i:=d) (by first | rfl | omega | (simp;omega)) (by omega)) rfl rfl rfl rfl ?_
    refine qci ?_
    refine Jb1 (Jao tb ((⟨o78,z.doors.l⟩:OwL Int)) _ rfl rfl rfl rfl (by assumption) (i:=d) (by first | rfl | omega | (simp;omega)) (by first | omega | (dsimp only;omega) | (dsimp only;rw [List.length_set];omega) | (dsimp only;simp only [List.length_set];omega))) rfl rfl rfl rfl ?_
    refine qba ?_
    refine Jqb (Jav tb ((⟨o78,z.doors.l⟩:OwL Int)) (td.l.getD d 0) rfl rfl rfl rfl (by repeat (first | apply OSeg.cons | exact OSeg.here | exact OSeg.last | exact OSeg.at (by assumption) | apply OSeg.app)) (by assumption) (fun _=>rfl) (by assumption) (by decide) (by rfl) (by rfl)) rfl rfl ?_
    rintro v L' R' ⟨rfl,rfl⟩
    refine qa1 ?_
    refine Jb8 ?_
    exact Jiu ⟨((⟨o75,z.fans.l⟩:OwL Int),⟨o78,z.doors.l.set d (td.l.getD d 0)⟩),⟨hok75,OwL.len_ok Jci hok78 (by simp)⟩,by rw [Jqj (t:=Jak (⟨tf.arr,td.arr⟩:XSetting)) (s:=Jak z) hk1,hdk]⟩ (by repeat (first | exact Off.refl | apply Off.upd rfl | apply Off.havoc rfl | apply Off.updL rfl | apply Off.left rfl)) (by repeat' (first | exact trivial | refine And.intro rfl ?_)) (by dsimp only;simp only [OwL.val,List.length_set];exact List.sublist_append_right _ _) (Jac _)
   rintro ⟨⟨pf,pd⟩,⟨hpfk,hpdk⟩,hput⟩ junk
   try dsimp only
   dsimp only at hpfk hpdk hput ⊢
   refine Jan ?_
   refine Jbn (A:=[_]) (wd:=1) [] (fun _=>rfl) (by decide) hpdk (fun s hs=>by cases hs) ?_
   refine qb1 ?_
   refine Jbn (A:=[_]) (wd:=1) [] (fun _=>rfl) (by decide) hpfk (fun s hs=>by cases hs) ?_
   refine qb1 ?_
   obtain ⟨R6,hR6e⟩:∃R6,R6=isl pf.arr :: isl pd.arr :: R5:=⟨_,rfl⟩
   have hR6:∀r∈R5,InR r R6:=fun r hr=>Jab (by simp [hR6e,hr])
   have hz6:SetR ⟨pf.arr,pd.arr⟩ R6:=⟨Jab (by simp [hR6e]),Jab (by simp [hR6e])⟩
   have hzz6:=Jbu hz hR6
   have hA6:=Jcd hA5 hR6
   have hf6:=hf5.mono hR6
   have hst:Jak ⟨pf.arr,pd.arr⟩=Jgs (Jak (⟨tf.arr,td.arr⟩:XSetting)) (Jak z) (k:Int):=hput
   have hfit6:Jdl a ⟨pf.arr,pd.arr⟩=true:=by
     rw [Jmy a (s':=mkS (Jgs (Jak (⟨tf.arr,td.arr⟩:XSetting)) (Jak z) (k:Int))) (by rw [hst];rfl)]
     exact Jyl ((Jmy a (s:=z) (s':=mkS (Jak z)) rfl) ▸ hzf) ((Jmy a (s:=(⟨tf.arr,td.arr⟩:XSetting)) (s':=mkS (Jak (⟨tf.arr,td.arr⟩:XSetting))) rfl) ▸ hfit) _
   have hp6:z.fans.l=pf.l→z.doors.l=pd.l→False:=fun e1 e2=>hne (by rw [← hput,← e1,← e2])
   refine Jz1 (show _=R6 by rw [hR6e]) ?_
   refine qay ?_
   refine Xaz ?_
   refine Xaz ?_
   refine qbm ?_
   refine Jaq rfl (Jhe a a z ⟨pf.arr,pd.arr⟩ f.arr A A _ _ _ _ hA6 hzz6 hA6 hz6 hf6 hfo2 hfl (fun _=>hAA) (fun _=>hAA) (hK _) (hK _)) rfl ?_
   rintro v L' R' ⟨v,rfl,hvk,hvg,rfl,rfl⟩
   have hce:Js2 a z a ⟨pf.arr,pd.arr⟩=0:=Jh7.2 ⟨Jem.2 ⟨hMA.err,hzf⟩,Jem.2 ⟨hMA.err,hfit6⟩,Nat.le_refl _,Nat.le_refl _⟩
   have hvq:v.get.quiet=true:=by
     rw [hvg,Jz0,if_pos hce,← Jza,← Jza,hst]
     exact hquiet
   rw [hce]
   refine Jax (Jap rfl) rfl ?_
   refine Xa6 ?_
   refine qaq ?_
   intro b18
   refine qak ?_
   refine Xcm ?_
   refine Xb5 ?_
   apply Jbi (G:=[_,_,_]) (j:=2) (cj:=143) rfl rfl (by rfl) rfl (show _=Value.bool _ from rfl) rfl
   ·
    intro hg3
    replace hg3:=qb hg3
    refine qa8 ?_
    refine q_l rfl (Jf9 v _ _) ?_
    refine qb4 ?_
    exact qai
   intro junk3
   refine qah ?_
   apply Jbi (G:=[_,_,_,_,_,_,_,_,_,_,_,_]) (j:=7) (cj:=148) rfl rfl (by rfl) rfl (show _=Value.bool _ from rfl) rfl
   ·
    intro hg8
    replace hg8:=qb hg8
    refine Xa1 ?_
    refine q_l rfl (Jsd pf.arr z.fans _ _ hz6.fans hzz6.fans) ?_
    refine qah ?_
    apply Jb3 (G:=[_,_,_,_,_]) (j:=13) (cj:=154) rfl rfl (by rfl) rfl (show _=Value.bool _ from rfl) rfl
    ·
     intro hg14
     replace hg14:=qb hg14
     refine Xa1 ?_
     refine q_l rfl (Jsd pd.arr z.doors _ _ hz6.doors hzz6.doors) ?_
     exact qai
    intro junk14
    exact qai
   intro junk8
   refine qaf ?_
   refine q_c (fun hc5=>?_) (fun hc5=>?_)
   ·
    (exfalso;rcases hc5 with (h | h) | ⟨h1,h2⟩;(exact h trivial);(rw [hvq] at h;cases h);(exact hp6 h1.symm h2.symm))
   refine Ja4 (Jaa (Jaj ?_))
   refine qbe ?_
   refine qak ?_
   refine Xa5 ?_
   exact q_k ⟨(i + 1,⟨pf.arr,pd.arr⟩,R6),by dsimp only;omega,hz6,fun r hr=>(h45 r hr).mono hR6,by dsimp only;rw [hst];exact hgo',by dsimp only;rw [hst];exact hlf',hfit6⟩
  obtain rfl:i=p.l.length:=by omega
  rw [List.drop_length] at hzlf
  have hend:=J19.1 hzlf.done
  refine qbk ?_
  refine Xa1 ?_
  refine q_l rfl (Jp5 z.fans tf.arr _ _ hz1 hU5.fans hend.1) ?_
  refine qah ?_
  apply Jb3 (G:=[_,_,_,_,_]) (j:=5) (cj:=169) rfl rfl (by rfl) rfl (show _=Value.bool _ from rfl) rfl
  ·
   intro hg6
   replace hg6:=qb hg6
   refine Xa1 ?_
   refine q_l rfl (Jp5 z.doors td.arr _ _ hz2 hU5.doors hend.2) ?_
   exact qai
  intro junk6
  refine qah ?_
  apply Jb3 (G:=[_]) (j:=12) (cj:=176) rfl rfl (by rfl) rfl (show _=Value.bool _ from rfl) rfl
  ·
   intro hg13
   replace hg13:=qb hg13
   refine q_l rfl (Jfv _ _) ?_
   exact qai
  intro junk13
  refine Xa9 ?_
  refine Jbj (L':=[]) (R':=R) (Jd4 rfl (Jal (show _=Value.bool _ from rfl))) ?hp ?hL ?hR
  case hp=>exact ⟨rfl,rfl,rfl⟩
  case hL=>exact List.nil_sublist _
  case hR=>exact fun r hr=>((hRR3 r hr).mono hR4).mono h45
end Go.Proofs.Ytihompplndcdeaa
