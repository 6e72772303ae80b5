/-
  Statements about chapter 15: what a change does to the air. By an AI agent; no person has read it.
-/
import Derived.Test.YtihompplndcdeaaGreatCopyR
import Derived.Test.YtihompplndcdeaaGreatDraw13
import Derived.Test.YtihompplndcdeaaGreatChangeS
namespace Go.Proofs.YtihompplndcdeaaGreat
open Go.Aw Go
set_option maxRecDepth 20000
attribute [local irreducible] CJ LJ DJ Tri YV Gives Jd5 Jbd Jbz Jd4 RV Jbf OwL.L
theorem Jlk (y:Arr Int) (raw:XSetting) (R:List Sl) (hy:CodesR y R) (hraw:SetR raw R):
    Tri Tryz.prog 3 [y.val,raw.val].toArray [] R (fun v L' R'=>v=.bool true∧[]=L'∧R=R'):=by
  refine Jae 115 Tryz.call3 Tryz.func3 rfl rfl rfl ?_
  refine Xai ?_
  intro b3
  refine Xbr ?_
  refine qbm ?_
  refine Jaq rfl (Jy1 y _ _ hy) rfl ?_
  rintro v L' R' ⟨c,rfl,hx,rfl,rfl⟩
  refine qc1 ?_
  refine qam ?_
  refine qa6 ?_
  refine Jaq rfl (J7l (.consL (.consB .nil)) hx (Nat.zero_le _)) rfl ?_
  rintro v L' R' ⟨m,k1,S,rfl,hm,hMA,hif,hid,hk1,rfl,rfl⟩
  simp only [List.append_assoc,List.cons_append,List.nil_append]
  refine Ja2 (Jar rfl) rfl ?_
  iterate 3 refine qbs ?_
  refine qaq ?_
  intro b6
  refine qaq ?_
  intro b7
  refine qaq ?_
  intro b8
  iterate 3 refine qak ?_
  refine qa4 ?_
  refine J0n (A:=[_]) hm hMA (fun f hf=>(hif f hf).mono fun r hr=>Jab (by simp [hr])) (fun f hf=>(hid f hf).mono fun r hr=>Jab (by simp [hr])) fun a s x R1 hMA hA hT hX hR1=>?_
  refine qb1 ?_
  obtain ⟨_,hae,hF,hri,hfo⟩:=hMA.b
  have hx1:CodesR (Jdr y) R1:=hx.mono fun r hr=>hR1 r (by simp [hr])
  have hR0:∀r∈R,InR r R1:=fun r hr=>hR1 r (by simp [hr])
  have hnp:=hMA.nplaces
  have hnr:=hMA.nroads
  have hnf:=hMA.nfans
  have hnd:=hMA.ndoors
  refine qay ?_
  refine qa8 ?_
  refine qaq ?_
  intro b9
  refine qak ?_
  refine qco ?_
  refine Jbb tb [0,1,2,3,4,5,6,7,8,9,10,11,12] ([Blk.mk b6 _ _]) Jbn (by kernel_rfl) (by repeat (first | exact zs0 _ | exact zs1 _ | apply zs2 | apply zs3 | apply zs4 | apply zs5)) ?_
  refine qal ?_
  refine qbd ?_
  refine qb8 ?_
  refine qal ?_
  refine qbd ?_
  refine Jcw rfl (Tri.spl (.consB (.consB (.consB (.consB (.consB (.consL .nil)))))) (Jtp c (Jdr y) k1 a.mine _ hx1 hk1 (by omega))) rfl rfl ?_
  rintro v L' R' ⟨_,rfl,ed,k2,rfl,hed,hk2,rfl,rfl⟩
  refine qas ?_
  refine Jcw rfl (Jsw a.mine ed _ _ ⟨hA.places,hA.roads⟩) rfl rfl ?_
  rintro v L' R' ⟨m',er,S',rfl,hap,rfl,rfl⟩
  refine qas ?_
  refine Jbu (Jar rfl) rfl rfl rfl ?_
  refine Jbu (Jcy rfl rfl) rfl rfl rfl ?_
  refine Jbu (Jcy rfl rfl) rfl rfl rfl ?_
  refine qbr ?_
  intro b10
  refine qbg ?_
  refine qcg ?_
  refine Jbt (Jaa (Jam (Jaf ?_)))
  refine Xdy ?_
  refine Jd8 [43,44] ((⟨fun _=>[],fun g=>⟨b10,m'.cells,31⟩ :: ⟨b9,XAir.cells ⟨g.1.1,a.fans,a.doors⟩,35⟩ :: ⟨b8,x.cells,37⟩ :: ⟨b7,s.cells,25⟩ :: ⟨b6,a.cells,35⟩ :: ⟨b3,raw.cells,25⟩ :: cblk c (Jdr y) k2 :: [],fun g=>g.1.2,fun _=>0⟩:Head {g:XMine×List Sl // AirR ⟨g.1,a.fans,a.doors⟩ g.2∧∀r∈R1,InR r g.2})) ?_ ?_
  ·
   skip
   refine q_c (fun hc0=>?_) (fun hc0=>?_)
   ·
    refine qay ?_
    refine qbe ?_
    refine qab ?_
    refine Jos tb rfl rfl rfl rfl (by repeat (first | apply zu0 | apply zu1 | apply zu2)) (by rfl) (by rfl) (by rfl) ?_
    refine qav ?_
    have hap':=(hap hc0).1
    exact q_j ⟨(m',S' ++ R1),⟨hap'.1,hap'.2,hA.fans.mono fun r hr=>Jab (by simp [hr]),hA.doors.mono fun r hr=>Jab (by simp [hr])⟩,fun r hr=>Jab (by simp [hr])⟩
   refine Ja3 ?_
   exact q_j ⟨(a.mine,S' ++ R1),Jbm hA fun r hr=>Jab (by simp [hr]),fun r hr=>Jab (by simp [hr])⟩
  rintro ⟨⟨mb,R2⟩,hB,hR12⟩ junk
  try dsimp only
  dsimp only at hB hR12 ⊢
  have hA2:=Jbm hA hR12
  have hT2:=Jbc hT hR12
  have hraw2:=Jbc (Jbc hraw hR0) hR12
  have hx2:=hx1.mono hR12
  obtain ⟨A,hAA⟩:=Jrd a.mine
  obtain ⟨B,hBB⟩:=Jrd mb
  obtain ⟨K,hK⟩:=Jgj a.mine
  obtain ⟨J,hJ⟩:=Jgj mb
  refine Jam ?_
  refine Jbb tb [0,1,3,4,2,5,6,7,8] ([Blk.mk b6 _ _]) Jbn (by kernel_rfl) (by repeat (first | exact zs0 _ | exact zs1 _ | apply zs2 | apply zs3 | apply zs4 | apply zs5)) ?_
  refine qb8 ?_
  refine qbc ?_
  refine qb8 ?_
  refine qbc ?_
  refine Jcw rfl (Tri.spl (.consB (.consB (.consB (.consB (.consB (.consB (.consL .nil))))))) (Jk8 c (Jdr y) k2 a _ hx2 hk2 (by omega))) rfl rfl ?_
  rintro v L' R' ⟨_,rfl,f,k3,rfl,hfk,hfd,hk3,rfl,rfl⟩
  simp only [List.append_assoc,List.cons_append,List.nil_append]
  refine qas ?_
  refine Jcw rfl (Jxk (a:=a) (.consB (.consB (.consB (.consB (.consB (.consB (.appB (.consL .nil)))))))) hx2 hk3 hA2.doors (by omega) (by omega) hae.rests) rfl rfl ?_
  rintro v L' R' ⟨tf,td,k4,rfl,⟨ht1,ht2⟩,hAS,hk4,rfl,rfl⟩
  simp only [List.append_assoc,List.cons_append,List.nil_append]
  refine qas ?_
  refine qbr ?_
  intro b13
  refine Jbu (Jcg (show _=Value.slice _ _ _ from rfl)) rfl rfl rfl ?_
  refine qbg ?_
  refine qb9 ?_
  refine Jby (A:=[_,_,_,_,_,_,_]) (wd:=2) [] (fun _=>rfl) (by decide) hfk (fun s hs=>by cases hs) ?_
  refine qb1 ?_
  refine Jby (A:=[_,_,_,_,_,_,_,_]) (wd:=1) [] (fun _=>rfl) (by decide) ht1 (fun s hs=>by cases hs) ?_
  refine qb1 ?_
  refine Jby (A:=[_,_,_,_,_,_,_,_]) (wd:=1) [] (fun _=>rfl) (by decide) ht2 (fun s hs=>by cases hs) ?_
  refine qb1 ?_
  obtain ⟨R3,hR3e⟩:∃R3,R3=isl td.arr :: isl tf.arr :: Jqk f.arr :: R2:=⟨_,rfl⟩
  have hR3:∀r∈R2,InR r R3:=fun r hr=>Jab (by simp [hR3e,hr])
  have hU:SetR ⟨tf.arr,td.arr⟩ R3:=⟨Jab (by simp [hR3e]),Jab (by simp [hR3e])⟩
  have hfR:InR (Jqk f.arr) R3:=Jab (by simp [hR3e])
  have hfo:Jfp f.arr.l:=fun y hy=>by have:=(hfd.at_ y hy).2;omega
  have hfl:f.arr.l.length≤1000:=by have:=hfd.len;show f.l.length≤1000;omega
  have hA3:=Jbm hA2 hR3
  have hB3:=Jbm hB hR3
  have hT3:=Jbc hT2 hR3
  have hraw3:=Jbc hraw2 hR3
  have hRR3:∀r∈R,InR r R3:=fun r hr=>((hR0 r hr).mono hR12).mono hR3
  refine J2x (show _=R3 by rw [hR3e]) ?_
  refine Xd8 ?_
  refine Xcl ?_
  refine Jaq rfl (Jkl a ⟨mb,a.fans,a.doors⟩ s ⟨tf.arr,td.arr⟩ f.arr A B _ _ _ _ hA3 hT3 hB3 hU hfR hfo hfl (fun _=>hAA) (fun _=>hBB) (hK _) (hJ _)) rfl ?_
  rintro v L' R' ⟨v1,rfl,hk1',hv1,rfl,rfl⟩
  refine Ja2 (Jar rfl) rfl ?_
  refine Xea ?_
  intro b14
  refine qak ?_
  refine Xal ?_
  refine Xap ?_
  refine Xcl ?_
  refine Jaq rfl (Jgz a ⟨mb,a.fans,a.doors⟩ s ⟨tf.arr,td.arr⟩ f.arr A B _ _ _ _ hA3 hT3 hB3 hU hfR hfo hfl (fun _=>hAA) (fun _=>hBB) (hK _) (hJ _)) rfl ?_
  rintro v L' R' ⟨v2,rfl,hk2',hv2,rfl,rfl⟩
  refine Ja2 (Jar rfl) rfl ?_
  refine Xea ?_
  intro b16
  refine qak ?_
  refine Xal ?_
  refine Xap ?_
  refine Xcl ?_
  refine Jaq rfl (Jkl ⟨mb,a.fans,a.doors⟩ a ⟨tf.arr,td.arr⟩ raw f.arr B A _ _ _ _ hB3 hU hA3 hraw3 hfR hfo hfl (fun _=>hBB) (fun _=>hAA) (hJ _) (hK _)) rfl ?_
  rintro v L' R' ⟨v3,rfl,hk3',hv3,rfl,rfl⟩
  refine Ja2 (Jar rfl) rfl ?_
  refine Xea ?_
  intro b18
  refine qak ?_
  refine Xal ?_
  refine Xap ?_
  refine Xcl ?_
  refine Jaq rfl (Jgz ⟨mb,a.fans,a.doors⟩ a ⟨tf.arr,td.arr⟩ raw f.arr B A _ _ _ _ hB3 hU hA3 hraw3 hfR hfo hfl (fun _=>hBB) (fun _=>hAA) (hJ _) (hK _)) rfl ?_
  rintro v L' R' ⟨v4,rfl,hk4',hv4,rfl,rfl⟩
  refine Ja2 (Jar rfl) rfl ?_
  refine Xea ?_
  intro b20
  refine Xb1 ?_
  refine qa4 ?_
  refine Jbb tb [0,1,2,3,4,5,6,7,8,9,10,11,12,13,14,15,16,17,18,19,21,20,22,23,24,25,26,27,28] ([Blk.mk b20 _ _,Blk.mk b18 _ _,Blk.mk b16 _ _,Blk.mk b14 _ _]) Jbn (by kernel_rfl) (by repeat (first | exact zs0 _ | exact zs1 _ | apply zs2 | apply zs3 | apply zs4 | apply zs5)) ?_
  refine Xeb ?_
  refine Jbu (Jjw rfl rfl) rfl rfl rfl ?_
  refine qb2 ?_
  refine Jcz (k:=90) (show _=Value.bool _ from rfl) (fun hg3=>?_) (fun hg3=>?_)
  ·
   replace hg3:=qb hg3
   refine Xeb ?_
   refine Jbu (Jjw rfl rfl) rfl rfl rfl ?_
   refine Xcs ?_
   refine Jcz (k:=95) (show _=Value.bool _ from rfl) (fun hg8=>?_) (fun hg8=>?_)
   ·
    replace hg8:=qb hg8
    refine qbc ?_
    refine qbc ?_
    refine q_d rfl (Jxa v1 v2 hk1' hk2' (hv1.trans hv2.symm) ⟨(by repeat (first | exact Jaw | apply Jau | apply Jba)),(by repeat (first | exact Jaw | apply Jau | apply Jba)),(by repeat (first | exact Jaw | apply Jau | apply Jba)),(by repeat (first | exact Jaw | apply Jau | apply Jba))⟩ ⟨(by repeat (first | exact Jaw | apply Jau | apply Jba)),(by repeat (first | exact Jaw | apply Jau | apply Jba)),(by repeat (first | exact Jaw | apply Jau | apply Jba)),(by repeat (first | exact Jaw | apply Jau | apply Jba))⟩) ?_
    refine Xcs ?_
    refine Jcz (k:=100) (show _=Value.bool _ from rfl) (fun hg13=>?_) (fun hg13=>?_)
    ·
     replace hg13:=qb hg13
     refine qbc ?_
     refine qbc ?_
     refine q_d rfl (Jxa v3 v4 hk3' hk4' (hv3.trans hv4.symm) ⟨(by repeat (first | exact Jaw | apply Jau | apply Jba)),(by repeat (first | exact Jaw | apply Jau | apply Jba)),(by repeat (first | exact Jaw | apply Jau | apply Jba)),(by repeat (first | exact Jaw | apply Jau | apply Jba))⟩ ⟨(by repeat (first | exact Jaw | apply Jau | apply Jba)),(by repeat (first | exact Jaw | apply Jau | apply Jba)),(by repeat (first | exact Jaw | apply Jau | apply Jba)),(by repeat (first | exact Jaw | apply Jau | apply Jba))⟩) ?_
     refine Xcs ?_
     refine Jcz (k:=105) (show _=Value.bool _ from rfl) (fun hg18=>?_) (fun hg18=>?_)
     ·
      replace hg18:=qb hg18
      refine qbc ?_
      refine qbc ?_
      refine q_d rfl (Jiy v1 _ _) ?_
      refine q_d rfl (Jiv v1 _ _) ?_
      refine Jbu (Jkj tb rfl rfl rfl) rfl rfl rfl ?_
      refine Xcs ?_
      refine Jcz (k:=112) (show _=Value.bool _ from rfl) (fun hg25=>?_) (fun hg25=>?_)
      ·
       replace hg25:=qb hg25
       refine q_d rfl (Jku _ _) ?_
       refine qbp ?_
       refine Jbu (Jcg (show _=Value.bool _ from rfl)) rfl rfl rfl ?_
       refine Jbt (Jaa (Jc5 ?_))
       refine Jbe (L':=[]) (R':=R) (Jdi rfl (Jah (show _=Value.bool _ from rfl))) ?hp ?hL ?hR
       case hp=>exact ⟨rfl,rfl,rfl⟩
       case hL=>exact List.nil_sublist _
       case hR=>exact hRR3
      replace hg25:=qb hg25
      simp at hg25
     replace hg18:=qb hg18
     simp at hg18
    replace hg13:=qb hg13
    simp at hg13
   replace hg8:=qb hg8
   simp at hg8
  replace hg3:=qb hg3
  simp at hg3
end Go.Proofs.YtihompplndcdeaaGreat
