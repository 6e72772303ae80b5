import Derived.Test.YtihompplndcdeaaOrdW
import Derived.Test.YtihompplndcdeaaNets
import Derived.Test.YtihompplndcdeaaFits
import Derived.Test.YtihompplndcdeaaSpans
import Derived.Test.YtihompplndcdeaaSolveR
import Derived.Test.YtihompplndcdeaaCircS
import Derived.Test.YtihompplndcdeaaJudge
import Derived.Test.YtihompplndcdeaaCflowS
import Derived.Test.YtihompplndcdeaaSeqS
set_option linter.unusedVariables false
set_option linter.unusedSimpArgs false
section
/-
  change.Sequence whole. By an AI agent; no person has read it.
-/
namespace Go.Proofs.Ytihompplndcdeaa
open Go.Aw Go
section
variable {A9 B9:Prop}
theorem Jw3 (a:A9) (h:A9→B9:=by exact Jbx (Jbo (qs:=[(0,(Value.agg _).cells.toList),(1,(Value.agg _).cells.toList),(2,(Value.slice _ _ _).cells.toList),(3,(Value.slice _ _ _).cells.toList),(4,(Value.map _).cells.toList),(5,(Value.map _).cells.toList)]) (out:=[_,_,_,_,_,_,_,_,_,_]) tb rfl rfl rfl rfl) rfl rfl rfl):B9:=h a
theorem Jwk (a:A9) (h:A9→B9:=by exact J2g rfl (by repeat (first | exact zs0 _ | exact zs1 _ | apply zs2 | apply zs3 | apply zs4 | apply zs5)) rfl):B9:=h a
theorem Jwu (a:A9) (h:A9→B9:=by exact Jbx (Jcy (show _=Value.pointer _ from rfl)) rfl rfl rfl):B9:=h a
theorem Jy2 (a:A9) (h:A9→B9:=by exact Jdi rfl (Joa rfl (Jo3 s t _ _ hs ht (by omega) (by omega) (by omega) (by omega))) rfl rfl):B9:=h a
end
theorem seq_perm1 {F D:Blk} {P X:List Blk}:(P ++ (F :: D :: X)).Perm (F :: D :: (P ++ X)):=List.perm_middle.trans (List.perm_middle.cons _)
theorem Jgq {F D:Blk} {P X:List Blk}:(P ++ (D :: F :: X)).Perm (F :: D :: (P ++ X)):=seq_perm1.trans (.swap _ _ _)
theorem seq_perm3 {F D:Blk} {P X:List Blk}:(F :: (P ++ (D :: X))).Perm (F :: D :: (P ++ X)):=List.perm_middle.cons _
theorem Jgr {F D:Blk} {P X:List Blk}:(D :: (P ++ (F :: X))).Perm (F :: D :: (P ++ X)):=seq_perm3.trans (.swap _ _ _)
theorem Jvd {a:XAir} {s t:XSetting} {fc:List XFace} {A:List Bool} {K:List XSpan→List Int} (h:Jat a≠0):Jo5 a s t fc A K=(Jat a,[]):=by rw [Jo5,if_pos h]
theorem Jvx {a:XAir} {s t:XSetting} {fc:List XFace} {A:List Bool} {K:List XSpan→List Int} (h:Jat a=0) (h2:Jdl a s=false∨Jdl a t=false):Jo5 a s t fc A K=(21,[]):=by rw [Jo5,if_neg (by omega),if_pos h2]
theorem Joh {a:XAir} {s t:XSetting} {fc:List XFace} {A:List Bool} {K:List XSpan→List Int} (h:Jat a=0) (h2:Jdl a s=true∧Jdl a t=true) (h3:3 < (Jmm (Jak s) (Jak t)).length):Jo5 a s t fc A K=(2,[]):=by
  rw [Jo5,if_neg (by omega),if_neg (by rw [h2.1,h2.2];decide),if_pos h3]
theorem Jrb {a:XAir} {s t:XSetting} {fc:List XFace} {A:List Bool} {K:List XSpan→List Int} (h:Jat a=0) (h2:Jdl a s=true∧Jdl a t=true) (h3:¬ 3 < (Jmm (Jak s) (Jak t)).length):
    Jo5 a s t fc A K=match Jgk (nxS a A K fc (Jak t)) (Jak s) (Jmm (Jak s) (Jak t)) with | some r=>(0,r) | none=>(13,[]):=by
  rw [Jo5,if_neg (by omega),if_neg (by rw [h2.1,h2.2];decide),if_neg h3]
  rfl
theorem Jk1 {a:XAir} {s t:XSetting} (h0:Jat a=0) (h:Jdl a s=true) (h':Jdl a t=true):(s.fans.l.length=t.fans.l.length∧s.doors.l.length=t.doors.l.length)∧s.fans.l.length≤8∧s.doors.l.length≤16:=
  Ju0 (by rw [Jea,h0,h];rfl) (by rw [Jea,h0,h'];rfl)
set_option maxRecDepth 20000
attribute [local irreducible] CJ LJ DJ Tri YV Gives Jdn Jaw Jbk Jdo RV Jay OwL.L
theorem Jh6 (a:XAir) (s t:XSetting) (fc:Arr XFace) (A:List Bool) (K:List XSpan→List Int) (L:List Blk) (R:List Sl) (ha:AirR a R) (hs:SetR s R) (ht:SetR t R) (hfc:InR (Jty fc) R) (hneed:Jhn fc.l) (hnc:fc.l.length≤1000) (hA:Jat a=0→AiryIs a.mine A) (hK:∀fl,CircIs a.mine fl (K fl)):
    Tri Try.prog 17 [a.val,s.val,t.val,fc.val].toArray L R (fun w L' R'=>∃p:OwL Int,w=.tuple #[p.val,.int .i64 (Jo5 a s t fc.l A K).1]∧p.ok 1 Jad∧p.l=(Jo5 a s t fc.l A K).2∧p.L 3 Jad ++ L=L'∧R=R'):=by
  refine Jae 54 Try.call17 Try.func17 rfl rfl rfl ?_
  refine Xaj ?_
  intro b4
  refine qax ?_
  intro b5
  refine qax ?_
  intro b6
  refine qc4 ?_
  refine Xaw ?_
  refine qa8 ?_
  refine q_l rfl (Jdy a _ _ ha) ?_
  refine Xbv ?_
  refine q_c (fun hc0=>?_) (fun hc0=>?_)
  ·
   refine Xbb ?_
   refine qc4 ?_
   refine Xa4 ?_
   refine Jbj (L':=L) (R':=R) (Jfb rfl (Jal (show _=Value.slice _ _ _ from rfl)) (Jal (show _=Value.int _ _ from rfl))) ?hp ?hL ?hR
   case hp=>exact ⟨.nil,by rw [Jvd hc0];rfl,OwL.nil_ok,by rw [Jvd hc0],by rw [Jc7];rfl,rfl⟩
   case hL=>exact (by repeat (first | exact zs0 _ | exact zs1 _ | apply zs2 | apply zs3 | apply zs4 | apply zs5))
   case hR=>exact Jac _
  have h0:Jat a=0:=Decidable.not_not.1 hc0
  refine qbo ?_
  refine Xaz ?_
  refine q_l rfl (Je8 a s _ _ ha hs) ?_
  refine qb4 ?_
  refine qah ?_
  apply Jbi (G:=[_,_,_,_]) (j:=4) (cj:=23) rfl rfl (by rfl) rfl (show _=Value.bool _ from rfl) rfl
  ·
   intro hg5
   replace hg5:=qb hg5
   refine Xaz ?_
   refine q_l rfl (Je8 a t _ _ ha ht) ?_
   refine qb4 ?_
   exact qai
  intro junk5
  refine qaf ?_
  refine q_c (fun hc1=>?_) (fun hc1=>?_)
  ·
   refine Xcw ?_
   refine Jbj (L':=L) (R':=R) (Jfb rfl (Jal (show _=Value.slice _ _ _ from rfl)) (Jal (show _=Value.int _ _ from rfl))) ?hp ?hL ?hR
   case hp=>exact ⟨.nil,by rw [Jvx h0 hc1];rfl,OwL.nil_ok,by rw [Jvx h0 hc1],by rw [Jc7];rfl,rfl⟩
   case hL=>exact (by repeat (first | exact zs0 _ | exact zs1 _ | apply zs2 | apply zs3 | apply zs4 | apply zs5))
   case hR=>exact Jac _
  have hln:=Jk1 h0 hc1.1 hc1.2
  refine qcl ?_
  refine J1b [29,30,31,32,33,34,35,36,37,38,11] ((⟨fun g=>[(11,.pointer (some ⟨g.1.1,0,none⟩))],fun g=>⟨g.1.1,Jmf a t fc g.1.2.2.2.arr g.1.2.1 g.1.2.2.1,98⟩ :: mpB g.1.2.1 [] :: mpB g.1.2.2.1 [] :: (g.1.2.2.2.L 3 Jad ++ (⟨b6,t.cells,35⟩ :: ⟨b5,s.cells,35⟩ :: ⟨b4,a.cells,32⟩ :: L)),fun _=>R,fun _=>0⟩:Head {g:Nat×Nat×Nat×OwL Int // g.2.2.2.ok 1 Jad∧g.2.2.2.l=Jmm (Jak s) (Jak t)})) ?_ ?_
  ·
   skip
   refine Jqe tb [] [0,1,2,3,4,5,6,7] [8,9,10] ([Blk.mk b6 _ _,Blk.mk b5 _ _,Blk.mk b4 _ _]) [] 8 Jbh (by kernel_rfl) rfl rfl (by repeat (first | exact zs0 _ | exact zs1 _ | apply zs2 | apply zs3 | apply zs4 | apply zs5)) fun hT6=>?_
   refine Jjq 0 hT6 (List.nil_sublist _) (by kernel_rfl) rfl rfl rfl rfl rfl (Jba (row:=[_,_,_,_]) tb rfl rfl rfl (by repeat (first | exact zi0 | apply zi1 | apply zi2)) (by rfl) (by rfl)) ?_
   refine Jjq 1 hT6 (List.nil_sublist _) (by kernel_rfl) rfl rfl rfl rfl rfl (Jba (row:=[_,_]) tb rfl rfl rfl (by repeat (first | exact zi0 | apply zi1 | apply zi2)) (by rfl) (by rfl)) ?_
   refine Jjq 2 hT6 (List.nil_sublist _) (by kernel_rfl) rfl rfl rfl rfl rfl (Jap (show _=Value.slice _ _ _ from rfl)) ?_
   refine Jjq 3 hT6 (List.nil_sublist _) (by kernel_rfl) rfl rfl rfl rfl rfl (Jba (row:=[_,_]) tb rfl rfl rfl (by repeat (first | exact zi0 | apply zi1 | apply zi2)) (by rfl) (by rfl)) ?_
   refine Jjq 4 hT6 (List.nil_sublist _) (by kernel_rfl) rfl rfl rfl rfl rfl (Jba (row:=[_,_]) tb rfl rfl rfl (by repeat (first | exact zi0 | apply zi1 | apply zi2)) (by rfl) (by rfl)) ?_
   refine Jbb [5,6,7] hT6 (List.nil_sublist _) (by kernel_rfl) ?_
   refine Jc1 ?_ ?_
   ·
    skip
    refine Jy2 ?_
    rintro v L' R' ⟨p,rfl,hpk,hpl,rfl,rfl⟩
    refine qas ?_
    refine Jbb [6,7] hT6 (List.nil_sublist _) (by kernel_rfl) ?_
    refine Jc1 ?_ ?_
    ·
     skip
     refine Jdi rfl (Jcg) rfl rfl ?_
     rintro v L' R' ⟨b35,rfl,rfl,rfl⟩
     refine qa1 ?_
     refine Jbb [7] hT6 (List.nil_sublist _) (by kernel_rfl) ?_
     refine qca ?_
     refine Jdi rfl (Jcg) rfl rfl ?_
     rintro v L' R' ⟨b36,rfl,rfl,rfl⟩
     refine qa1 ?_
     refine Je7 hT6 (List.nil_sublist _) (by kernel_rfl) rfl ?_
     refine Jw3 ?_
     refine Jwk ?_
     intro b38
     refine Jwu ?_
     refine Jb8 ?_
     first
       | exact Ja2 ⟨(b38,b35,b36,p),hpk,hpl⟩ (by repeat (first | exact Off.refl | apply Off.upd rfl | apply Off.havoc rfl | apply Off.updL rfl | apply Off.left rfl)) (by repeat' (first | exact trivial | refine And.intro rfl ?_)) (List.Perm.refl _) (List.Sublist.refl _) (Jac _)
       | exact Ja2 ⟨(b38,b35,b36,p),hpk,hpl⟩ (by repeat (first | exact Off.refl | apply Off.upd rfl | apply Off.havoc rfl | apply Off.updL rfl | apply Off.left rfl)) (by repeat' (first | exact trivial | refine And.intro rfl ?_)) (.cons _ (.swap _ _ _)) (List.Sublist.refl _) (Jac _)
       | exact Ja2 ⟨(b38,b35,b36,p),hpk,hpl⟩ (by repeat (first | exact Off.refl | apply Off.upd rfl | apply Off.havoc rfl | apply Off.updL rfl | apply Off.left rfl)) (by repeat' (first | exact trivial | refine And.intro rfl ?_)) (.cons _ seq_perm1) (List.Sublist.refl _) (Jac _)
       | exact Ja2 ⟨(b38,b35,b36,p),hpk,hpl⟩ (by repeat (first | exact Off.refl | apply Off.upd rfl | apply Off.havoc rfl | apply Off.updL rfl | apply Off.left rfl)) (by repeat' (first | exact trivial | refine And.intro rfl ?_)) (.cons _ Jgq) (List.Sublist.refl _) (Jac _)
       | exact Ja2 ⟨(b38,b35,b36,p),hpk,hpl⟩ (by repeat (first | exact Off.refl | apply Off.upd rfl | apply Off.havoc rfl | apply Off.updL rfl | apply Off.left rfl)) (by repeat' (first | exact trivial | refine And.intro rfl ?_)) (.cons _ seq_perm3) (List.Sublist.refl _) (Jac _)
       | exact Ja2 ⟨(b38,b35,b36,p),hpk,hpl⟩ (by repeat (first | exact Off.refl | apply Off.upd rfl | apply Off.havoc rfl | apply Off.updL rfl | apply Off.left rfl)) (by repeat' (first | exact trivial | refine And.intro rfl ?_)) (.cons _ Jgr) (List.Sublist.refl _) (Jac _)
    refine qca ?_
    refine Jdi rfl (Jcg) rfl rfl ?_
    rintro v L' R' ⟨b36,rfl,rfl,rfl⟩
    refine qa1 ?_
    refine Jbb [6] hT6 (List.nil_sublist _) (by kernel_rfl) ?_
    refine qca ?_
    refine Jdi rfl (Jcg) rfl rfl ?_
    rintro v L' R' ⟨b35,rfl,rfl,rfl⟩
    refine qa1 ?_
    refine Je7 hT6 (List.nil_sublist _) (by kernel_rfl) rfl ?_
    refine Jw3 ?_
    refine Jwk ?_
    intro b38
    refine Jwu ?_
    refine Jb8 ?_
    first
      | exact Ja2 ⟨(b38,b35,b36,p),hpk,hpl⟩ (by repeat (first | exact Off.refl | apply Off.upd rfl | apply Off.havoc rfl | apply Off.updL rfl | apply Off.left rfl)) (by repeat' (first | exact trivial | refine And.intro rfl ?_)) (List.Perm.refl _) (List.Sublist.refl _) (Jac _)
      | exact Ja2 ⟨(b38,b35,b36,p),hpk,hpl⟩ (by repeat (first | exact Off.refl | apply Off.upd rfl | apply Off.havoc rfl | apply Off.updL rfl | apply Off.left rfl)) (by repeat' (first | exact trivial | refine And.intro rfl ?_)) (.cons _ (.swap _ _ _)) (List.Sublist.refl _) (Jac _)
      | exact Ja2 ⟨(b38,b35,b36,p),hpk,hpl⟩ (by repeat (first | exact Off.refl | apply Off.upd rfl | apply Off.havoc rfl | apply Off.updL rfl | apply Off.left rfl)) (by repeat' (first | exact trivial | refine And.intro rfl ?_)) (.cons _ seq_perm1) (List.Sublist.refl _) (Jac _)
      | exact Ja2 ⟨(b38,b35,b36,p),hpk,hpl⟩ (by repeat (first | exact Off.refl | apply Off.upd rfl | apply Off.havoc rfl | apply Off.updL rfl | apply Off.left rfl)) (by repeat' (first | exact trivial | refine And.intro rfl ?_)) (.cons _ Jgq) (List.Sublist.refl _) (Jac _)
      | exact Ja2 ⟨(b38,b35,b36,p),hpk,hpl⟩ (by repeat (first | exact Off.refl | apply Off.upd rfl | apply Off.havoc rfl | apply Off.updL rfl | apply Off.left rfl)) (by repeat' (first | exact trivial | refine And.intro rfl ?_)) (.cons _ seq_perm3) (List.Sublist.refl _) (Jac _)
      | exact Ja2 ⟨(b38,b35,b36,p),hpk,hpl⟩ (by repeat (first | exact Off.refl | apply Off.upd rfl | apply Off.havoc rfl | apply Off.updL rfl | apply Off.left rfl)) (by repeat' (first | exact trivial | refine And.intro rfl ?_)) (.cons _ Jgr) (List.Sublist.refl _) (Jac _)
   refine Jc1 ?_ ?_
   ·
    skip
    refine Jdi rfl (Jcg) rfl rfl ?_
    rintro v L' R' ⟨b35,rfl,rfl,rfl⟩
    refine qa1 ?_
    refine Jbb [5,7] hT6 (List.nil_sublist _) (by kernel_rfl) ?_
    refine Jc1 ?_ ?_
    ·
     skip
     refine Jy2 ?_
     rintro v L' R' ⟨p,rfl,hpk,hpl,rfl,rfl⟩
     refine qas ?_
     refine Jbb [7] hT6 (List.nil_sublist _) (by kernel_rfl) ?_
     refine qca ?_
     refine Jdi rfl (Jcg) rfl rfl ?_
     rintro v L' R' ⟨b36,rfl,rfl,rfl⟩
     refine qa1 ?_
     refine Je7 hT6 (List.nil_sublist _) (by kernel_rfl) rfl ?_
     refine Jw3 ?_
     refine Jwk ?_
     intro b38
     refine Jwu ?_
     refine Jb8 ?_
     first
       | exact Ja2 ⟨(b38,b35,b36,p),hpk,hpl⟩ (by repeat (first | exact Off.refl | apply Off.upd rfl | apply Off.havoc rfl | apply Off.updL rfl | apply Off.left rfl)) (by repeat' (first | exact trivial | refine And.intro rfl ?_)) (List.Perm.refl _) (List.Sublist.refl _) (Jac _)
       | exact Ja2 ⟨(b38,b35,b36,p),hpk,hpl⟩ (by repeat (first | exact Off.refl | apply Off.upd rfl | apply Off.havoc rfl | apply Off.updL rfl | apply Off.left rfl)) (by repeat' (first | exact trivial | refine And.intro rfl ?_)) (.cons _ (.swap _ _ _)) (List.Sublist.refl _) (Jac _)
       | exact Ja2 ⟨(b38,b35,b36,p),hpk,hpl⟩ (by repeat (first | exact Off.refl | apply Off.upd rfl | apply Off.havoc rfl | apply Off.updL rfl | apply Off.left rfl)) (by repeat' (first | exact trivial | refine And.intro rfl ?_)) (.cons _ seq_perm1) (List.Sublist.refl _) (Jac _)
       | exact Ja2 ⟨(b38,b35,b36,p),hpk,hpl⟩ (by repeat (first | exact Off.refl | apply Off.upd rfl | apply Off.havoc rfl | apply Off.updL rfl | apply Off.left rfl)) (by repeat' (first | exact trivial | refine And.intro rfl ?_)) (.cons _ Jgq) (List.Sublist.refl _) (Jac _)
       | exact Ja2 ⟨(b38,b35,b36,p),hpk,hpl⟩ (by repeat (first | exact Off.refl | apply Off.upd rfl | apply Off.havoc rfl | apply Off.updL rfl | apply Off.left rfl)) (by repeat' (first | exact trivial | refine And.intro rfl ?_)) (.cons _ seq_perm3) (List.Sublist.refl _) (Jac _)
       | exact Ja2 ⟨(b38,b35,b36,p),hpk,hpl⟩ (by repeat (first | exact Off.refl | apply Off.upd rfl | apply Off.havoc rfl | apply Off.updL rfl | apply Off.left rfl)) (by repeat' (first | exact trivial | refine And.intro rfl ?_)) (.cons _ Jgr) (List.Sublist.refl _) (Jac _)
    refine qca ?_
    refine Jdi rfl (Jcg) rfl rfl ?_
    rintro v L' R' ⟨b36,rfl,rfl,rfl⟩
    refine qa1 ?_
    refine Jbb [5] hT6 (List.nil_sublist _) (by kernel_rfl) ?_
    refine qca ?_
    refine Jy2 ?_
    rintro v L' R' ⟨p,rfl,hpk,hpl,rfl,rfl⟩
    refine qas ?_
    refine Je7 hT6 (List.nil_sublist _) (by kernel_rfl) rfl ?_
    refine Jw3 ?_
    refine Jwk ?_
    intro b38
    refine Jwu ?_
    refine Jb8 ?_
    first
      | exact Ja2 ⟨(b38,b35,b36,p),hpk,hpl⟩ (by repeat (first | exact Off.refl | apply Off.upd rfl | apply Off.havoc rfl | apply Off.updL rfl | apply Off.left rfl)) (by repeat' (first | exact trivial | refine And.intro rfl ?_)) (List.Perm.refl _) (List.Sublist.refl _) (Jac _)
      | exact Ja2 ⟨(b38,b35,b36,p),hpk,hpl⟩ (by repeat (first | exact Off.refl | apply Off.upd rfl | apply Off.havoc rfl | apply Off.updL rfl | apply Off.left rfl)) (by repeat' (first | exact trivial | refine And.intro rfl ?_)) (.cons _ (.swap _ _ _)) (List.Sublist.refl _) (Jac _)
      | exact Ja2 ⟨(b38,b35,b36,p),hpk,hpl⟩ (by repeat (first | exact Off.refl | apply Off.upd rfl | apply Off.havoc rfl | apply Off.updL rfl | apply Off.left rfl)) (by repeat' (first | exact trivial | refine And.intro rfl ?_)) (.cons _ seq_perm1) (List.Sublist.refl _) (Jac _)
      | exact Ja2 ⟨(b38,b35,b36,p),hpk,hpl⟩ (by repeat (first | exact Off.refl | apply Off.upd rfl | apply Off.havoc rfl | apply Off.updL rfl | apply Off.left rfl)) (by repeat' (first | exact trivial | refine And.intro rfl ?_)) (.cons _ Jgq) (List.Sublist.refl _) (Jac _)
      | exact Ja2 ⟨(b38,b35,b36,p),hpk,hpl⟩ (by repeat (first | exact Off.refl | apply Off.upd rfl | apply Off.havoc rfl | apply Off.updL rfl | apply Off.left rfl)) (by repeat' (first | exact trivial | refine And.intro rfl ?_)) (.cons _ seq_perm3) (List.Sublist.refl _) (Jac _)
      | exact Ja2 ⟨(b38,b35,b36,p),hpk,hpl⟩ (by repeat (first | exact Off.refl | apply Off.upd rfl | apply Off.havoc rfl | apply Off.updL rfl | apply Off.left rfl)) (by repeat' (first | exact trivial | refine And.intro rfl ?_)) (.cons _ Jgr) (List.Sublist.refl _) (Jac _)
   refine qca ?_
   refine Jdi rfl (Jcg) rfl rfl ?_
   rintro v L' R' ⟨b36,rfl,rfl,rfl⟩
   refine qa1 ?_
   refine Jbb [5,6] hT6 (List.nil_sublist _) (by kernel_rfl) ?_
   refine Jc1 ?_ ?_
   ·
    skip
    refine Jy2 ?_
    rintro v L' R' ⟨p,rfl,hpk,hpl,rfl,rfl⟩
    refine qas ?_
    refine Jbb [6] hT6 (List.nil_sublist _) (by kernel_rfl) ?_
    refine qca ?_
    refine Jdi rfl (Jcg) rfl rfl ?_
    rintro v L' R' ⟨b35,rfl,rfl,rfl⟩
    refine qa1 ?_
    refine Je7 hT6 (List.nil_sublist _) (by kernel_rfl) rfl ?_
    refine Jw3 ?_
    refine Jwk ?_
    intro b38
    refine Jwu ?_
    refine Jb8 ?_
    first
      | exact Ja2 ⟨(b38,b35,b36,p),hpk,hpl⟩ (by repeat (first | exact Off.refl | apply Off.upd rfl | apply Off.havoc rfl | apply Off.updL rfl | apply Off.left rfl)) (by repeat' (first | exact trivial | refine And.intro rfl ?_)) (List.Perm.refl _) (List.Sublist.refl _) (Jac _)
      | exact Ja2 ⟨(b38,b35,b36,p),hpk,hpl⟩ (by repeat (first | exact Off.refl | apply Off.upd rfl | apply Off.havoc rfl | apply Off.updL rfl | apply Off.left rfl)) (by repeat' (first | exact trivial | refine And.intro rfl ?_)) (.cons _ (.swap _ _ _)) (List.Sublist.refl _) (Jac _)
      | exact Ja2 ⟨(b38,b35,b36,p),hpk,hpl⟩ (by repeat (first | exact Off.refl | apply Off.upd rfl | apply Off.havoc rfl | apply Off.updL rfl | apply Off.left rfl)) (by repeat' (first | exact trivial | refine And.intro rfl ?_)) (.cons _ seq_perm1) (List.Sublist.refl _) (Jac _)
      | exact Ja2 ⟨(b38,b35,b36,p),hpk,hpl⟩ (by repeat (first | exact Off.refl | apply Off.upd rfl | apply Off.havoc rfl | apply Off.updL rfl | apply Off.left rfl)) (by repeat' (first | exact trivial | refine And.intro rfl ?_)) (.cons _ Jgq) (List.Sublist.refl _) (Jac _)
      | exact Ja2 ⟨(b38,b35,b36,p),hpk,hpl⟩ (by repeat (first | exact Off.refl | apply Off.upd rfl | apply Off.havoc rfl | apply Off.updL rfl | apply Off.left rfl)) (by repeat' (first | exact trivial | refine And.intro rfl ?_)) (.cons _ seq_perm3) (List.Sublist.refl _) (Jac _)
      | exact Ja2 ⟨(b38,b35,b36,p),hpk,hpl⟩ (by repeat (first | exact Off.refl | apply Off.upd rfl | apply Off.havoc rfl | apply Off.updL rfl | apply Off.left rfl)) (by repeat' (first | exact trivial | refine And.intro rfl ?_)) (.cons _ Jgr) (List.Sublist.refl _) (Jac _)
   refine qca ?_
   refine Jdi rfl (Jcg) rfl rfl ?_
   rintro v L' R' ⟨b35,rfl,rfl,rfl⟩
   refine qa1 ?_
   refine Jbb [5] hT6 (List.nil_sublist _) (by kernel_rfl) ?_
   refine qca ?_
   refine Jy2 ?_
   rintro v L' R' ⟨p,rfl,hpk,hpl,rfl,rfl⟩
   refine qas ?_
   refine Je7 hT6 (List.nil_sublist _) (by kernel_rfl) rfl ?_
   refine Jw3 ?_
   refine Jwk ?_
   intro b38
   refine Jwu ?_
   refine Jb8 ?_
   first
     | exact Ja2 ⟨(b38,b35,b36,p),hpk,hpl⟩ (by repeat (first | exact Off.refl | apply Off.upd rfl | apply Off.havoc rfl | apply Off.updL rfl | apply Off.left rfl)) (by repeat' (first | exact trivial | refine And.intro rfl ?_)) (List.Perm.refl _) (List.Sublist.refl _) (Jac _)
     | exact Ja2 ⟨(b38,b35,b36,p),hpk,hpl⟩ (by repeat (first | exact Off.refl | apply Off.upd rfl | apply Off.havoc rfl | apply Off.updL rfl | apply Off.left rfl)) (by repeat' (first | exact trivial | refine And.intro rfl ?_)) (.cons _ (.swap _ _ _)) (List.Sublist.refl _) (Jac _)
     | exact Ja2 ⟨(b38,b35,b36,p),hpk,hpl⟩ (by repeat (first | exact Off.refl | apply Off.upd rfl | apply Off.havoc rfl | apply Off.updL rfl | apply Off.left rfl)) (by repeat' (first | exact trivial | refine And.intro rfl ?_)) (.cons _ seq_perm1) (List.Sublist.refl _) (Jac _)
     | exact Ja2 ⟨(b38,b35,b36,p),hpk,hpl⟩ (by repeat (first | exact Off.refl | apply Off.upd rfl | apply Off.havoc rfl | apply Off.updL rfl | apply Off.left rfl)) (by repeat' (first | exact trivial | refine And.intro rfl ?_)) (.cons _ Jgq) (List.Sublist.refl _) (Jac _)
     | exact Ja2 ⟨(b38,b35,b36,p),hpk,hpl⟩ (by repeat (first | exact Off.refl | apply Off.upd rfl | apply Off.havoc rfl | apply Off.updL rfl | apply Off.left rfl)) (by repeat' (first | exact trivial | refine And.intro rfl ?_)) (.cons _ seq_perm3) (List.Sublist.refl _) (Jac _)
     | exact Ja2 ⟨(b38,b35,b36,p),hpk,hpl⟩ (by repeat (first | exact Off.refl | apply Off.upd rfl | apply Off.havoc rfl | apply Off.updL rfl | apply Off.left rfl)) (by repeat' (first | exact trivial | refine And.intro rfl ?_)) (.cons _ Jgr) (List.Sublist.refl _) (Jac _)
  rintro ⟨⟨bx,bf,bd,p⟩,hpk,hpl⟩ junk
  try dsimp only
  dsimp only at hpk hpl
  refine Jan (Jan ?_)
  refine Jbn (A:=[_,_,_]) (wd:=1) [] (fun _=>rfl) (by decide) hpk (fun s hs=>by cases hs) ?_
  refine qb1 ?_
  obtain ⟨R1,hR1e⟩:∃R1,R1=isl p.arr :: R:=⟨_,rfl⟩
  have hR1:∀r∈R,InR r R1:=fun r hr=>Jab (by rw [hR1e];exact .tail _ hr)
  have hOR:OrdR a t fc p.arr R1:=⟨Jcd ha hR1,Jbu ht hR1,hfc.mono hR1,Jab (by rw [hR1e];exact .head _)⟩
  refine Jz1 (show _=R1 by rw [hR1e]) ?_
  refine qay ?_
  refine qa6 ?_
  refine Jax (Ja3 rfl) rfl ?_
  refine Xab ?_
  refine Xbx ?_
  refine q_c (fun hc2=>?_) (fun hc2=>?_)
  ·
   refine Xcw ?_
   refine Jbj (L':=L) (R':=R) (Jfb rfl (Jal (show _=Value.slice _ _ _ from rfl)) (Jal (show _=Value.int _ _ from rfl))) ?hp ?hL ?hR
   case hp=>
    have hlg:3 < (Jmm (Jak s) (Jak t)).length:=by rw [← hpl];omega
    exact ⟨.nil,by rw [Joh h0 hc1 hlg];rfl,OwL.nil_ok,by rw [Joh h0 hc1 hlg],by rw [Jc7];rfl,rfl⟩
   case hL=>exact (by repeat (first | exact zs0 _ | exact zs1 _ | apply zs2 | apply zs3 | apply zs4 | apply zs5))
   case hR=>exact hR1
  have hlg:¬ 3 < (Jmm (Jak s) (Jak t)).length:=by rw [← hpl];omega
  have hgo:=Jrb (fc:=fc.l) (A:=A) (K:=K) h0 hc1 hlg
  have hO:OrdF a t fc p.arr (Jak s) A K:=⟨h0,(Jmy a rfl).trans hc1.1,(Jmy a rfl).trans hc1.2,hA h0,hK,hneed,hnc,by show p.l.length≤3;omega,fun k hk=>J0h (by rw [← hpl];exact hk)⟩
  have hq:=Jxs a t fc p.arr (Jak s) A K bx bf bd hO _ 0 s [] [] R1 rfl hOR (Jbu hs hR1) (Nat.pow_pos (by decide)) (Jr7 _ _ _).symm FlOk.nil DdOk.nil
  rw [Jpi,show p.arr.l=Jmm (Jak s) (Jak t) from hpl] at hq
  refine qbv ?_
  refine qa6 ?_
  refine qbe ?_
  refine Jaq rfl (Tri.spl (.consL (.consL (.consL .rest))) hq) rfl ?_
  rintro v L' R' ⟨_,rfl,q,fm,dm,S,rfl,hqk,hql,_,_,rfl,rfl⟩
  refine Jax (Jap rfl) rfl ?_
  refine Xbw ?_
  refine qaz ?_
  refine qco ?_
  refine Jq4 List.perm_append_comm ?_
  refine Jmw (L':=q.L 3 Jad ++ L) (by rw [List.append_assoc];exact (by repeat (first | exact zs0 _ | exact zs1 _ | apply zs2 | apply zs3 | apply zs4 | apply zs5))) (fun r hr=>Jab (List.mem_append_right _ hr)) ?_
  refine qay ?_
  refine qah ?_
  refine Xbu ?_
  refine q_c (fun hc3=>?_) (fun hc3=>?_)
  ·
   refine Xcw ?_
   refine Jbj (L':=L) (R':=R) (Jfb rfl (Jal (show _=Value.slice _ _ _ from rfl)) (Jal (show _=Value.int _ _ from rfl))) ?hp ?hL ?hR
   case hp=>
    have hn:Jgk (nxS a A K fc.l (Jak t)) (Jak s) (Jmm (Jak s) (Jak t))=none:=by cases hz:Jgk (nxS a A K fc.l (Jak t)) (Jak s) (Jmm (Jak s) (Jak t)) with | none=>rfl | some r=>rw [hz] at hc3;cases hc3
    rw [hn] at hgo
    exact ⟨.nil,by rw [hgo];rfl,OwL.nil_ok,by rw [hgo],by rw [Jc7];rfl,rfl⟩
   case hL=>exact (by repeat (first | exact zs0 _ | exact zs1 _ | apply zs2 | apply zs3 | apply zs4 | apply zs5))
   case hR=>exact hR1
  refine qbv ?_
  refine Xbl ?_
  refine Xau ?_
  refine Jbj (L':=q.L 3 Jad ++ L) (R':=R) (Jfb rfl (Jal (show _=Value.slice _ _ _ from rfl)) (Jal (show _=Value.int _ _ from rfl))) ?hp ?hL ?hR
  case hp=>
   obtain ⟨r,hr⟩:=Option.isSome_iff_exists.1 hc3
   rw [hr] at hgo hql
   exact ⟨q,by rw [hgo] <;> rfl,hqk,by rw [hgo];exact hql,rfl,rfl⟩
  case hL=>exact (by repeat (first | exact zs0 _ | exact zs1 _ | apply zs2 | apply zs3 | apply zs4 | apply zs5))
  case hR=>exact hR1
end Go.Proofs.Ytihompplndcdeaa
end
section
/-
  Statements about chapter 10: what they share. By an AI agent; no person has read it.
-/
namespace Go.Proofs.Ytihompplndcdeaa
open Go.Aw Go
set_option maxRecDepth 20000
attribute [local irreducible] CJ LJ DJ Tri YV Gives Jdn Jaw Jbk Jdo RV Jay OwL.L
end Go.Proofs.Ytihompplndcdeaa
end
section
/-
  Statements about chapter 11: what they share. By an AI agent; no person has read it.
-/
namespace Go.Proofs.Ytihompplndcdeaa
open Go.Aw Go
set_option maxRecDepth 20000
attribute [local irreducible] CJ LJ DJ Tri YV Gives Jdn Jaw Jbk Jdo RV Jay OwL.L
end Go.Proofs.Ytihompplndcdeaa
end
section
/-
  Statements about chapter 11: errors; bounds as arguments. By an AI agent; no person has read it.
-/
namespace Go.Proofs.Ytihompplndcdeaa
open Go.Aw Go
set_option maxRecDepth 20000
attribute [local irreducible] CJ LJ DJ Tri YV Gives Jdn Jaw Jbk Jdo RV Jay OwL.L
theorem Juh (m:XMine):∃A,AiryIs m A:=by
  refine ⟨(List.range (surf m).length).map fun i=>@decide (∃j:Nat,j < (surf m).length∧(surf m).getD j false=true∧Conn m j i) (Classical.propDecidable _),by simp,fun i hi=>?_⟩
  rw [List.getD_eq_getElem?_getD,List.getElem?_map,List.getElem?_range hi]
  exact ⟨fun h=>@of_decide_eq_true _ (Classical.propDecidable _) h,fun h=>@decide_eq_true _ (Classical.propDecidable _) h⟩
end Go.Proofs.Ytihompplndcdeaa
end
section
/-
  The bounds of a made air are no greater than a tenth of what is possible. By an AI agent; no person has read it.
-/
namespace Go.Proofs.Ytihompplndcdeaa
open Go.Aw Go
section
variable {a:XAir} {s:XSetting} {x:XState} (h:MadeA a s x)
include h
end
section
variable {a:XAir} {s:XSetting} {x:XState} (h:MadeA a s x)
include h
end
end Go.Proofs.Ytihompplndcdeaa
end
section
/-
  Bounds that are drawn near an air. By an AI agent; no person has read it.
-/
namespace Go.Proofs.Ytihompplndcdeaa
open Go.Aw Go
set_option maxRecDepth 20000
attribute [local irreducible] CJ LJ DJ Tri YV Gives Jdn Jaw Jbk Jdo RV Jay OwL.L
end Go.Proofs.Ytihompplndcdeaa
end
section
/-
  Statements about chapter 11: what accepted bounds prove of a state that fits. By an AI agent; no person has read it.
-/
namespace Go.Proofs.Ytihompplndcdeaa
open Go.Aw Go
set_option maxRecDepth 20000
attribute [local irreducible] CJ LJ DJ Tri YV Gives Jdn Jaw Jbk Jdo RV Jay OwL.L
end Go.Proofs.Ytihompplndcdeaa
end
section
/-
  The sanity check of chapter 12: a mine with one road is solved. By an AI agent; no person has read it.
-/
namespace Go.Proofs.Ytihompplndcdeaa
open Go.Aw Go
section
variable (b b':Nat)
end
end Go.Proofs.Ytihompplndcdeaa
end
section
/-
  Statements about chapter 12: what they share. By an AI agent; no person has read it.
-/
namespace Go.Proofs.Ytihompplndcdeaa
open Go.Aw Go
set_option maxRecDepth 20000
attribute [local irreducible] CJ LJ DJ Tri YV Gives Jdn Jaw Jbk Jdo RV Jay OwL.L
theorem Jp5 (x y:Arr Int) (L:List Blk) (R:List Sl) (hx:InR (isl x) R) (hy:InR (isl y) R) (he:x.l=y.l):
    Tri Try.prog 20 [x.val,y.val].toArray L R (fun v L' R'=>v=.bool true∧L=L'∧R=R'):=by
  have hle:x.l.length=y.l.length:=by rw [he]
  refine Jb7 Try.call20 hx fun hxn=>?_
  refine Jae 26 Try.call20 Try.func20 rfl rfl rfl ?_
  refine Xbh ?_
  refine qaw ?_
  refine Xat ?_
  refine Xat ?_
  refine Xa3 ?_
  refine q_c (fun hc0=>?_) (fun hc0=>?_)
  ·
   refine Xbh ?_
   refine qbh ?_
   refine q_b (L':=L) (R':=R) ?_
   exact absurd hc0 (by omega)
  refine Xcq ?_
  refine Jag [(0,Value.slice _ _ _),(1,Value.slice _ _ _),(5,Value.int _ _)] (by repeat' (first | exact trivial | refine And.intro rfl ?_)) fun tq0=>?_
  refine q_s [4,5,11,12,13,14,15,16,17,18,19,20,21,22,23,24,25] (fun g:{k:Nat // k≤x.l.length}=>[(5,.int .i64 ((g.1:Nat):Int))]) (fun g=>x.l.length - g.1) (⟨0,by omega⟩) ?_
  rintro ⟨k,hk⟩ junk
  try dsimp only
  refine Xap ?_
  refine Xcy ?_
  refine q_c (fun hc1=>?_) (fun hc1=>?_)
  ·
   have h1:=Jai (l:=x.l) (k:=k) 0 (by omega)
   have h2:=Jai (l:=y.l) (k:=k) 0 (by omega)
   rw [← he] at h2
   rw [he] at h2
   refine Ja4 (Jaa (Jan (Ja9 (Jan ?_))))
   refine Ja5 tb [0,1,2,3,4,5,6,7,8] _ Jbh (by kernel_rfl) (List.Sublist.refl _) ?_
   refine Jbx (Jap (show _=Value.slice _ _ _ from rfl)) rfl rfl rfl ?_
   refine qao ?_
   refine qds ?_
   refine qbl ?_
   refine Jbx (Jap (show _=Value.slice _ _ _ from rfl)) rfl rfl rfl ?_
   refine qao ?_
   refine qds ?_
   refine qbl ?_
   refine Jbx (Jlo rfl rfl) rfl rfl rfl ?_
   refine qbu ?_
   refine q_c (fun hc2=>?_) (fun hc2=>?_)
   ·
    refine Xbh ?_
    refine qbt ?_
    refine q_b (L':=L) (R':=R) ?_
    exact absurd (show x.l.getD k 0=y.l.getD k 0 by rw [he]) hc2
   refine Xbg ?_
   exact q_k (⟨k + 1,by omega⟩)
  refine qbk ?_
  refine Xa9 ?_
  refine q_b (L':=L) (R':=R) ?_
  exact ⟨rfl,rfl,rfl⟩
end Go.Proofs.Ytihompplndcdeaa
end
section
/-
  What measurements say later: sensor.Check, window.At, window.Meet. By an AI agent; no person has read it.
-/
namespace Go.Proofs.Ytihompplndcdeaa
open Go.Aw Go
set_option maxRecDepth 20000
attribute [local irreducible] CJ LJ DJ Tri YV Gives Jdn Jaw Jbk Jdo RV Jay OwL.L
structure XSens where
  address:Int
  kind:Int
  target:Int
  offset:Int
  scale:Int
  error:Int
  drift:Int
  life:Int
  deriving Inhabited
structure XMeas where
  sensor:Int
  time:Int
  span:XSpan
  deriving Inhabited
def Jyo (s:XSens):Prop:=(0≤s.address∧s.address≤255)∧0≤s.target∧(-1000000≤s.offset∧s.offset≤1000000)∧(-1000000≤s.scale∧s.scale≤1000000)∧(0≤s.error∧s.error≤1000000)∧(0≤s.drift∧s.drift≤1000000)∧(1≤s.life∧s.life≤1000000)
instance (s:XSens):Decidable (Jyo s):=by unfold Jyo;infer_instance
def J38 (s:XSens):Int:=if ¬ (1≤s.kind∧s.kind≤6) then 5 else if Jyo s then 0 else 1
def J49 (s:XSens) (m:XMeas) (t:Int):Prop:=J38 s≠0∨m.sensor < 0∨m.span=nothingS∨t < m.time∨s.life < t - m.time
instance (s:XSens) (m:XMeas) (t:Int):Decidable (J49 s m t):=by unfold J49;infer_instance
end Go.Proofs.Ytihompplndcdeaa
end
section
/-
  Flows and measurements: airflow.Narrow, airflow.Tighten. By an AI agent; no person has read it.
-/
namespace Go.Proofs.Ytihompplndcdeaa
open Go.Aw Go
set_option maxRecDepth 20000
attribute [local irreducible] CJ LJ DJ Tri YV Gives Jdn Jaw Jbk Jdo RV Jay OwL.L
def J12 (n:Nat) (kind:Int) (l:List XSens) (x:XMeas):Prop:=(0≤x.sensor∧x.sensor < l.length)∧(l.getD x.sensor.toNat default).kind=kind∧0≤(l.getD x.sensor.toNat default).target∧(l.getD x.sensor.toNat default).target < n
instance (n:Nat) (kind:Int) (l:List XSens) (x:XMeas):Decidable (J12 n kind l x):=by unfold J12;infer_instance
end Go.Proofs.Ytihompplndcdeaa
end
