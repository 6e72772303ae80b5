import Derived.Test.YtihompplndcdeaaGreatOrdW
import Derived.Test.YtihompplndcdeaaGreatNets
import Derived.Test.YtihompplndcdeaaGreatFits
import Derived.Test.YtihompplndcdeaaGreatAnal
import Derived.Test.YtihompplndcdeaaGreatChangeS
import Derived.Test.YtihompplndcdeaaGreatComp
import Derived.Test.YtihompplndcdeaaGreatCircS
import Derived.Test.YtihompplndcdeaaGreatHasC
import Derived.Test.YtihompplndcdeaaGreatSolveR
import Derived.Test.YtihompplndcdeaaGreatCflowS
section
/-
  change.Sequence whole. By an AI agent; no person has read it.
-/
namespace Go.Proofs.YtihompplndcdeaaGreat
open Go.Aw Go
section
variable {A9 B9:Prop}
theorem Jx3 (a:A9) (h:A9→B9:=by exact Jbu (Jbx (qs:=[(0,(Value.agg _).cells.toList),(1,(Value.agg _).cells.toList),(2,(Value.slice _ _ _).cells.toList),(3,(Value.slice _ _ _).cells.toList),(4,(Value.map _).cells.toList),(5,(Value.map _).cells.toList)]) (out:=[_,_,_,_,_,_,_,_,_,_]) tb rfl rfl rfl rfl) rfl rfl rfl):B9:=h a
theorem Jyq (a:A9) (h:A9→B9:=by exact J3x rfl (by repeat (first | exact zs0 _ | exact zs1 _ | apply zs2 | apply zs3 | apply zs4 | apply zs5)) rfl):B9:=h a
theorem Jx2 (a:A9) (h:A9→B9:=by exact Jbu (Jcg (show _=Value.pointer _ from rfl)) rfl rfl rfl):B9:=h a
theorem J0p (a:A9) (h:A9→B9:=by exact Jd0 rfl (Jnv rfl (Jqz s t _ _ hs ht (by omega) (by omega) (by omega) (by omega))) rfl rfl):B9:=h a
end
theorem seq_perm1 {F D:Blk} {P X:List Blk}:(P ++ (F :: D :: X)).Perm (F :: D :: (P ++ X)):=List.perm_middle.trans (List.perm_middle.cons _)
theorem Jhg {F D:Blk} {P X:List Blk}:(P ++ (D :: F :: X)).Perm (F :: D :: (P ++ X)):=seq_perm1.trans (.swap _ _ _)
theorem seq_perm3 {F D:Blk} {P X:List Blk}:(F :: (P ++ (D :: X))).Perm (F :: D :: (P ++ X)):=List.perm_middle.cons _
theorem Jg7 {F D:Blk} {P X:List Blk}:(D :: (P ++ (F :: X))).Perm (F :: D :: (P ++ X)):=seq_perm3.trans (.swap _ _ _)
theorem Jm4 {a:XAir} {s t:XSetting} {fc:List XFace} {A:List Bool} {K:List XSpan→List Int} (h:Ja4 a≠0):Jyj a s t fc A K=(Ja4 a,[]):=by rw [Jyj,if_pos h]
theorem Jnl {a:XAir} {s t:XSetting} {fc:List XFace} {A:List Bool} {K:List XSpan→List Int} (h:Ja4 a=0) (h2:Jdq a s=false∨Jdq a t=false):Jyj a s t fc A K=(21,[]):=by rw [Jyj,if_neg (by omega),if_pos h2]
theorem Jlq {a:XAir} {s t:XSetting} {fc:List XFace} {A:List Bool} {K:List XSpan→List Int} (h:Ja4 a=0) (h2:Jdq a s=true∧Jdq a t=true) (h3:3 < (Jn5 (Jaj s) (Jaj t)).length):Jyj a s t fc A K=(2,[]):=by
  rw [Jyj,if_neg (by omega),if_neg (by rw [h2.1,h2.2];decide),if_pos h3]
theorem Jvs {a:XAir} {s t:XSetting} {fc:List XFace} {A:List Bool} {K:List XSpan→List Int} (h:Ja4 a=0) (h2:Jdq a s=true∧Jdq a t=true) (h3:¬ 3 < (Jn5 (Jaj s) (Jaj t)).length):
    Jyj a s t fc A K=match Jfg (nxS a A K fc (Jaj t)) (Jaj s) (Jn5 (Jaj s) (Jaj t)) with | some r=>(0,r) | none=>(13,[]):=by
  rw [Jyj,if_neg (by omega),if_neg (by rw [h2.1,h2.2];decide),if_neg h3]
  rfl
theorem Jpa {a:XAir} {s t:XSetting} (h0:Ja4 a=0) (h:Jdq a s=true) (h':Jdq a t=true):(s.fans.l.length=t.fans.l.length∧s.doors.l.length=t.doors.l.length)∧s.fans.l.length≤8∧s.doors.l.length≤16:=
  Jrj (by rw [Jdn,h0,h];rfl) (by rw [Jdn,h0,h'];rfl)
set_option maxRecDepth 20000
attribute [local irreducible] CJ LJ DJ Tri YV Gives Jd5 Jbd Jbz Jd4 RV Jbf OwL.L
theorem Jgp (a:XAir) (s t:XSetting) (fc:Arr XFace) (A:List Bool) (K:List XSpan→List Int) (L:List Blk) (R:List Sl) (ha:AirR a R) (hs:SetR s R) (ht:SetR t R) (hfc:InR (Jqk fc) R) (hneed:Jfp fc.l) (hnc:fc.l.length≤1000) (hA:Ja4 a=0→AiryIs a.mine A) (hK:∀fl,CircIs a.mine fl (K fl)):
    Tri Tryz.prog 18 [a.val,s.val,t.val,fc.val].toArray L R (fun w L' R'=>∃p:OwL Int,w=.tuple #[p.val,.int .i64 (Jyj a s t fc.l A K).1]∧p.ok 1 Jad∧p.l=(Jyj a s t fc.l A K).2∧p.L 3 Jad ++ L=L'∧R=R'):=by
  refine Jae 54 Tryz.call18 Tryz.func18 rfl rfl rfl ?_
  refine Xai ?_
  intro b4
  refine qax ?_
  intro b5
  refine qax ?_
  intro b6
  refine Xc2 ?_
  refine qa8 ?_
  refine q_l rfl (Jea a _ _ ha) ?_
  refine Xbt ?_
  refine q_c (fun hc0=>?_) (fun hc0=>?_)
  ·
   refine Xc1 ?_
   refine Xbs ?_
   refine Jbe (L':=L) (R':=R) (Jc8 rfl (Jah (show _=Value.slice _ _ _ from rfl)) (Jah (show _=Value.int _ _ from rfl))) ?hp ?hL ?hR
   case hp=>exact ⟨.nil,by rw [Jm4 hc0];rfl,OwL.nil_ok,by rw [Jm4 hc0],by rw [Jcl];rfl,rfl⟩
   case hL=>exact (by repeat (first | exact zs0 _ | exact zs1 _ | apply zs2 | apply zs3 | apply zs4 | apply zs5))
   case hR=>exact Jac _
  have h0:Ja4 a=0:=Decidable.not_not.1 hc0
  refine Xdp ?_
  refine q_l rfl (Jfk a s _ _ ha hs) ?_
  refine Xdx ?_
  apply Jbw (G:=[_,_,_,_]) (j:=4) (cj:=23) rfl rfl (by rfl) rfl (show _=Value.bool _ from rfl) rfl
  ·
   intro hg5
   replace hg5:=qb hg5
   refine Xap ?_
   refine q_l rfl (Jfk a t _ _ ha ht) ?_
   refine qb4 ?_
   exact qai
  intro junk5
  refine qaf ?_
  refine q_c (fun hc1=>?_) (fun hc1=>?_)
  ·
   refine Xcq ?_
   refine Jbe (L':=L) (R':=R) (Jc8 rfl (Jah (show _=Value.slice _ _ _ from rfl)) (Jah (show _=Value.int _ _ from rfl))) ?hp ?hL ?hR
   case hp=>exact ⟨.nil,by rw [Jnl h0 hc1];rfl,OwL.nil_ok,by rw [Jnl h0 hc1],by rw [Jcl];rfl,rfl⟩
   case hL=>exact (by repeat (first | exact zs0 _ | exact zs1 _ | apply zs2 | apply zs3 | apply zs4 | apply zs5))
   case hR=>exact Jac _
  have hln:=Jpa h0 hc1.1 hc1.2
  refine qcl ?_
  refine J2o [29,30,31,32,33,34,35,36,37,38,11] ((⟨fun g=>[(11,.pointer (some ⟨g.1.1,0,none⟩))],fun g=>⟨g.1.1,Jng a t fc g.1.2.2.2.arr g.1.2.1 g.1.2.2.1,101⟩ :: mpB g.1.2.1 [] :: mpB g.1.2.2.1 [] :: (g.1.2.2.2.L 3 Jad ++ (⟨b6,t.cells,25⟩ :: ⟨b5,s.cells,25⟩ :: ⟨b4,a.cells,35⟩ :: L)),fun _=>R,fun _=>0⟩:Head {g:Nat×Nat×Nat×OwL Int // g.2.2.2.ok 1 Jad∧g.2.2.2.l=Jn5 (Jaj s) (Jaj t)})) ?_ ?_
  ·
   skip
   refine Jr3 tb [] [0,1,2,3,4,5,6,7] [8,9,10] ([Blk.mk b6 _ _,Blk.mk b5 _ _,Blk.mk b4 _ _]) [] 8 Jbn (by kernel_rfl) rfl rfl (by repeat (first | exact zs0 _ | exact zs1 _ | apply zs2 | apply zs3 | apply zs4 | apply zs5)) fun hT6=>?_
   refine Jkc 0 hT6 (List.nil_sublist _) (by kernel_rfl) rfl rfl rfl rfl rfl (Jbh (row:=[_,_,_,_]) tb rfl rfl rfl (by repeat (first | exact zi0 | apply zi1 | apply zi2)) (by rfl) (by rfl)) ?_
   refine Jkc 1 hT6 (List.nil_sublist _) (by kernel_rfl) rfl rfl rfl rfl rfl (Jbh (row:=[_,_]) tb rfl rfl rfl (by repeat (first | exact zi0 | apply zi1 | apply zi2)) (by rfl) (by rfl)) ?_
   refine Jkc 2 hT6 (List.nil_sublist _) (by kernel_rfl) rfl rfl rfl rfl rfl (Jar (show _=Value.slice _ _ _ from rfl)) ?_
   refine Jkc 3 hT6 (List.nil_sublist _) (by kernel_rfl) rfl rfl rfl rfl rfl (Jbh (row:=[_,_]) tb rfl rfl rfl (by repeat (first | exact zi0 | apply zi1 | apply zi2)) (by rfl) (by rfl)) ?_
   refine Jkc 4 hT6 (List.nil_sublist _) (by kernel_rfl) rfl rfl rfl rfl rfl (Jbh (row:=[_,_]) tb rfl rfl rfl (by repeat (first | exact zi0 | apply zi1 | apply zi2)) (by rfl) (by rfl)) ?_
   refine Jbq [5,6,7] hT6 (List.nil_sublist _) (by kernel_rfl) ?_
   refine Jdm ?_ ?_
   ·
    skip
    refine J0p ?_
    rintro v L' R' ⟨p,rfl,hpk,hpl,rfl,rfl⟩
    refine qas ?_
    refine Jbq [6,7] hT6 (List.nil_sublist _) (by kernel_rfl) ?_
    refine Jdm ?_ ?_
    ·
     skip
     refine Jd0 rfl (Jc2) rfl rfl ?_
     rintro v L' R' ⟨b35,rfl,rfl,rfl⟩
     refine qa1 ?_
     refine Jbq [7] hT6 (List.nil_sublist _) (by kernel_rfl) ?_
     refine qca ?_
     refine Jd0 rfl (Jc2) rfl rfl ?_
     rintro v L' R' ⟨b36,rfl,rfl,rfl⟩
     refine qa1 ?_
     refine Jfn hT6 (List.nil_sublist _) (by kernel_rfl) rfl ?_
     refine Jx3 ?_
     refine Jyq ?_
     intro b38
     refine Jx2 ?_
     refine Jbt ?_
     first
       | exact Jbg ⟨(b38,b35,b36,p),hpk,hpl⟩ (by repeat (first | exact Off.refl | apply Off.upd rfl | apply Off.havoc rfl | apply Off.updL rfl | apply Off.left rfl)) (by repeat' (first | exact trivial | refine And.intro rfl ?_)) (List.Perm.refl _) (List.Sublist.refl _) (Jac _)
       | exact Jbg ⟨(b38,b35,b36,p),hpk,hpl⟩ (by repeat (first | exact Off.refl | apply Off.upd rfl | apply Off.havoc rfl | apply Off.updL rfl | apply Off.left rfl)) (by repeat' (first | exact trivial | refine And.intro rfl ?_)) (.cons _ (.swap _ _ _)) (List.Sublist.refl _) (Jac _)
       | exact Jbg ⟨(b38,b35,b36,p),hpk,hpl⟩ (by repeat (first | exact Off.refl | apply Off.upd rfl | apply Off.havoc rfl | apply Off.updL rfl | apply Off.left rfl)) (by repeat' (first | exact trivial | refine And.intro rfl ?_)) (.cons _ seq_perm1) (List.Sublist.refl _) (Jac _)
       | exact Jbg ⟨(b38,b35,b36,p),hpk,hpl⟩ (by repeat (first | exact Off.refl | apply Off.upd rfl | apply Off.havoc rfl | apply Off.updL rfl | apply Off.left rfl)) (by repeat' (first | exact trivial | refine And.intro rfl ?_)) (.cons _ Jhg) (List.Sublist.refl _) (Jac _)
       | exact Jbg ⟨(b38,b35,b36,p),hpk,hpl⟩ (by repeat (first | exact Off.refl | apply Off.upd rfl | apply Off.havoc rfl | apply Off.updL rfl | apply Off.left rfl)) (by repeat' (first | exact trivial | refine And.intro rfl ?_)) (.cons _ seq_perm3) (List.Sublist.refl _) (Jac _)
       | exact Jbg ⟨(b38,b35,b36,p),hpk,hpl⟩ (by repeat (first | exact Off.refl | apply Off.upd rfl | apply Off.havoc rfl | apply Off.updL rfl | apply Off.left rfl)) (by repeat' (first | exact trivial | refine And.intro rfl ?_)) (.cons _ Jg7) (List.Sublist.refl _) (Jac _)
    refine qca ?_
    refine Jd0 rfl (Jc2) rfl rfl ?_
    rintro v L' R' ⟨b36,rfl,rfl,rfl⟩
    refine qa1 ?_
    refine Jbq [6] hT6 (List.nil_sublist _) (by kernel_rfl) ?_
    refine qca ?_
    refine Jd0 rfl (Jc2) rfl rfl ?_
    rintro v L' R' ⟨b35,rfl,rfl,rfl⟩
    refine qa1 ?_
    refine Jfn hT6 (List.nil_sublist _) (by kernel_rfl) rfl ?_
    refine Jx3 ?_
    refine Jyq ?_
    intro b38
    refine Jx2 ?_
    refine Jbt ?_
    first
      | exact Jbg ⟨(b38,b35,b36,p),hpk,hpl⟩ (by repeat (first | exact Off.refl | apply Off.upd rfl | apply Off.havoc rfl | apply Off.updL rfl | apply Off.left rfl)) (by repeat' (first | exact trivial | refine And.intro rfl ?_)) (List.Perm.refl _) (List.Sublist.refl _) (Jac _)
      | exact Jbg ⟨(b38,b35,b36,p),hpk,hpl⟩ (by repeat (first | exact Off.refl | apply Off.upd rfl | apply Off.havoc rfl | apply Off.updL rfl | apply Off.left rfl)) (by repeat' (first | exact trivial | refine And.intro rfl ?_)) (.cons _ (.swap _ _ _)) (List.Sublist.refl _) (Jac _)
      | exact Jbg ⟨(b38,b35,b36,p),hpk,hpl⟩ (by repeat (first | exact Off.refl | apply Off.upd rfl | apply Off.havoc rfl | apply Off.updL rfl | apply Off.left rfl)) (by repeat' (first | exact trivial | refine And.intro rfl ?_)) (.cons _ seq_perm1) (List.Sublist.refl _) (Jac _)
      | exact Jbg ⟨(b38,b35,b36,p),hpk,hpl⟩ (by repeat (first | exact Off.refl | apply Off.upd rfl | apply Off.havoc rfl | apply Off.updL rfl | apply Off.left rfl)) (by repeat' (first | exact trivial | refine And.intro rfl ?_)) (.cons _ Jhg) (List.Sublist.refl _) (Jac _)
      | exact Jbg ⟨(b38,b35,b36,p),hpk,hpl⟩ (by repeat (first | exact Off.refl | apply Off.upd rfl | apply Off.havoc rfl | apply Off.updL rfl | apply Off.left rfl)) (by repeat' (first | exact trivial | refine And.intro rfl ?_)) (.cons _ seq_perm3) (List.Sublist.refl _) (Jac _)
      | exact Jbg ⟨(b38,b35,b36,p),hpk,hpl⟩ (by repeat (first | exact Off.refl | apply Off.upd rfl | apply Off.havoc rfl | apply Off.updL rfl | apply Off.left rfl)) (by repeat' (first | exact trivial | refine And.intro rfl ?_)) (.cons _ Jg7) (List.Sublist.refl _) (Jac _)
   refine Jdm ?_ ?_
   ·
    skip
    refine Jd0 rfl (Jc2) rfl rfl ?_
    rintro v L' R' ⟨b35,rfl,rfl,rfl⟩
    refine qa1 ?_
    refine Jbq [5,7] hT6 (List.nil_sublist _) (by kernel_rfl) ?_
    refine Jdm ?_ ?_
    ·
     skip
     refine J0p ?_
     rintro v L' R' ⟨p,rfl,hpk,hpl,rfl,rfl⟩
     refine qas ?_
     refine Jbq [7] hT6 (List.nil_sublist _) (by kernel_rfl) ?_
     refine qca ?_
     refine Jd0 rfl (Jc2) rfl rfl ?_
     rintro v L' R' ⟨b36,rfl,rfl,rfl⟩
     refine qa1 ?_
     refine Jfn hT6 (List.nil_sublist _) (by kernel_rfl) rfl ?_
     refine Jx3 ?_
     refine Jyq ?_
     intro b38
     refine Jx2 ?_
     refine Jbt ?_
     first
       | exact Jbg ⟨(b38,b35,b36,p),hpk,hpl⟩ (by repeat (first | exact Off.refl | apply Off.upd rfl | apply Off.havoc rfl | apply Off.updL rfl | apply Off.left rfl)) (by repeat' (first | exact trivial | refine And.intro rfl ?_)) (List.Perm.refl _) (List.Sublist.refl _) (Jac _)
       | exact Jbg ⟨(b38,b35,b36,p),hpk,hpl⟩ (by repeat (first | exact Off.refl | apply Off.upd rfl | apply Off.havoc rfl | apply Off.updL rfl | apply Off.left rfl)) (by repeat' (first | exact trivial | refine And.intro rfl ?_)) (.cons _ (.swap _ _ _)) (List.Sublist.refl _) (Jac _)
       | exact Jbg ⟨(b38,b35,b36,p),hpk,hpl⟩ (by repeat (first | exact Off.refl | apply Off.upd rfl | apply Off.havoc rfl | apply Off.updL rfl | apply Off.left rfl)) (by repeat' (first | exact trivial | refine And.intro rfl ?_)) (.cons _ seq_perm1) (List.Sublist.refl _) (Jac _)
       | exact Jbg ⟨(b38,b35,b36,p),hpk,hpl⟩ (by repeat (first | exact Off.refl | apply Off.upd rfl | apply Off.havoc rfl | apply Off.updL rfl | apply Off.left rfl)) (by repeat' (first | exact trivial | refine And.intro rfl ?_)) (.cons _ Jhg) (List.Sublist.refl _) (Jac _)
       | exact Jbg ⟨(b38,b35,b36,p),hpk,hpl⟩ (by repeat (first | exact Off.refl | apply Off.upd rfl | apply Off.havoc rfl | apply Off.updL rfl | apply Off.left rfl)) (by repeat' (first | exact trivial | refine And.intro rfl ?_)) (.cons _ seq_perm3) (List.Sublist.refl _) (Jac _)
       | exact Jbg ⟨(b38,b35,b36,p),hpk,hpl⟩ (by repeat (first | exact Off.refl | apply Off.upd rfl | apply Off.havoc rfl | apply Off.updL rfl | apply Off.left rfl)) (by repeat' (first | exact trivial | refine And.intro rfl ?_)) (.cons _ Jg7) (List.Sublist.refl _) (Jac _)
    refine qca ?_
    refine Jd0 rfl (Jc2) rfl rfl ?_
    rintro v L' R' ⟨b36,rfl,rfl,rfl⟩
    refine qa1 ?_
    refine Jbq [5] hT6 (List.nil_sublist _) (by kernel_rfl) ?_
    refine qca ?_
    refine J0p ?_
    rintro v L' R' ⟨p,rfl,hpk,hpl,rfl,rfl⟩
    refine qas ?_
    refine Jfn hT6 (List.nil_sublist _) (by kernel_rfl) rfl ?_
    refine Jx3 ?_
    refine Jyq ?_
    intro b38
    refine Jx2 ?_
    refine Jbt ?_
    first
      | exact Jbg ⟨(b38,b35,b36,p),hpk,hpl⟩ (by repeat (first | exact Off.refl | apply Off.upd rfl | apply Off.havoc rfl | apply Off.updL rfl | apply Off.left rfl)) (by repeat' (first | exact trivial | refine And.intro rfl ?_)) (List.Perm.refl _) (List.Sublist.refl _) (Jac _)
      | exact Jbg ⟨(b38,b35,b36,p),hpk,hpl⟩ (by repeat (first | exact Off.refl | apply Off.upd rfl | apply Off.havoc rfl | apply Off.updL rfl | apply Off.left rfl)) (by repeat' (first | exact trivial | refine And.intro rfl ?_)) (.cons _ (.swap _ _ _)) (List.Sublist.refl _) (Jac _)
      | exact Jbg ⟨(b38,b35,b36,p),hpk,hpl⟩ (by repeat (first | exact Off.refl | apply Off.upd rfl | apply Off.havoc rfl | apply Off.updL rfl | apply Off.left rfl)) (by repeat' (first | exact trivial | refine And.intro rfl ?_)) (.cons _ seq_perm1) (List.Sublist.refl _) (Jac _)
      | exact Jbg ⟨(b38,b35,b36,p),hpk,hpl⟩ (by repeat (first | exact Off.refl | apply Off.upd rfl | apply Off.havoc rfl | apply Off.updL rfl | apply Off.left rfl)) (by repeat' (first | exact trivial | refine And.intro rfl ?_)) (.cons _ Jhg) (List.Sublist.refl _) (Jac _)
      | exact Jbg ⟨(b38,b35,b36,p),hpk,hpl⟩ (by repeat (first | exact Off.refl | apply Off.upd rfl | apply Off.havoc rfl | apply Off.updL rfl | apply Off.left rfl)) (by repeat' (first | exact trivial | refine And.intro rfl ?_)) (.cons _ seq_perm3) (List.Sublist.refl _) (Jac _)
      | exact Jbg ⟨(b38,b35,b36,p),hpk,hpl⟩ (by repeat (first | exact Off.refl | apply Off.upd rfl | apply Off.havoc rfl | apply Off.updL rfl | apply Off.left rfl)) (by repeat' (first | exact trivial | refine And.intro rfl ?_)) (.cons _ Jg7) (List.Sublist.refl _) (Jac _)
   refine qca ?_
   refine Jd0 rfl (Jc2) rfl rfl ?_
   rintro v L' R' ⟨b36,rfl,rfl,rfl⟩
   refine qa1 ?_
   refine Jbq [5,6] hT6 (List.nil_sublist _) (by kernel_rfl) ?_
   refine Jdm ?_ ?_
   ·
    skip
    refine J0p ?_
    rintro v L' R' ⟨p,rfl,hpk,hpl,rfl,rfl⟩
    refine qas ?_
    refine Jbq [6] hT6 (List.nil_sublist _) (by kernel_rfl) ?_
    refine qca ?_
    refine Jd0 rfl (Jc2) rfl rfl ?_
    rintro v L' R' ⟨b35,rfl,rfl,rfl⟩
    refine qa1 ?_
    refine Jfn hT6 (List.nil_sublist _) (by kernel_rfl) rfl ?_
    refine Jx3 ?_
    refine Jyq ?_
    intro b38
    refine Jx2 ?_
    refine Jbt ?_
    first
      | exact Jbg ⟨(b38,b35,b36,p),hpk,hpl⟩ (by repeat (first | exact Off.refl | apply Off.upd rfl | apply Off.havoc rfl | apply Off.updL rfl | apply Off.left rfl)) (by repeat' (first | exact trivial | refine And.intro rfl ?_)) (List.Perm.refl _) (List.Sublist.refl _) (Jac _)
      | exact Jbg ⟨(b38,b35,b36,p),hpk,hpl⟩ (by repeat (first | exact Off.refl | apply Off.upd rfl | apply Off.havoc rfl | apply Off.updL rfl | apply Off.left rfl)) (by repeat' (first | exact trivial | refine And.intro rfl ?_)) (.cons _ (.swap _ _ _)) (List.Sublist.refl _) (Jac _)
      | exact Jbg ⟨(b38,b35,b36,p),hpk,hpl⟩ (by repeat (first | exact Off.refl | apply Off.upd rfl | apply Off.havoc rfl | apply Off.updL rfl | apply Off.left rfl)) (by repeat' (first | exact trivial | refine And.intro rfl ?_)) (.cons _ seq_perm1) (List.Sublist.refl _) (Jac _)
      | exact Jbg ⟨(b38,b35,b36,p),hpk,hpl⟩ (by repeat (first | exact Off.refl | apply Off.upd rfl | apply Off.havoc rfl | apply Off.updL rfl | apply Off.left rfl)) (by repeat' (first | exact trivial | refine And.intro rfl ?_)) (.cons _ Jhg) (List.Sublist.refl _) (Jac _)
      | exact Jbg ⟨(b38,b35,b36,p),hpk,hpl⟩ (by repeat (first | exact Off.refl | apply Off.upd rfl | apply Off.havoc rfl | apply Off.updL rfl | apply Off.left rfl)) (by repeat' (first | exact trivial | refine And.intro rfl ?_)) (.cons _ seq_perm3) (List.Sublist.refl _) (Jac _)
      | exact Jbg ⟨(b38,b35,b36,p),hpk,hpl⟩ (by repeat (first | exact Off.refl | apply Off.upd rfl | apply Off.havoc rfl | apply Off.updL rfl | apply Off.left rfl)) (by repeat' (first | exact trivial | refine And.intro rfl ?_)) (.cons _ Jg7) (List.Sublist.refl _) (Jac _)
   refine qca ?_
   refine Jd0 rfl (Jc2) rfl rfl ?_
   rintro v L' R' ⟨b35,rfl,rfl,rfl⟩
   refine qa1 ?_
   refine Jbq [5] hT6 (List.nil_sublist _) (by kernel_rfl) ?_
   refine qca ?_
   refine J0p ?_
   rintro v L' R' ⟨p,rfl,hpk,hpl,rfl,rfl⟩
   refine qas ?_
   refine Jfn hT6 (List.nil_sublist _) (by kernel_rfl) rfl ?_
   refine Jx3 ?_
   refine Jyq ?_
   intro b38
   refine Jx2 ?_
   refine Jbt ?_
   first
     | exact Jbg ⟨(b38,b35,b36,p),hpk,hpl⟩ (by repeat (first | exact Off.refl | apply Off.upd rfl | apply Off.havoc rfl | apply Off.updL rfl | apply Off.left rfl)) (by repeat' (first | exact trivial | refine And.intro rfl ?_)) (List.Perm.refl _) (List.Sublist.refl _) (Jac _)
     | exact Jbg ⟨(b38,b35,b36,p),hpk,hpl⟩ (by repeat (first | exact Off.refl | apply Off.upd rfl | apply Off.havoc rfl | apply Off.updL rfl | apply Off.left rfl)) (by repeat' (first | exact trivial | refine And.intro rfl ?_)) (.cons _ (.swap _ _ _)) (List.Sublist.refl _) (Jac _)
     | exact Jbg ⟨(b38,b35,b36,p),hpk,hpl⟩ (by repeat (first | exact Off.refl | apply Off.upd rfl | apply Off.havoc rfl | apply Off.updL rfl | apply Off.left rfl)) (by repeat' (first | exact trivial | refine And.intro rfl ?_)) (.cons _ seq_perm1) (List.Sublist.refl _) (Jac _)
     | exact Jbg ⟨(b38,b35,b36,p),hpk,hpl⟩ (by repeat (first | exact Off.refl | apply Off.upd rfl | apply Off.havoc rfl | apply Off.updL rfl | apply Off.left rfl)) (by repeat' (first | exact trivial | refine And.intro rfl ?_)) (.cons _ Jhg) (List.Sublist.refl _) (Jac _)
     | exact Jbg ⟨(b38,b35,b36,p),hpk,hpl⟩ (by repeat (first | exact Off.refl | apply Off.upd rfl | apply Off.havoc rfl | apply Off.updL rfl | apply Off.left rfl)) (by repeat' (first | exact trivial | refine And.intro rfl ?_)) (.cons _ seq_perm3) (List.Sublist.refl _) (Jac _)
     | exact Jbg ⟨(b38,b35,b36,p),hpk,hpl⟩ (by repeat (first | exact Off.refl | apply Off.upd rfl | apply Off.havoc rfl | apply Off.updL rfl | apply Off.left rfl)) (by repeat' (first | exact trivial | refine And.intro rfl ?_)) (.cons _ Jg7) (List.Sublist.refl _) (Jac _)
  rintro ⟨⟨bx,bf,bd,p⟩,hpk,hpl⟩ junk
  try dsimp only
  dsimp only at hpk hpl
  refine Jam (Jam ?_)
  refine Jby (A:=[_,_,_]) (wd:=1) [] (fun _=>rfl) (by decide) hpk (fun s hs=>by cases hs) ?_
  refine qb1 ?_
  obtain ⟨R1,hR1e⟩:∃R1,R1=isl p.arr :: R:=⟨_,rfl⟩
  have hR1:∀r∈R,InR r R1:=fun r hr=>Jab (by rw [hR1e];exact .tail _ hr)
  have hOR:OrdR a t fc p.arr R1:=⟨Jbm ha hR1,Jbc ht hR1,hfc.mono hR1,Jab (by rw [hR1e];exact .head _)⟩
  refine J2x (show _=R1 by rw [hR1e]) ?_
  refine Xdm ?_
  refine Ja2 (Jbi rfl) rfl ?_
  refine Xab ?_
  refine Xb9 ?_
  refine q_c (fun hc2=>?_) (fun hc2=>?_)
  ·
   refine Xcq ?_
   refine Jbe (L':=L) (R':=R) (Jc8 rfl (Jah (show _=Value.slice _ _ _ from rfl)) (Jah (show _=Value.int _ _ from rfl))) ?hp ?hL ?hR
   case hp=>
    have hlg:3 < (Jn5 (Jaj s) (Jaj t)).length:=by rw [← hpl];omega
    exact ⟨.nil,by rw [Jlq h0 hc1 hlg];rfl,OwL.nil_ok,by rw [Jlq h0 hc1 hlg],by rw [Jcl];rfl,rfl⟩
   case hL=>exact (by repeat (first | exact zs0 _ | exact zs1 _ | apply zs2 | apply zs3 | apply zs4 | apply zs5))
   case hR=>exact hR1
  have hlg:¬ 3 < (Jn5 (Jaj s) (Jaj t)).length:=by rw [← hpl];omega
  have hgo:=Jvs (fc:=fc.l) (A:=A) (K:=K) h0 hc1 hlg
  have hO:OrdF a t fc p.arr (Jaj s) A K:=⟨h0,(Jox a rfl).trans hc1.1,(Jox a rfl).trans hc1.2,hA h0,hK,hneed,hnc,by show p.l.length≤3;omega,fun k hk=>Jv4 (by rw [← hpl];exact hk)⟩
  have hq:=Jzj a t fc p.arr (Jaj s) A K bx bf bd hO _ 0 s [] [] R1 rfl hOR (Jbc hs hR1) (Nat.pow_pos (by decide)) (Jtr _ _ _).symm FlOk.nil DdOk.nil
  rw [Jq0,show p.arr.l=Jn5 (Jaj s) (Jaj t) from hpl] at hq
  refine qbv ?_
  refine qa6 ?_
  refine qbe ?_
  refine Jaq rfl (Tri.spl (.consL (.consL (.consL .rest))) hq) rfl ?_
  rintro v L' R' ⟨_,rfl,q,fm,dm,S,rfl,hqk,hql,_,_,rfl,rfl⟩
  refine Ja2 (Jar rfl) rfl ?_
  refine Xcr ?_
  refine qaz ?_
  refine qco ?_
  refine Jrl List.perm_append_comm ?_
  refine Jke (L':=q.L 3 Jad ++ L) (by rw [List.append_assoc];exact (by repeat (first | exact zs0 _ | exact zs1 _ | apply zs2 | apply zs3 | apply zs4 | apply zs5))) (fun r hr=>Jab (List.mem_append_right _ hr)) ?_
  refine qay ?_
  refine Xc3 ?_
  refine q_c (fun hc3=>?_) (fun hc3=>?_)
  ·
   refine Xcq ?_
   refine Jbe (L':=L) (R':=R) (Jc8 rfl (Jah (show _=Value.slice _ _ _ from rfl)) (Jah (show _=Value.int _ _ from rfl))) ?hp ?hL ?hR
   case hp=>
    have hn:Jfg (nxS a A K fc.l (Jaj t)) (Jaj s) (Jn5 (Jaj s) (Jaj t))=none:=by cases hz:Jfg (nxS a A K fc.l (Jaj t)) (Jaj s) (Jn5 (Jaj s) (Jaj t)) with | none=>rfl | some r=>rw [hz] at hc3;cases hc3
    rw [hn] at hgo
    exact ⟨.nil,by rw [hgo];rfl,OwL.nil_ok,by rw [hgo],by rw [Jcl];rfl,rfl⟩
   case hL=>exact (by repeat (first | exact zs0 _ | exact zs1 _ | apply zs2 | apply zs3 | apply zs4 | apply zs5))
   case hR=>exact hR1
  refine Xdc ?_
  refine Xce ?_
  refine Jbe (L':=q.L 3 Jad ++ L) (R':=R) (Jc8 rfl (Jah (show _=Value.slice _ _ _ from rfl)) (Jah (show _=Value.int _ _ from rfl))) ?hp ?hL ?hR
  case hp=>
   obtain ⟨r,hr⟩:=Option.isSome_iff_exists.1 hc3
   rw [hr] at hgo hql
   exact ⟨q,by rw [hgo] <;> rfl,hqk,by rw [hgo];exact hql,rfl,rfl⟩
  case hL=>exact (by repeat (first | exact zs0 _ | exact zs1 _ | apply zs2 | apply zs3 | apply zs4 | apply zs5))
  case hR=>exact hR1
end Go.Proofs.YtihompplndcdeaaGreat
end
section
/-
  Statements about chapter 10: what they share. By an AI agent; no person has read it.
-/
namespace Go.Proofs.YtihompplndcdeaaGreat
open Go.Aw Go
set_option maxRecDepth 20000
attribute [local irreducible] CJ LJ DJ Tri YV Gives Jd5 Jbd Jbz Jd4 RV Jbf OwL.L
end Go.Proofs.YtihompplndcdeaaGreat
end
section
/-
  Statements about chapter 11: what they share. By an AI agent; no person has read it.
-/
namespace Go.Proofs.YtihompplndcdeaaGreat
open Go.Aw Go
set_option maxRecDepth 20000
attribute [local irreducible] CJ LJ DJ Tri YV Gives Jd5 Jbd Jbz Jd4 RV Jbf OwL.L
end Go.Proofs.YtihompplndcdeaaGreat
end
section
/-
  Statements about chapter 11: errors; bounds as arguments. By an AI agent; no person has read it.
-/
namespace Go.Proofs.YtihompplndcdeaaGreat
open Go.Aw Go
set_option maxRecDepth 20000
attribute [local irreducible] CJ LJ DJ Tri YV Gives Jd5 Jbd Jbz Jd4 RV Jbf OwL.L
theorem Jrd (m:XMine):∃A,AiryIs m A:=by
  refine ⟨(List.range (Jud m).length).map fun i=>@decide (∃j:Nat,j < (Jud m).length∧(Jud m).getD j false=true∧Conn m j i) (Classical.propDecidable _),by simp,fun i hi=>?_⟩
  rw [List.getD_eq_getElem?_getD,List.getElem?_map,List.getElem?_range hi]
  exact ⟨fun h=>@of_decide_eq_true _ (Classical.propDecidable _) h,fun h=>@decide_eq_true _ (Classical.propDecidable _) h⟩
end Go.Proofs.YtihompplndcdeaaGreat
end
section
/-
  The bounds of a made air are no greater than a tenth of what is possible. By an AI agent; no person has read it.
-/
namespace Go.Proofs.YtihompplndcdeaaGreat
open Go.Aw Go
section
variable {a:XAir} {s:XSetting} {x:XState} (h:MadeA a s x)
include h
end
section
variable {a:XAir} {s:XSetting} {x:XState} (h:MadeA a s x)
include h
end
end Go.Proofs.YtihompplndcdeaaGreat
end
section
/-
  Bounds that are drawn near an air. By an AI agent; no person has read it.
-/
namespace Go.Proofs.YtihompplndcdeaaGreat
open Go.Aw Go
set_option maxRecDepth 20000
attribute [local irreducible] CJ LJ DJ Tri YV Gives Jd5 Jbd Jbz Jd4 RV Jbf OwL.L
end Go.Proofs.YtihompplndcdeaaGreat
end
section
/-
  Statements about chapter 11: what accepted bounds prove of a state that fits. By an AI agent; no person has read it.
-/
namespace Go.Proofs.YtihompplndcdeaaGreat
open Go.Aw Go
set_option maxRecDepth 20000
attribute [local irreducible] CJ LJ DJ Tri YV Gives Jd5 Jbd Jbz Jd4 RV Jbf OwL.L
end Go.Proofs.YtihompplndcdeaaGreat
end
section
/-
  The sanity check of chapter 12: a mine with one road is solved. By an AI agent; no person has read it.
-/
namespace Go.Proofs.YtihompplndcdeaaGreat
open Go.Aw Go
section
variable (b b':Nat)
end
end Go.Proofs.YtihompplndcdeaaGreat
end
section
/-
  Statements about chapter 12: what they share. By an AI agent; no person has read it.
-/
namespace Go.Proofs.YtihompplndcdeaaGreat
open Go.Aw Go
set_option maxRecDepth 20000
attribute [local irreducible] CJ LJ DJ Tri YV Gives Jd5 Jbd Jbz Jd4 RV Jbf OwL.L
theorem Jxm (x y:Arr Int) (L:List Blk) (R:List Sl) (hx:InR (isl x) R) (hy:InR (isl y) R) (he:x.l=y.l):
    Tri Tryz.prog 20 [x.val,y.val].toArray L R (fun v L' R'=>v=.bool true∧L=L'∧R=R'):=by
  have hle:x.l.length=y.l.length:=by rw [he]
  refine Jb7 Tryz.call20 hx fun hxn=>?_
  refine Jae 26 Tryz.call20 Tryz.func20 rfl rfl rfl ?_
  refine qae ?_
  refine Xb2 ?_
  refine Xat ?_
  refine Xat ?_
  refine Xaw ?_
  refine q_c (fun hc0=>?_) (fun hc0=>?_)
  ·
   refine qae ?_
   refine Xcj ?_
   refine q_b (L':=L) (R':=R) ?_
   exact absurd hc0 (by omega)
  refine Xdr ?_
  refine Jai [(0,Value.slice _ _ _),(1,Value.slice _ _ _),(5,Value.int _ _)] (by repeat' (first | exact trivial | refine And.intro rfl ?_)) fun tq0=>?_
  refine q_s [4,5,11,12,13,14,15,16,17,18,19,20,21,22,23,24,25] (fun g:{k:Nat // k≤x.l.length}=>[(5,.int .i64 ((g.1:Nat):Int))]) (fun g=>x.l.length - g.1) (⟨0,by omega⟩) ?_
  rintro ⟨k,hk⟩ junk
  try dsimp only
  refine Xcg ?_
  refine q_c (fun hc1=>?_) (fun hc1=>?_)
  ·
   have h1:=Jan (l:=x.l) (k:=k) 0 (by omega)
   have h2:=Jan (l:=y.l) (k:=k) 0 (by omega)
   rw [← he] at h2
   rw [he] at h2
   refine Ja3 (Jaa (Jam (Ja1 (Jam ?_))))
   refine Jbb tb [0,1,2,3,4,5,6,7,8] _ Jbn (by kernel_rfl) (List.Sublist.refl _) ?_
   refine Jbu (Jar (show _=Value.slice _ _ _ from rfl)) rfl rfl rfl ?_
   refine qao ?_
   refine qds ?_
   refine qbl ?_
   refine Jbu (Jar (show _=Value.slice _ _ _ from rfl)) rfl rfl rfl ?_
   refine qao ?_
   refine qds ?_
   refine qbl ?_
   refine Jbu (Jll rfl rfl) rfl rfl rfl ?_
   refine qbu ?_
   refine q_c (fun hc2=>?_) (fun hc2=>?_)
   ·
    refine qae ?_
    refine Xdk ?_
    refine q_b (L':=L) (R':=R) ?_
    exact absurd (show x.l.getD k 0=y.l.getD k 0 by rw [he]) hc2
   refine Xa1 ?_
   exact q_k (⟨k + 1,by omega⟩)
  refine qbk ?_
  refine Xbb ?_
  refine q_b (L':=L) (R':=R) ?_
  exact ⟨rfl,rfl,rfl⟩
end Go.Proofs.YtihompplndcdeaaGreat
end
section
/-
  What measurements say later: sensor.Check, window.At, window.Meet. By an AI agent; no person has read it.
-/
namespace Go.Proofs.YtihompplndcdeaaGreat
open Go.Aw Go
set_option maxRecDepth 20000
attribute [local irreducible] CJ LJ DJ Tri YV Gives Jd5 Jbd Jbz Jd4 RV Jbf OwL.L
structure XSens where
  address:Int
  kind:Int
  target:Int
  offset:Int
  scale:Int
  error:Int
  drift:Int
  life:Int
  deriving Inhabited
structure XMeas where
  sensor:Int
  time:Int
  span:XSpan
  deriving Inhabited
def Jy0 (s:XSens):Prop:=(0≤s.address∧s.address≤255)∧0≤s.target∧(-1000000≤s.offset∧s.offset≤1000000)∧(-1000000≤s.scale∧s.scale≤1000000)∧(0≤s.error∧s.error≤1000000)∧(0≤s.drift∧s.drift≤1000000)∧(1≤s.life∧s.life≤1000000)
instance (s:XSens):Decidable (Jy0 s):=by unfold Jy0;infer_instance
def J4q (s:XSens):Int:=if ¬ (1≤s.kind∧s.kind≤6) then 5 else if Jy0 s then 0 else 1
def J8p (s:XSens) (m:XMeas) (t:Int):Prop:=J4q s≠0∨m.sensor < 0∨m.span=nothingS∨t < m.time∨s.life < t - m.time
instance (s:XSens) (m:XMeas) (t:Int):Decidable (J8p s m t):=by unfold J8p;infer_instance
end Go.Proofs.YtihompplndcdeaaGreat
end
section
/-
  Flows and measurements: airflow.Narrow, airflow.Tighten. By an AI agent; no person has read it.
-/
namespace Go.Proofs.YtihompplndcdeaaGreat
open Go.Aw Go
set_option maxRecDepth 20000
attribute [local irreducible] CJ LJ DJ Tri YV Gives Jd5 Jbd Jbz Jd4 RV Jbf OwL.L
def J3m (n:Nat) (kind:Int) (l:List XSens) (x:XMeas):Prop:=(0≤x.sensor∧x.sensor < l.length)∧(l.getD x.sensor.toNat default).kind=kind∧0≤(l.getD x.sensor.toNat default).target∧(l.getD x.sensor.toNat default).target < n
instance (n:Nat) (kind:Int) (l:List XSens) (x:XMeas):Decidable (J3m n kind l x):=by unfold J3m;infer_instance
end Go.Proofs.YtihompplndcdeaaGreat
end
