/-
  The statement ChangeCompares: it returns true for all inputs, and the inputs read as they did. No conditions.
-/
import Derived.Test.YtihompplndcdeaaGreatCircS
import Derived.Test.YtihompplndcdeaaGreatLaw15c
import Derived.Test.YtihompplndcdeaaGreatRows
namespace Go.Proofs.YtihompplndcdeaaGreat
open Go.Aw Go
open Go.ChangeShapes Go.WideShapes Go.ChangeAt Go.RowKit
namespace changeCompares
theorem walk (a0:Arr Int) (a1:XSetting) (w:World) (w0:∀n∈a0.l,(Lit.int .u8 n).wf=true) (r0:∀s∈[bsl a0],Rep w (Old w) s) (w1:(∀n∈a1.fans.l,(Lit.int .i64 n).wf=true)∧∀n∈a1.doors.l,(Lit.int .i64 n).wf=true) (r1:∀s∈[isl a1.fans,isl a1.doors],Rep w (Old w) s):
    Calls Tryz.prog 3 #[a0.val,a1.val] w fun e w'=>e=.returned (.bool true)∧Below w.heap.size w w':=by
  have h:=(Jlk a0 a1 [bsl a0,isl a1.fans,isl a1.doors] ⟨Jab (by simp),fun i b hb=>J6a (w0 b (List.mem_of_getElem? hb))⟩ ⟨Jab (by simp),Jab (by simp)⟩).2 w (Old w) (Jte fun r hr=>by
    simp only [List.mem_cons,List.not_mem_nil,or_false] at hr
    rcases hr with rfl | rfl | rfl
    · exact r0 _ (by simp)
    · exact r1 _ (by simp)
    · exact r1 _ (by simp))
  exact h.mono fun e w' ⟨v,L',R',he,⟨hv,_,_⟩,hst⟩=>⟨by rw [he,hv],Jws hst⟩
set_option maxRecDepth 100000 in
theorem lifted (os:Os) (started:os.Started) (H:Type) (enc:TypeId×Value→H):
    ReturnsInHanded {} Tryz.checked os 3 .any (Rows.changeComparesSpec.pre6 enc Tryz.prog Tryz.f3 Rows.changeComparesRow.domain false) (Rows.changeComparesSpec.post enc Tryz.prog Tryz.f3 false true false false):=by
  refine returnsInHanded_of_change (C := Tryz.checked) Jxh started (by kernel_rfl) Tryz.func3
    (ChangeSpec.witness6 (enc:=enc) (C:=Tryz.checked) false ⟨#[],#[.slice none 0 0,.agg #[.slice none 0 0,.slice none 0 0]],[]⟩ 8 (by kernel_rfl) (by kernel_rfl) (by kernel_rfl) (by kernel_rfl)) ?_
  intro W base args ds gs before hval0 hW hcnd _
  have hval:∀(j:Nat) t v,Tryz.f3.params[j]?=some t→args[j]?=some v→Value.okWide Tryz.prog W .any base t v:=hval0
  have hW':=hW
  obtain ⟨p,q,hA0,hV,rfl,hfz,hnd⟩:=hW
  have hA:DataW.TrodAll enc Tryz.prog W 0 (fun _=>true) true Tryz.f3.params.toList args.toList ds p:=hA0
  rw [Tryz.params3] at hA hval
  obtain ⟨v0,vs0,d0,ds0,p0,q0,hargs,rfl,rfl,h0,t0⟩:=trodAll_cons hA
  obtain ⟨v1,vs1,d1,ds1,p1,q1,rfl,rfl,rfl,h1,t1⟩:=trodAll_cons t0
  obtain ⟨rfl,rfl,rfl⟩:=trodAll_nil t1
  obtain rfl:args=#[v0,v1]:=by cases args;simp_all
  obtain ⟨rfl,rfl⟩:=trodVars_none hV
  obtain ⟨x0,y0,z0,rfl⟩:=okWide_slice Tryz.underlying22 (hval 0 22 v0 rfl rfl)
  have k0:=h0
  have lt0:∀x∈p0,x.block < W.heap.size:=by obtain ⟨m,hm⟩:=k0;exact DataW.trod_lt m _ _ _ hm
  obtain ⟨a0,e0,w0,r0⟩:∃a:Arr Int,_:=Jwf W _ (by obtain ⟨m,hm⟩:=h0;exact ⟨_,_,m,_,hm⟩)
  obtain ⟨rfl,rfl,rfl⟩:x0=a0.a∧y0=a0.l.length∧z0=a0.cap:=by simpa [Value.cells,Arr.val] using e0
  obtain ⟨x1,rfl,_⟩:=okWide_struct Tryz.underlying25 (hval 1 25 v1 rfl rfl)
  have k1:=h1
  have lt1:∀x∈p1,x.block < W.heap.size:=by obtain ⟨m,hm⟩:=k1;exact DataW.trod_lt m _ _ _ hm
  obtain ⟨a1,e1,w1,r1⟩:∃a:XSetting,_:=Jqm W _ (by obtain ⟨m,hm⟩:=h1;exact ⟨_,_,m,_,hm⟩)
  obtain rfl:x1=a1.cells.toArray:=by rw [← e1];simp [Value.cells]
  clear hA0 hval0
  refine (walk a0 a1 W w0 r0 w1 r1).mono fun e W' ⟨he,bel⟩=>?_
  subst he
  exact ⟨_,rfl,_,_,_,[],_,[],hW',trodAll_mk1 (shut_bool Tryz.underlying4 _),(trodAll_cons_mk (Below.trod Jr6 (by kernel_rfl) (of_decide_eq_true (by kernel_rfl)) k0 bel lt0) (trodAll_cons_mk (Below.trod Jr6 (by kernel_rfl) (of_decide_eq_true (by kernel_rfl)) k1 bel lt1) trodAll_mk0)),rfl,bel.frame _,fun h=>by cases h⟩
set_option maxHeartbeats 1000000 in
theorem over:Rows.changeComparesRow.holds Tryz.pinned (OpenSpec.ofChange Rows.changeComparesSpec):=by
  refine OpenClaim.holds_of_wide 3 Tryz.f3 rfl rfl rfl rfl rfl rfl rfl ⟨rfl,rfl,rfl,rfl,rfl⟩ rfl rfl rfl rfl rfl ?_ Tryz.func3 ?_ ?_ ?_ (fun os started H enc _=>lifted os started H enc)
  · as_aux_lemma=>kernel_rfl
  · as_aux_lemma=>kernel_rfl
  · as_aux_lemma=>exact of_decide_eq_true (by kernel_rfl)
  · as_aux_lemma=>(unfold Func.isWrapper;first | (rw [if_pos (by decide +kernel)];kernel_rfl) | (rw [if_neg (by decide +kernel)];exact ⟨rfl,rfl⟩))
end changeCompares
theorem changeCompares_holds:Rows.ChangeComparesSaid:=changeCompares.over
#print axioms changeCompares_holds
end Go.Proofs.YtihompplndcdeaaGreat
