/-
  The statement TopPower: it returns true for all inputs, and the inputs read as they did. No conditions.
-/
import Derived.Test.YtchfclmokpbldaaGreatFits
import Derived.Test.YtchfclmokpbldaaGreatTopE
import Derived.Test.YtchfclmokpbldaaGreatRows
set_option linter.unusedVariables false
set_option linter.unusedSimpArgs false
namespace Go.Proofs.YtchfclmokpbldaaGreat
open Go.Aw Go
open Go.ChangeShapes Go.WideShapes Go.ChangeAt Go.RowKit
namespace topPower
theorem walk (a0:Arr Int) (a1:Int) (a2:Int) (w:World) (w0:∀n∈a0.l,(Lit.int .u8 n).wf=true) (r0:∀s∈[bsl a0],Rep w (Old w) s) (w1:(Lit.int .u8 a1).wf=true) (w2:(Lit.int .u8 a2).wf=true):
    Calls Tryz.prog 3 #[a0.val,.int .u8 a1,.int .u8 a2] w fun e w'=>e=.returned (.bool true)∧Below w.heap.size w w':=by
  have h:=(Y2c a0 a1 a2 [bsl a0] ⟨Ja (by simp),fun i b hb=>Uwf (w0 b (List.mem_of_getElem? hb))⟩ (Uwf w1) (Uwf w2)).2 w (Old w) (K6e fun r hr=>by
    simp only [List.mem_cons,List.not_mem_nil,or_false] at hr
    rcases hr with rfl
    · exact r0 _ (by simp))
  exact h.mono fun e w' ⟨v,M,U,he,⟨hv,_,_⟩,hst⟩=>⟨by rw [he,hv],Zae hst⟩
set_option maxRecDepth 100000 in
theorem Ztf (os:Os) (started:os.Started) (H:Type) (enc:TypeId×Value→H):
    ReturnsInHanded {} Tryz.checked os 3 .any (Rows.topPowerSpec.pre6 enc Tryz.prog Tryz.f3 Rows.topPowerRow.domain false) (Rows.topPowerSpec.post enc Tryz.prog Tryz.f3 false true false false):=by
  refine returnsInHanded_of_change (C := Tryz.checked) Yze started (by kernel_rfl) Tryz.func3
    (ChangeSpec.witness6 (enc:=enc) (C:=Tryz.checked) false ⟨#[],#[.slice none 0 0,.int .u8 0,.int .u8 0],[]⟩ 8 (by kernel_rfl) (by kernel_rfl) (by kernel_rfl) (by kernel_rfl)) ?_
  intro W base args ds gs before hval0 hW hcnd _
  have hval:∀(j:Nat) t v,Tryz.f3.params[j]?=some t→args[j]?=some v→Value.okWide Tryz.prog W .any base t v:=hval0
  have hW':=hW
  obtain ⟨p,q,hA0,hV,rfl,hfz,hnd⟩:=hW
  have hA:DataW.TrodAll enc Tryz.prog W 0 (fun _=>true) true Tryz.f3.params.toList args.toList ds p:=hA0
  rw [Tryz.params3] at hA hval
  obtain ⟨v0,vs0,d0,ds0,p0,q0,hargs,rfl,rfl,h0,t0⟩:=trodAll_cons hA
  obtain ⟨v1,vs1,d1,ds1,p1,q1,rfl,rfl,rfl,h1,t1⟩:=trodAll_cons t0
  obtain ⟨v2,vs2,d2,ds2,p2,q2,rfl,rfl,rfl,h2,t2⟩:=trodAll_cons t1
  obtain ⟨rfl,rfl,rfl⟩:=trodAll_nil t2
  obtain rfl:args=#[v0,v1,v2]:=by cases args;simp_all
  obtain ⟨rfl,rfl⟩:=trodVars_none hV
  obtain ⟨x0,y0,z0,rfl⟩:=okWide_slice Tryz.underlying22 (hval 0 22 v0 rfl rfl)
  have k0:=h0
  have lt0:∀x∈p0,x.block < W.heap.size:=by obtain ⟨m,hm⟩:=k0;exact DataW.trod_lt m _ _ _ hm
  obtain ⟨a0,e0,w0,r0⟩:∃a:Arr Int,_:=Zve W _ (by obtain ⟨m,hm⟩:=h0;exact ⟨_,_,m,_,hm⟩)
  obtain ⟨rfl,rfl,rfl⟩:x0=a0.a∧y0=a0.l.length∧z0=a0.cap:=by simpa [Value.cells,Arr.val] using e0
  obtain ⟨a1,rfl,rfl,rfl,w1⟩:=open_int Tryz.underlying5 (hval 1 5 v1 rfl rfl) h1
  obtain ⟨a2,rfl,rfl,rfl,w2⟩:=open_int Tryz.underlying5 (hval 2 5 v2 rfl rfl) h2
  clear hA0 hval0
  refine (walk a0 a1 a2 W w0 r0 w1 w2).mono fun e W' ⟨he,bel⟩=>?_
  subst he
  exact ⟨_,rfl,_,_,_,[],_,[],hW',trodAll_mk1 (shut_bool Tryz.underlying4 _),(trodAll_cons_mk (Below.trod Kqf (by kernel_rfl) (of_decide_eq_true (by kernel_rfl)) k0 bel lt0) (trodAll_cons_mk (shut_int Tryz.underlying5 w1) (trodAll_cons_mk (shut_int Tryz.underlying5 w2) trodAll_mk0))),rfl,bel.frame _,fun h=>by cases h⟩
end topPower
end Go.Proofs.YtchfclmokpbldaaGreat
