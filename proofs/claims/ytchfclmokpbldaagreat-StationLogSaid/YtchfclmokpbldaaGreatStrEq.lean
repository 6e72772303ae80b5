/-
  Texts of one chapter, merged. By an AI agent; no person has read it.
-/
import Derived.Test.YtchfclmokpbldaaGreatRoundA
import Derived.OwnWalkIn
import Derived.LoopNIn
import Derived.Test.YtchfclmokpbldaaGreatFits
import Derived.Test.YtchfclmokpbldaaGreatSiteD
import Derived.Laws.StructEq
import Derived.Test.YtchfclmokpbldaaGreatDraws
set_option linter.unusedVariables false
set_option linter.unusedSimpArgs false
set_option maxRecDepth 20000
namespace Go.Proofs.YtchfclmokpbldaaGreat
open Go.Aw Go
section
attribute [local irreducible] CJ LJ DJ Tri YV Gives Ui J0 Ke Uh RV J2 OwL.L
def upF (sw : List XSwitch) : Nat → Int → List Int
  | 0,_=>[]
  | n + 1,s=>if s < 0 then [] else s :: upF sw n (sw.getD s.toNat default).above
def Yra (sw:List XSwitch) (s:Int):List Int:=upF sw (s + 1).toNat s
def V2e (sw:List XSwitch):Prop:=∀i:Nat,i < sw.length→-1≤(sw.getD i default).above∧(sw.getD i default).above < i
theorem Vme {sw:List XSwitch} (h:V2e sw):∀(n:Nat) (s:Int),s < sw.length→(s + 1).toNat≤n→upF sw n s=Yra sw s:=by
  intro n
  induction n using Nat.strongRecOn with
  | _ n ih=>
    intro s hs hn
    by_cases h0:s < 0
    · rw [Yra, show (s + 1).toNat = 0 by omega]
      cases n with
      | zero=>rfl
      | succ n=>show (if s < 0 then [] else _)=([]:List Int);rw [if_pos h0]
    · obtain ⟨k, rfl⟩ : ∃ k, n = k + 1 := ⟨n - 1, by omega⟩
      have ha:=h s.toNat za
      rw [Yra,show (s + 1).toNat=s.toNat + 1 by omega,upF,upF,if_neg za,if_neg za,ih k za _ za za,ih s.toNat za _ za za]
theorem V9a {sw:List XSwitch} {s:Int} (h:s < 0):Yra sw s=[]:=by rw [Yra,show (s + 1).toNat=0 by omega];rfl
theorem Ypa {sw:List XSwitch} (h:V2e sw) {s:Int} (h0:0≤s) (h1:s < sw.length):Yra sw s=s :: Yra sw (sw.getD s.toNat default).above:=by
  have ha:=h s.toNat za
  rw [Yra,show (s + 1).toNat=s.toNat + 1 by omega,upF,if_neg za,Vme h _ _ za za]
theorem Ulc {sw:List XSwitch} (h:V2e sw):∀(n:Nat) (s:Int),s < sw.length→(s + 1).toNat≤n→(Yra sw s).length≤n:=by
  intro n
  induction n with
  | zero=>intro s _ hn;rw [V9a za];exact Nat.le_refl _
  | succ n ih=>
    intro s hs hn
    by_cases h0:s < 0
    · rw [V9a h0];simp
    · have ha := h s.toNat za
      rw [Ypa h za hs,List.length_cons]
      have:=ih (sw.getD s.toNat default).above za za
      omega
def Jcf (c:Code):Code:=match c with
  | .seq _ (.seq (.seq _ (.block _ (.rangeFunc _ _ x _))) _)=>x
  | _=>.skip
def Yud (c:Code):Code:=match c with
  | .seq _ (.seq (.seq _ (.block _ (.rangeFunc _ _ _ x))) _)=>x
  | _=>.skip
def Voc (sv x:Value) (B:Nat):Array Value:=#[.slice none 0 0,sv,.pointer (some ⟨B,0,none⟩),undef,.slice none 0 0,undef,sv,x,undef,undef,undef,undef,undef]
def Y3b (cd:Code) (fn:FuncId) (sv:Value) (B:Nat) (st:LoopState):Loop:={ state:=st,pending:=none,fn,tmps:=Voc sv undef B,params:=#[7],assign:=Jcf cd,body:=Yud cd,defers:=B + 1 }
def Jic (cd:Code) (fn:FuncId) (sv:Value) (B:Nat) (st:LoopState):Obj:=.loop (Y3b cd fn sv B st)
theorem Jea {cd fn sv B st}:NoCells (Jic cd fn sv B st):=⟨fun c t f h=>zF,fun es ck h=>zF⟩
def Vne:Obj:=.deferred (some [])
theorem Jxb:NoCells Vne:=⟨fun c t f h=>zF,fun es ck h=>zF⟩
theorem Yae (t:Array Value) (n:Nat) (h:t.size=n):Fr n (fun k=>t.getD k undef) { tmps:=t,defers:=[] }:=⟨rfl,h,fun _=>rfl⟩
def Ksf (o:Oper):Bool:=match o.op with
  | .defer _=>true
  | _=>false
theorem Vrf {ops:List Oper} (h:ops.any Ksf=false):∀o∈ops,∀c,o.op≠.defer c:=fun o ho c e=>by
  have:=List.any_eq_false.1 h o ho
  rw [Ksf,e] at this
  exact this rfl
section
variable {w0:World} {Lc:List Blk} {G:Nat→Prop} {R:List Sl} (hh:Holds Lc G R w0)
include hh
theorem K1e {fn:FuncId} {sv:Value} {m:Nat} {Lf:List Blk} {p:OwL Int} (hok:p.ok 1 Jp) (hlen:p.l.length≤1000000) (x:Int) {W:World} (h:At2 w0 Lc G R (w0.heap.size + 1) Vne (Jic (Tryz.f170.body.getD .skip) fn sv w0.heap.size .ready) (⟨w0.heap.size,[p.val],40⟩ :: (p.L 3 Jp ++ Lf)) W):
    YieldAt Fence.wide m Tryz.prog (w0.heap.size + 1 + 1) #[.int .i64 x] W fun e W'=>e=.returned (.bool true)∧∃o,(⟨o,p.l ++ [x]⟩:OwL Int).ok 1 Jp∧At2 w0 Lc G R (w0.heap.size + 1) Vne (Jic (Tryz.f170.body.getD .skip) fn sv w0.heap.size .ready) (⟨w0.heap.size,[(⟨o,p.l ++ [x]⟩:OwL Int).val],40⟩ :: ((⟨o,p.l ++ [x]⟩:OwL Int).L 3 Jp ++ Lf)) W':=by
  refine ⟨fn,Voc sv (.int .i64 x) w0.heap.size,(Jcf (Tryz.f170.body.getD .skip)),(Yud (Tryz.f170.body.getD .skip)),(by have:=run_yield (P:=Tryz.prog) (args:=#[.int .i64 x]) (r:=Y3b (Tryz.f170.body.getD .skip) fn sv w0.heap.size .ready) h.lp rfl;simpa [Y3b,Voc] using this),roundIn_of_wpIn trivial ?_⟩
  refine At2.round hh Jxb Jea h (t:=fun k=>(Voc sv (.int .i64 x) w0.heap.size).getD k undef) (Q:=fun e t L' R'=>e=.normal∧(t 5=.int .i64 x∧t 2=.pointer (some ⟨w0.heap.size,0,none⟩))∧L'=(⟨w0.heap.size,[p.val],40⟩ :: (p.L 3 Jp ++ Lf))∧R'=R) (Yae _ 13 rfl) (Vrf rfl) ?_ (fun _ _ _ h=>by cases h.1) ?_
  · refine Jx (Ud zeb) rfl ?_
    exact J6 ⟨rfl,⟨rfl,rfl⟩,rfl,rfl⟩
  rintro e a1 W1 t1 L1 R1 ⟨rfl,⟨ht5,ht2⟩,rfl,rfl⟩ hf1 h1
  refine ⟨_,run_beginRound h1.lp rfl,?_⟩
  have h2:=At2.put hh za Jea (Jea (cd:=(Tryz.f170.body.getD .skip)) (fn:=fn) (sv:=sv) (B:=w0.heap.size) (st:=.busy)) h1
  show (Code.block _ _).wpIn _ _ _ _ _ _
  refine wpIn_block ?_
  refine At2.round hh Jxb Jea h2 (Q:=fun e t L' R'=>e=.normal∧∃o,(⟨o,p.l ++ [x]⟩:OwL Int).ok 1 Jp∧(⟨w0.heap.size,[(⟨o,p.l ++ [x]⟩:OwL Int).val],40⟩ :: ((⟨o,p.l ++ [x]⟩:OwL Int).L 3 Jp ++ Lf)).Sublist L') hf1 (Vrf rfl) ?_ (fun _ _ _ h=>by cases h.1) ?_
  · refine Jx (K0 tb ht2 rfl rfl zf zb) rfl ?_
    refine Jx (Jy (v:=.int .i64 x) ht5) rfl ?_
    refine qcx ?_
    rintro v L' R' ⟨b88,rfl,rfl,hR88⟩
    replace hR88:=hR88.symm;subst hR88
    refine Y9 (J8 (f:=Jp) (a:=x) tb rfl rfl rfl rfl hok zj zsb rfl za) rfl ?_
    rintro v L' R' ⟨o,rfl,hok89,rfl,rfl⟩
    refine Voa (v:=Value.slice _ _ _) tb rfl ht2 rfl rfl zA rfl rfl zb ?_
    exact J6 ⟨rfl,o,hok89,List.sublist_cons_self _ _⟩
  rintro e a3 W3 t3 L3 R3 ⟨rfl,o,hok3,hsub⟩ hf3 h3
  have h4:At2 _ _ _ _ _ _ _ _ _:=⟨h3.st.weak hsub zqb,h3.df,h3.lp⟩
  exact ⟨_,_,run_endRound none h4.lp,rfl,o,hok3,At2.put hh za Jea Jea h4⟩
def Z1d (w:World) (b:Nat):Int:=match w.cell? ⟨b,0,none⟩ with
  | some (.int _ n)=>n
  | _=>-1
theorem Ycf {fn : FuncId} {sv : Value} {m : Nat} {f : XFeeder} {bs bf : Nat} {L : List Blk} (hsR : InR (Vhb f.switches) R) (hu : V2e f.switches.l) (hn : f.switches.l.length ≤ 1000) {cur : Int} (hc : cur < f.switches.l.length) {W : World} {p : OwL Int} (hk : p.ok 1 Jp) (hpl : p.l = [])
    (h:At2 w0 Lc G R (w0.heap.size + 1) Vne (Jic (Tryz.f170.body.getD .skip) fn sv w0.heap.size .ready) (⟨w0.heap.size,[p.val],40⟩ :: (p.L 3 Jp ++ (⟨bs,[.int .i64 cur],3⟩ :: ⟨bf,f.cells,42⟩ :: L))) W):
    CallsIn Fence.wide m Tryz.prog 171 #[.func (.yield (w0.heap.size + 1 + 1)) #[] #[],.pointer (some ⟨bs,0,none⟩),.pointer (some ⟨bf,0,none⟩)] W fun e W'=>(∃v,e=.returned v)∧∃(q:OwL Int) (c':Int),q.ok 1 Jp∧q.l=Yra f.switches.l cur∧
      At2 w0 Lc G R (w0.heap.size + 1) Vne (Jic (Tryz.f170.body.getD .skip) fn sv w0.heap.size .ready) (⟨w0.heap.size,[q.val],40⟩ :: (q.L 3 Jp ++ (⟨bs,[.int .i64 c'],3⟩ :: ⟨bf,f.cells,42⟩ :: L))) W':=by
  refine callsIn_of_wp Tryz.func171 rfl trivial ?_ rfl
  simp only [Tryz.ntmps171,List.size_toArray,List.length_cons,List.length_nil,Nat.reduceAdd,Nat.reduceSub,Array.replicate_succ,Array.replicate_zero,List.push_toArray,List.append_toArray,List.nil_append,List.cons_append]
  refine wpIn_block ?_
  refine wpIn_loop (fun a w=>∃(t:Nat→Value) (q:OwL Int) (c':Int),Fr 16 t a∧(t 0=.func (.yield (w0.heap.size + 1 + 1)) #[] #[]∧t 1=.pointer (some ⟨bs,0,none⟩)∧t 2=.pointer (some ⟨bf,0,none⟩))∧q.ok 1 Jp∧(-1≤c'∨True)∧c' < f.switches.l.length∧Yra f.switches.l cur=q.l ++ Yra f.switches.l c'∧
      At2 w0 Lc G R (w0.heap.size + 1) Vne (Jic (Tryz.f170.body.getD .skip) fn sv w0.heap.size .ready) (⟨w0.heap.size,[q.val],40⟩ :: (q.L 3 Jp ++ (⟨bs,[.int .i64 c'],3⟩ :: ⟨bf,f.cells,42⟩ :: L))) w) (fun _ w=>(Z1d w bs + 1).toNat) ?_ ?_
  · exact ⟨_,p,cur,Yae _ 16 rfl,⟨rfl,rfl,rfl⟩,hk,.inr trivial,hc,by rw [hpl];rfl,h⟩
  rintro a w ⟨t,q,c',hf,⟨t0,t1,t2⟩,hk,_,hc',hp,h⟩
  have hnum:Z1d w bs=c':=by
    have:=Jza (b:=bs) (cs:=[.int .i64 c']) (T:=3) h.st (List.mem_cons_of_mem _ (List.mem_append_right _ List.mem_cons_self)) 0
    rw [Z1d,this];rfl
  refine wpIn_seq (wpIn_seq ?_)
  refine At2.plain hh Jxb Jea h (Q:=fun e t' L' R'=>e=.normal∧((t' 0=.func (.yield (w0.heap.size + 1 + 1)) #[] #[]∧t' 1=.pointer (some ⟨bs,0,none⟩)∧t' 2=.pointer (some ⟨bf,0,none⟩))∧t' 5=.bool (decide (0≤c')))∧(⟨w0.heap.size,[q.val],40⟩ :: (q.L 3 Jp ++ (⟨bs,[.int .i64 c'],3⟩ :: ⟨bf,f.cells,42⟩ :: L)))=L') hf ?_ ?_
  · refine Jh ?_
    refine Jx (K0 tb t1 rfl rfl zf zb) rfl ?_
    refine qbz ?_
    exact J6 ⟨rfl,⟨⟨t0,t1,t2⟩,rfl⟩,rfl⟩
  rintro e a1 w1 t' L1 R1 ⟨rfl,⟨⟨t0,t1,t2⟩,t5⟩,rfl⟩ hf1 h1
  refine wpIn_cond (t:=decide (0≤c')) (by rw [hf1.eval];exact t5) ?_
  by_cases h0:0≤c'
  · rw [decide_eq_true h0, if_pos rfl]
    refine wpIn_skip ?_
    refine wpIn_seq (wpIn_block (wpIn_seq ?_))
    refine wpIn_region_lit ?_
    refine V8f hf1 h1.st (Jy (v:=.func (.yield (w0.heap.size + 1 + 1)) #[] #[]) t0) rfl fun a2 hf2=>?_
    refine V8f hf2 h1.st (K0 tb t1 rfl rfl zf zb) rfl fun a3 hf3=>?_
    have hpl2:q.l.length≤1000000:=by
      have:=Ulc hu _ cur hc (Nat.le_refl _)
      rw [hp,List.length_append] at this
      omega
    refine Kfe (v:=.int .i64 c') hf3 rfl rfl rfl (K1e hh hk hpl2 c' h1) fun a4 w4 hf4 ⟨o,hok4,h4⟩=>?_
    refine V8f hf4 h4.st (Jnb rfl) rfl fun a5 hf5=>?_
    show Exit.then _ _ Exit.normal _ _
    refine wpIn_cond (t:=false) (by rw [hf5.eval];rfl) ?_
    rw [if_neg zo]
    refine wpIn_skip ?_
    have hg:=Jw (l:=f.switches.l) (k:=c'.toNat) default za
    have ha:=hu c'.toNat za
    refine At2.plain hh Jxb Jea h4 (Q:=fun e t' L' R'=>e=.normal∧(t' 0=.func (.yield (w0.heap.size + 1 + 1)) #[] #[]∧t' 1=.pointer (some ⟨bs,0,none⟩)∧t' 2=.pointer (some ⟨bf,0,none⟩))∧
      ⟨w0.heap.size,[(⟨o,q.l ++ [c']⟩:OwL Int).val],40⟩ :: ((⟨o,q.l ++ [c']⟩:OwL Int).L 3 Jp ++ (⟨bs,[.int .i64 (f.switches.l.getD c'.toNat default).above],3⟩ :: ⟨bf,f.cells,42⟩ :: L))=L') hf5 ?_ ?_
    · refine Jh ?_
      refine Jx (U6 tb rfl (show _=Value.pointer (some ⟨bf,0,none⟩) from t2) rfl) rfl ?_
      refine qac ?_
      refine Jx (K0 tb (show _=Value.pointer (some ⟨bs,0,none⟩) from t1) rfl rfl zf zb) rfl ?_
      refine Jx (Jf tb rfl rfl rfl rfl hsR (i:=c'.toNat) za za) rfl ?_
      refine qb0 ?_
      refine Jx (Z3 tb rfl rfl rfl hsR hg rfl) rfl ?_
      refine Voa (v:=Value.int _ _) tb rfl (show _=Value.pointer (some ⟨bs,0,none⟩) from t1) rfl rfl zA rfl rfl zb ?_
      exact J6 ⟨rfl,⟨t0,t1,t2⟩,rfl⟩
    rintro e a6 w6 t6 L6 R6 ⟨rfl,ht6,rfl⟩ hf6 h6
    have hnum6:Z1d w6 bs=(f.switches.l.getD c'.toNat default).above:=by
      have:=Jza (b:=bs) (cs:=[.int .i64 (f.switches.l.getD c'.toNat default).above]) (T:=3) h6.st (List.mem_cons_of_mem _ (List.mem_append_right _ List.mem_cons_self)) 0
      rw [Z1d,this];rfl
    refine ⟨⟨t6,⟨o,q.l ++ [c']⟩,_,hf6,ht6,hok4,.inr trivial,by omega,?_,h6⟩,?_⟩
    · rw [hp,Ypa hu h0 hc',List.append_assoc];rfl
    · rw [hnum,hnum6];omega
  · rw [decide_eq_false h0, if_neg zo]
    refine wpIn_exit ?_
    simp only [Exit.then,Exit.inBlock,if_true]
    refine ⟨hf1.defers,_,results_none rfl _ _ _,⟨_,rfl⟩,q,c',hk,?_,h1⟩
    rw [hp,V9a za,List.append_nil]
end
set_option maxHeartbeats 1000000 in
theorem Jcc (f:XFeeder) (s:Int) (bs bf:Nat) (L:List Blk) (R:List Sl) (hsR:InR (Vhb f.switches) R) (hu:V2e f.switches.l) (hn:f.switches.l.length≤1000) (hc:s < f.switches.l.length):
    Tri Tryz.prog 170 [.slice none 0 0, .func (.func 171) #[] #[.pointer (some ⟨bs, 0, none⟩), .pointer (some ⟨bf, 0, none⟩)]].toArray (⟨bs, [.int .i64 s], 3⟩ :: ⟨bf, f.cells, 42⟩ :: L) R
      (fun v L' R'=>∃(q:OwL Int) (c':Int),v=q.val∧q.ok 1 Jp∧q.l=Yra f.switches.l s∧q.L 3 Jp ++ (⟨bs,[.int .i64 c'],3⟩ :: ⟨bf,f.cells,42⟩ :: L)=L'∧R=R'):=by
  refine Tri.raw Tryz.call170 fun w G hh=>(callsIn_wide (n:=5)).1 ?_
  refine callsIn_of_wp_marks Tryz.func170 rfl trivial ?_ rfl
  simp only [Tryz.ntmps170,List.size_toArray,List.length_cons,List.length_nil,Nat.reduceAdd,Nat.reduceSub,Array.replicate_succ,Array.replicate_zero,List.push_toArray,List.append_toArray,List.nil_append,List.cons_append]
  gi_wp2
  refine wpIn_rangeFunc ?_
  intro fn hfn
  obtain ⟨sv,hsv⟩:∃sv:Value,sv=.func (.func 171) #[] #[.pointer (some ⟨bs,0,none⟩),.pointer (some ⟨bf,0,none⟩)]:=⟨_,rfl⟩
  obtain ⟨W0,hW0⟩:∃W0,w.alloc (.cells #[.slice none 0 0] 40)=W0:=⟨_,rfl⟩
  have hs0:W0.heap.size=w.heap.size + 1:=by rw [← hW0];simp
  have st0:St ⟨w,inL (⟨bs,[.int .i64 s],3⟩ :: ⟨bf,f.cells,42⟩ :: L),G⟩ (⟨w.heap.size,[.slice none 0 0],40⟩ :: ⟨bs,[.int .i64 s],3⟩ :: ⟨bf,f.cells,42⟩ :: L) R W0:=by rw [← hW0];exact (St.init hh).alloc #[.slice none 0 0] 40
  rw [hW0]
  obtain ⟨W1,hW1⟩:∃W1,(W0.alloc Vne).alloc (Jic (Tryz.f170.body.getD .skip) fn sv w.heap.size .ready)=W1:=⟨_,rfl⟩
  have hA:At2 w (⟨bs,[.int .i64 s],3⟩ :: ⟨bf,f.cells,42⟩ :: L) G R (w.heap.size + 1) Vne (Jic (Tryz.f170.body.getD .skip) fn sv w.heap.size .ready) (⟨w.heap.size,[(OwL.nil:OwL Int).val],40⟩ :: ((OwL.nil:OwL Int).L 3 Jp ++ (⟨bs,[.int .i64 s],3⟩ :: ⟨bf,f.cells,42⟩ :: L))) W1:=by
    rw [← hW1]
    refine ⟨(by rw [Kh,List.nil_append];exact (st0.allocO Jxb).allocO Jea),?_,?_⟩
    · rw [← hs0]
      exact (Use _ _ _ zo).trans (World.alloc_heap_new W0 _)
    · have := World.alloc_heap_new (W0.alloc Vne) (Jic (Tryz.f170.body.getD .skip) fn sv w.heap.size .ready)
      rwa [World.size_alloc,hs0] at this
  refine ⟨w.heap.size + 1 + 1,[{ target:=.collected (w.heap.size + 1),args:=#[] }],W1,{ target:=.fn (.func 171) #[.pointer (some ⟨bs,0,none⟩),.pointer (some ⟨bf,0,none⟩)],args:=#[.func (.yield (w.heap.size + 1 + 1)) #[] #[]] },W1,171,
    #[.func (.yield (w.heap.size + 1 + 1)) #[] #[],.pointer (some ⟨bs,0,none⟩),.pointer (some ⟨bf,0,none⟩)],W1,?_,?_,fun _ _=>trivial,?_,fun h=>zF,?_⟩
  · have := run_enterLoop_outer (P := Tryz.prog) (w := W0) fn (Voc sv undef w.heap.size) #[7] (Jcf (Tryz.f170.body.getD .skip)) (Yud (Tryz.f170.body.getD .skip))
    rw [hs0] at this
    rw [← hW1,hsv]
    rw [hsv] at this
    exact this
  · simp [resolve,go_sem]
  · simp [invoke,go_sem,Tryz.call171]
  · refine (Ycf hh hsR hu hn hc OwL.nil_ok rfl hA).mono ?_
    rintro e W2 ⟨⟨v0,rfl⟩,q,c',hk,hq,h2⟩
    have hend:=run_endLoop (P:=Tryz.prog) h2.lp (by simp [Y3b])
    have h3:=At2.put hh za Jea (ol':=.loop { Y3b (Tryz.f170.body.getD .skip) fn sv w.heap.size .ready with state:=.exhausted }) ⟨fun c t f h=>zF,fun es ck h=>zF⟩ h2
    obtain ⟨W3,hW3⟩:∃W3,W2.putObj (w.heap.size + 1 + 1) (.loop { Y3b (Tryz.f170.body.getD .skip) fn sv w.heap.size .ready with state:=.exhausted })=W3:=⟨_,rfl⟩
    rw [hW3] at hend h3
    have hc3:W3.cell? ⟨w.heap.size,0,none⟩=some q.val:=Jza (b:=w.heap.size) (cs:=[q.val]) (T:=40) h3.st List.mem_cons_self 0
    have hd3:=h3.df
    have st3:=h3.st
    clear hW3 h3 h2 hA hW1 st0 hW0
    refine ⟨none,W3,hend,?_⟩
    gi_wp2
    have st4:=(st3.put hh hd3 Jxb (o':=.deferred none) ⟨fun c t f h=>zF,fun es ck h=>zF⟩ za).weak (List.sublist_cons_self _ _) zqb
    refine ⟨by simp,.inl ⟨_,_,rfl,run_takeDeferred hd3,?_⟩⟩
    exact ⟨_,results_tmp rfl _ _ _,q.val,_,_,rfl,⟨q,c',rfl,hk,hq,rfl,rfl⟩,st4⟩
end
section
attribute [local irreducible] CJ LJ DJ Tri YV Gives Ui J0 Ke Uh RV J2 OwL.L
end
section
attribute [local irreducible] CJ LJ DJ Tri YV Gives Ui J0 Ke Uh RV J2 OwL.L
section
variable {A9 B9:Prop}
theorem Kzf (a:A9) (h:A9→B9:=by exact Jx zkb rfl):B9:=h a
end
structure FeedOk (sw:List XSwitch) (zn:List Int) (rp:Int):Prop where
  sn:sw.length≤32
  zl:zn.length≤16
  up:V2e sw
  since:∀i:Nat,i < sw.length→0≤(sw.getD i default).since∧(sw.getD i default).since≤2147483648
  shown:∀i:Nat,i < sw.length→-1≤(sw.getD i default).shown∧(sw.getD i default).shown≤1
  zr:∀i:Nat,i < zn.length→0≤zn.getD i 0∧zn.getD i 0 < sw.length
  zd:∀i j:Nat,j < i→i < zn.length→zn.getD j 0≠zn.getD i 0
  rp:1≤rp∧rp≤100000
theorem J8b {β:Type} {f:Nat→Option β} {n:Nat} (h:(List.range n).findSome? f=none) {i:Nat} (hi:i < n):f i=none:=by
  rw [List.findSome?_eq_none_iff] at h
  exact h i (List.mem_range.2 hi)
theorem Jtd {l:List XSwitch} {i:Nat}:K0a l i≠some 0:=by
  rw [K0a]
  repeat' split
  all_goals (intro h;first | cases h | (injection h with h;omega))
theorem Vje {n:Nat} {l:List Int} {i:Nat}:Yza n l i≠some 0:=by
  rw [Yza]
  repeat' split
  all_goals (intro h;first | cases h | (injection h with h;omega))
theorem Jkc {f:Nat→Option Int} {n:Nat} {e:Int} (hf:∀i,f i≠some 0) (h:(List.range n).findSome? f=some e):e≠0:=by
  obtain ⟨i,_,hi⟩:=List.exists_of_findSome?_eq_some h
  rintro rfl
  exact hf _ hi
theorem Vy {sw:List XSwitch} {zn:List Int} {rp:Int} (h:feedE sw zn rp=0):FeedOk sw zn rp:=by
  by_cases h0:32 < sw.length∨16 < zn.length
  · rw [feedE,if_pos h0] at h;omega
  cases h1:(List.range sw.length).findSome? (K0a sw) with
  | some e=>rw [Zwa h0 h1] at h;exact absurd h (Jkc (fun _=>Jtd) h1)
  | none=>
    cases h2:(List.range zn.length).findSome? (Yza sw.length zn) with
    | some e=>rw [Jxc h0 h1 h2] at h;exact absurd h (Jkc (fun _=>Vje) h2)
    | none=>
      rw [Ulb h0 h1 h2] at h
      have hs:∀i:Nat,i < sw.length→(-1≤(sw.getD i default).above∧(sw.getD i default).above < i)∧(0≤(sw.getD i default).since∧(sw.getD i default).since≤2147483648)∧(-1≤(sw.getD i default).shown∧(sw.getD i default).shown≤1):=fun i hi=>by
        have:=J8b h1 hi
        rw [K0a] at this
        split at this
        · cases this
        split at this
        · cases this
        split at this
        · cases this
        rename_i k1 k2 k3
        rw [not_or] at k3
        omega
      have hz:∀i:Nat,i < zn.length→(0≤zn.getD i 0∧zn.getD i 0 < sw.length)∧∀j:Nat,j < i→zn.getD j 0≠zn.getD i 0:=fun i hi=>by
        have:=J8b h2 hi
        rw [Yza] at this
        split at this
        · cases this
        split at this
        · cases this
        rename_i k1 k2
        exact ⟨by omega,fun j hj hh=>k2 ⟨j,hj,hh⟩⟩
      refine ⟨by omega,by omega,fun i hi=>(hs i hi).1,fun i hi=>(hs i hi).2.1,fun i hi=>(hs i hi).2.2,fun i hi=>(hz i hi).1,fun i j hj hi=>(hz i hi).2 j hj,?_⟩
      by_cases hr:rp < 1∨100000 < rp
      · rw [if_pos hr] at h;omega
      · omega
def V1a (sw:List XSwitch) (zn:List Int) (rp:Int) (s:Int):List Int:=if feedE sw zn rp≠0∨s < 0∨(sw.length:Int)≤s then [] else Yra sw s
theorem Udd (f:XFeeder) (s:Int) (L:List Blk) (R:List Sl):
    Tri Tryz.prog 90 [f.val,.int .i64 s].toArray L R (fun v L' R'=>∃bs bf,v=.func (.func 171) #[] #[.pointer (some ⟨bs,0,none⟩),.pointer (some ⟨bf,0,none⟩)]∧(⟨bs,[.int .i64 s],3⟩ :: ⟨bf,f.cells,42⟩ :: L)=L'∧R=R'):=by
  refine Jg 6 Tryz.call90 Tryz.func90 rfl rfl rfl ?_
  refine Xag ?_
  intro b2
  refine Jpd (v:=Value.int _ _) rfl rfl rfl ?_
  intro b3
  refine Jx (Ud rfl) rfl ?_
  refine qam ?_
  refine Jx (Kec rfl) rfl ?_
  refine Jx (Ud rfl) rfl ?_
  refine qa0 ?_
  refine q_r (L':=⟨b3,[.int .i64 s],3⟩ :: ⟨b2,f.cells,42⟩ :: L) (R':=R) (Ya rfl (Je rfl)) ?_
  exact ⟨b3,b2,rfl,rfl,rfl⟩
theorem Zmc (f:XFeeder) (s:Int) (bs bf:Nat) (L:List Blk) (R:List Sl) (hsR:InR (Vhb f.switches) R) (hu:V2e f.switches.l) (hn:f.switches.l.length≤1000) (hc:s < f.switches.l.length):
    Tri Tryz.prog 89 [.func (.func 171) #[] #[.pointer (some ⟨bs, 0, none⟩), .pointer (some ⟨bf, 0, none⟩)]].toArray (⟨bs, [.int .i64 s], 3⟩ :: ⟨bf, f.cells, 42⟩ :: L) R
      (fun v L' R'=>∃(q:OwL Int) (c':Int),v=q.val∧q.ok 1 Jp∧q.l=Yra f.switches.l s∧q.L 3 Jp ++ (⟨bs,[.int .i64 c'],3⟩ :: ⟨bf,f.cells,42⟩ :: L)=L'∧R=R'):=by
  refine Jg 5 Tryz.call89 Tryz.func89 rfl rfl rfl ?_
  refine Xcw ?_
  refine qam ?_
  refine Jx zDb rfl ?_
  refine Js rfl (Jcc f s bs bf L R hsR hu hn hc) rfl ?_
  rintro v L' R' ⟨q,c',rfl,hk,hq,rfl,rfl⟩
  refine Xcq ?_
  refine q_r (L':=q.L 3 Jp ++ (⟨bs,[.int .i64 c'],3⟩ :: ⟨bf,f.cells,42⟩ :: L)) (R':=R) zSc ?_
  exact ⟨q,c',rfl,hk,hq,rfl,rfl⟩
theorem Jrc (f:XFeeder) (s:Int) (L:List Blk) (R:List Sl) (hf:FeederR f R):
    Tri Tryz.prog 26 [f.val,.int .i64 s].toArray L R (fun v L' R'=>∃q:OwL Int,v=q.val∧q.ok 1 Jp∧q.l=V1a f.switches.l f.zones.l f.reply s∧q.L 3 Jp ++ L=L'∧R=R'):=by
  refine Jg 23 Tryz.call26 Tryz.func26 rfl rfl rfl ?_
  refine Xag ?_
  intro b2
  refine Xb9 ?_
  refine Kzf ?_
  refine q_l rfl (Vu f _ _ hf) ?_
  refine Xbx ?_
  apply J9 (G:=[_,_]) (j:=3) (cj:=8) rfl rfl zb rfl zdb rfl
  ·
   intro hg4
   replace hg4:=qb hg4
   refine qaa ?_
   exact zyd
  intro junk4
  refine qah ?_
  apply J9 (G:=[_,_,_,_,_]) (j:=7) (cj:=12) rfl rfl zb rfl zdb rfl
  ·
   intro hg8
   replace hg8:=qb hg8
   refine qaa ?_
   refine Xac ?_
   exact zid
  intro junk8
  refine qaf ?_
  refine q_c (fun hc0=>?_) (fun hc0=>?_)
  ·
   refine Xcw ?_
   refine qbh ?_
   refine q_r (L':=L) (R':=R) zSc ?_
   exact ⟨.nil,rfl,OwL.nil_ok,by rw [V1a,if_pos za],by rw [Kh];rfl,rfl⟩
  have hok:=Vy (sw:=f.switches.l) (zn:=f.zones.l) (rp:=f.reply) za
  have hsn:=hok.sn
  refine qbv ?_
  refine Kzf ?_
  refine qaa ?_
  refine Js rfl (Udd f s _ _) rfl ?_
  rintro v L' R' ⟨bs,bf,rfl,rfl,rfl⟩
  refine Js rfl (Zmc f s bs bf _ _ hf.sw hok.up za za) rfl ?_
  rintro v L' R' ⟨q,c',rfl,hk,hq,rfl,rfl⟩
  refine Xcq ?_
  refine q_r (L':=q.L 3 Jp ++ L) (R':=R) zSc ?_
  exact ⟨q,rfl,hk,by rw [V1a,if_neg za];exact hq,rfl,rfl⟩
end
section
inductive KC where
  | i
  | b
def KC.fits : KC → Value → Prop
  | .i,.int .i64 _=>True
  | .b,.bool _=>True
  | _,_=>False
def U7a : List KC → List Value → Prop
  | [],[]=>True
  | k :: ks,v :: vs=>k.fits v∧U7a ks vs
  | _,_=>False
def V2d : Value → Value → Bool
  | .int _ a,.int _ b=>decide (a=b)
  | .bool a,.bool b=>decide (a=b)
  | _,_=>false
def V3 : List Value → List Value → Bool
  | a :: l,b :: m=>V2d a b && V3 l m
  | _,_=>true
theorem Vpc : ∀ {ks : List KC} {l : List Value}, U7a ks l → l.length = ks.length
  | [],[],_=>rfl
  | [],_ :: _,h=>h.elim
  | _ :: _,[],h=>h.elim
  | k :: ks,v :: vs,h=>by simp [Vpc h.2]
theorem Zoa : ∀ {ks ms : List KC} {l : List Value}, U7a (ks ++ ms) l → U7a ks (l.take ks.length) ∧ U7a ms (l.drop ks.length)
  | [],ms,l,h=>⟨by simp [U7a],by simpa using h⟩
  | k :: ks,ms,[],h=>h.elim
  | k :: ks,ms,v :: vs,h=>by
    have:=Zoa (ks:=ks) (ms:=ms) (l:=vs) h.2
    exact ⟨⟨h.1,this.1⟩,this.2⟩
theorem Job : ∀ (n : Nat) (l m : List Value), V3 l m = (V3 (l.take n) (m.take n) && V3 (l.drop n) (m.drop n))
  | 0,l,m=>by simp [V3]
  | n + 1,[],m=>by simp [V3]
  | n + 1,a :: l,[]=>by simp [V3]
  | n + 1,a :: l,b :: m=>by
    simp only [List.take_succ_cons,List.drop_succ_cons,V3]
    rw [Job n l m,Bool.and_assoc]
section
variable {P:Program}
def FE (P:Program) (d:Nat) (I:TypeId) (ks:List KC):Prop:=
  ∀(xs ys:List Value) (off:Nat) (w:World),U7a ks ((xs.drop off).take ks.length)→U7a ks ((ys.drop off).take ks.length)→
    ∃a b,(part I xs.toArray off).run P w=.ok a w∧(part I ys.toArray off).run P w=.ok b w∧(Op.equalIn d I a b).run P w=.ok (V3 ((xs.drop off).take ks.length) ((ys.drop off).take ks.length)) w
theorem Kgd {I:TypeId} {xs:List Value} {off:Nat} {v:Value} {w:World} (hag:(isAgg I).run P w=.ok false w) (h:(xs.drop off).take 1=[v]):(part I xs.toArray off).run P w=.ok v w:=by
  have hv:xs[off]?=some v:=by
    have:((xs.drop off).take 1)[0]?=some v:=by rw [h];rfl
    rw [List.getElem?_take] at this
    simpa using this
  simp only [part,Sem.run_bind,hag,Result.andThen_ok]
  simp [hv]
theorem V5e {l:List Value} {k:KC} (h:U7a [k] l):∃v,l=[v]∧k.fits v:=by
  match l,h with
  | [v],h=>exact ⟨v,rfl,h.1⟩
theorem K5f {d:Nat} {I:TypeId} (h:P.underlying I=some (.int .i64)):FE P (d + 1) I [.i]:=by
  intro xs ys off w hx hy
  have hag:(isAgg I).run P w=.ok false w:=by simp [isAgg,run_underlying h]
  obtain ⟨u,hu,fu⟩:=V5e hx
  obtain ⟨v,hv,fv⟩:=V5e hy
  refine ⟨u,v,Kgd hag hu,Kgd hag hv,?_⟩
  have hu':(xs.drop off).take [KC.i].length=[u]:=hu
  have hv':(ys.drop off).take [KC.i].length=[v]:=hv
  rw [hu',hv']
  match u,v,fu,fv with
  | .int .i64 a,.int .i64 b,_,_=>
    rw [run_equalIn_int (P:=P) w d I .i64 .i64 a b h,Ksc]
    simp [V3,V2d]
def Yvc : Nat → List (TypeId × List KC) → List (Bool × TypeId × Nat)
  | _,[]=>[]
  | o,(I,ks) :: l=>(false,I,o) :: Yvc (o + ks.length) l
theorem Zkb {d : Nat} : ∀ (pl : List (TypeId × List KC)) (fs : List Field) (xs ys : List Value) (off : Nat) (w : World), fs.map (fun f => (f.name == "_", f.type, f.offset)) = Yvc off pl → (∀ p ∈ pl, FE P d p.1 p.2) →
    U7a (pl.flatMap (·.2)) (xs.drop off)→U7a (pl.flatMap (·.2)) (ys.drop off)→(Op.eqFields d xs.toArray ys.toArray fs).run P w=.ok (V3 (xs.drop off) (ys.drop off)) w
  | [],fs,xs,ys,off,w,hm,_,hx,hy=>by
    have:fs=[]:=by simpa [Yvc] using hm
    subst this
    have h1:=Vpc hx
    have h2:xs.drop off=[]:=List.eq_nil_of_length_eq_zero zda
    rw [h2]
    simp [Op.eqFields,V3]
  | (I,ks) :: pl,[],xs,ys,off,w,hm,_,_,_=>by simp [Yvc] at hm
  | (I,ks) :: pl,f :: fs,xs,ys,off,w,hm,hp,hx,hy=>by
    simp only [List.map_cons,Yvc,List.cons.injEq,Prod.mk.injEq] at hm
    obtain ⟨⟨f1,f2,f3⟩,hm⟩:=hm
    have nf : f.name ≠ "_" := by simpa using f1
    rw [List.flatMap_cons] at hx hy
    obtain ⟨x1,x2⟩:=Zoa hx
    obtain ⟨y1,y2⟩:=Zoa hy
    obtain ⟨a,b,ha,hb,hab⟩:=hp (I,ks) List.mem_cons_self xs ys off w x1 y1
    have ih:=Zkb pl fs xs ys (off + ks.length) w hm (fun p h=>hp p (List.mem_cons_of_mem _ h)) (by rw [← List.drop_drop];exact x2) (by rw [← List.drop_drop];exact y2)
    simp only [Op.eqFields,if_pos nf,f2,f3,Sem.run_bind,ha,hb,hab,Result.andThen_ok,Sem.run_ite,Sem.run_pure]
    rw [Job ks.length (xs.drop off) (ys.drop off),List.drop_drop,List.drop_drop]
    cases hc:V3 ((xs.drop off).take ks.length) ((ys.drop off).take ks.length) with
    | false=>simp
    | true=>simpa using ih
theorem Jpe {d : Nat} {T : TypeId} {pl : List (TypeId × List KC)} (h1 : P.underlying T = some (.struct (P.fieldsOf T))) (h2 : P.stoodInHeld T = false) (h4 : (P.fieldsOf T).toList.map (fun f => (f.name == "_", f.type, f.offset)) = Yvc 0 pl) (hp : ∀ p ∈ pl, FE P d p.1 p.2)
    {xs ys:List Value} {w:World} (hx:U7a (pl.flatMap (·.2)) xs) (hy:U7a (pl.flatMap (·.2)) ys):(Op.equalIn (d + 1) T (.agg xs.toArray) (.agg ys.toArray)).run P w=.ok (V3 xs ys) w:=by
  rw [run_equalIn_agg w d T _ _ h1 h2]
  exact Zkb pl _ xs ys 0 w h4 hp hx hy
structure StrEq (P:Program) (T:TypeId) (ks:List KC):Prop where
  eq:∀(xs ys:List Value) (w:World),U7a ks xs→U7a ks ys→(Op.equalIn 10000 T (.agg xs.toArray) (.agg ys.toArray)).run P w=.ok (V3 xs ys) w
  guard:P.eqGuardType P.depth T=false
theorem Uwe {T : TypeId} (pl : List (TypeId × List KC)) {ks : List KC} (h1 : P.underlying T = some (.struct (P.fieldsOf T))) (h2 : P.stoodInHeld T = false) (h3 : P.eqGuardType P.depth T = false) (h4 : (P.fieldsOf T).toList.map (fun f => (f.name == "_", f.type, f.offset)) = Yvc 0 pl) (hk : pl.flatMap (·.2) = ks) (hp : ∀ p ∈ pl, FE P 9999 p.1 p.2) : StrEq P T ks :=
  ⟨fun xs ys w hx hy=>Jpe h1 h2 h4 hp (by rw [hk];exact hx) (by rw [hk];exact hy),h3⟩
end
section
variable {P:Program} {ρ:Operand→Value} {L:List Blk} {R:List Sl} {dst:Option Tmp} {ty:TypeId} {pos:String} {after:Array Edge} {guard:Option (Nat×Bool)} {T T2:TypeId} {x y:Operand} {ks:List KC} {xs ys:List Value}
theorem U5d (hT:StrEq P T ks) (hx:ρ x=.agg xs.toArray) (hy:ρ y=.agg ys.toArray) (fx:U7a ks xs) (fy:U7a ks ys) {b:Bool} (hb:V3 xs ys=b):YV P ⟨dst,.binOp .eql T x y T2,ty,pos,after,guard⟩ ρ L R (.bool b):=fun _ w _=>by
  have h1:=run_eqGuard_agg (P:=P) w .eql T x y xs.toArray ys.toArray hT.guard
  simp only [execOp,hx,hy,Sem.run_bind,h1,Result.andThen_ok,run_eql_struct,hT.eq xs ys _ fx fy,hb]
  simp
theorem Vrd (hT:StrEq P T ks) (hx:ρ x=.agg xs.toArray) (hy:ρ y=.agg ys.toArray) (fx:U7a ks xs) (fy:U7a ks ys) {b:Bool} (hb:V3 xs ys=b):YV P ⟨dst,.binOp .neq T x y T2,ty,pos,after,guard⟩ ρ L R (.bool (!b)):=fun _ w _=>by
  have h1:=run_eqGuard_agg (P:=P) w .neq T x y xs.toArray ys.toArray hT.guard
  simp only [execOp,hx,hy,Sem.run_bind,h1,Result.andThen_ok,run_neq_struct,hT.eq xs ys _ fx fy,hb]
  simp
end
end
end Go.Proofs.YtchfclmokpbldaaGreat
