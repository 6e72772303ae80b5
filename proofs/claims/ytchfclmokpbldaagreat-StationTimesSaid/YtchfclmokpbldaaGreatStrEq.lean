import Derived.Test.YtchfclmokpbldaaGreatRoundA
import Derived.OwnWalkIn
import Derived.LoopNIn
import Derived.Test.YtchfclmokpbldaaGreatFits
import Derived.Test.YtchfclmokpbldaaGreatSiteD
import Derived.Laws.StructEq
import Derived.Test.YtchfclmokpbldaaGreatDraws
set_option linter.unusedVariables false
set_option linter.unusedSimpArgs false
section
/-
  The library's slices.Collect over the iterator of power networks. By an AI agent; no person has read it.
-/
namespace Go.Proofs.YtchfclmokpbldaaGreat
open Go.Aw Go
set_option maxRecDepth 20000
attribute [local irreducible] CJ LJ DJ Tri YV Gives Jcj Ja1 Jbg Jci RV Ja2 OwL.L
def upF (sw : List XSwitch) : Nat → Int → List Int
  | 0,_=>[]
  | n + 1,s=>if s < 0 then [] else s :: upF sw n (sw.getD s.toNat default).above
def Jkh (sw:List XSwitch) (s:Int):List Int:=upF sw (s + 1).toNat s
def J6z (sw:List XSwitch):Prop:=∀i:Nat,i < sw.length→-1≤(sw.getD i default).above∧(sw.getD i default).above < i
theorem J53 {sw:List XSwitch} (h:J6z sw):∀(n:Nat) (s:Int),s < sw.length→(s + 1).toNat≤n→upF sw n s=Jkh sw s:=by
  intro n
  induction n using Nat.strongRecOn with
  | _ n ih=>
    intro s hs hn
    by_cases h0:s < 0
    · rw [Jkh, show (s + 1).toNat = 0 by omega]
      cases n with
      | zero=>rfl
      | succ n=>show (if s < 0 then [] else _)=([]:List Int);rw [if_pos h0]
    · obtain ⟨k, rfl⟩ : ∃ k, n = k + 1 := ⟨n - 1, by omega⟩
      have ha:=h s.toNat za
      rw [Jkh,show (s + 1).toNat=s.toNat + 1 by omega,upF,upF,if_neg za,if_neg za,ih k za _ za za,ih s.toNat za _ za za]
theorem Jjr {sw:List XSwitch} {s:Int} (h:s < 0):Jkh sw s=[]:=by rw [Jkh,show (s + 1).toNat=0 by omega];rfl
theorem Jj2 {sw:List XSwitch} (h:J6z sw) {s:Int} (h0:0≤s) (h1:s < sw.length):Jkh sw s=s :: Jkh sw (sw.getD s.toNat default).above:=by
  have ha:=h s.toNat za
  rw [Jkh,show (s + 1).toNat=s.toNat + 1 by omega,upF,if_neg za,J53 h _ _ za za]
theorem Jvl {sw:List XSwitch} (h:J6z sw):∀(n:Nat) (s:Int),s < sw.length→(s + 1).toNat≤n→(Jkh sw s).length≤n:=by
  intro n
  induction n with
  | zero=>intro s _ hn;rw [Jjr za];exact Nat.le_refl _
  | succ n ih=>
    intro s hs hn
    by_cases h0:s < 0
    · rw [Jjr h0];simp
    · have ha := h s.toNat za
      rw [Jj2 h za hs,List.length_cons]
      have:=ih (sw.getD s.toNat default).above za za
      omega
def J7x (c:Code):Code:=match c with
  | .seq _ (.seq (.seq _ (.block _ (.rangeFunc _ _ x _))) _)=>x
  | _=>.skip
def J3d (c:Code):Code:=match c with
  | .seq _ (.seq (.seq _ (.block _ (.rangeFunc _ _ _ x))) _)=>x
  | _=>.skip
def Jt3 (sv x:Value) (B:Nat):Array Value:=#[.slice none 0 0,sv,.pointer (some ⟨B,0,none⟩),undef,.slice none 0 0,undef,sv,x,undef,undef,undef,undef,undef]
def Jq5 (cd:Code) (fn:FuncId) (sv:Value) (B:Nat) (st:LoopState):Loop:={ state:=st,pending:=none,fn,tmps:=Jt3 sv undef B,params:=#[7],assign:=J7x cd,body:=J3d cd,defers:=B + 1 }
def Jr4 (cd:Code) (fn:FuncId) (sv:Value) (B:Nat) (st:LoopState):Obj:=.loop (Jq5 cd fn sv B st)
theorem Jfz {cd fn sv B st}:NoCells (Jr4 cd fn sv B st):=⟨fun c t f h=>zH,fun es ck h=>zH⟩
def J6k:Obj:=.deferred (some [])
theorem Jms:NoCells J6k:=⟨fun c t f h=>zH,fun es ck h=>zH⟩
theorem J67 (t:Array Value) (n:Nat) (h:t.size=n):Fr n (fun k=>t.getD k undef) { tmps:=t,defers:=[] }:=⟨rfl,h,fun _=>rfl⟩
def Kbx (o:Oper):Bool:=match o.op with
  | .defer _=>true
  | _=>false
theorem Kb2 {ops:List Oper} (h:ops.any Kbx=false):∀o∈ops,∀c,o.op≠.defer c:=fun o ho c e=>by
  have:=List.any_eq_false.1 h o ho
  rw [Kbx,e] at this
  exact this rfl
section
variable {w0:World} {Lc:List Blk} {G:Nat→Prop} {R:List Sl} (hh:Holds Lc G R w0)
include hh
theorem J6y {fn:FuncId} {sv:Value} {m:Nat} {Lf:List Blk} {p:OwL Int} (hok:p.ok 1 Jap) (hlen:p.l.length≤1000000) (x:Int) {W:World} (h:At2 w0 Lc G R (w0.heap.size + 1) J6k (Jr4 (Tryz.f170.body.getD .skip) fn sv w0.heap.size .ready) (⟨w0.heap.size,[p.val],40⟩ :: (p.L 3 Jap ++ Lf)) W):
    YieldAt Fence.wide m Tryz.prog (w0.heap.size + 1 + 1) #[.int .i64 x] W fun e W'=>e=.returned (.bool true)∧∃o,(⟨o,p.l ++ [x]⟩:OwL Int).ok 1 Jap∧At2 w0 Lc G R (w0.heap.size + 1) J6k (Jr4 (Tryz.f170.body.getD .skip) fn sv w0.heap.size .ready) (⟨w0.heap.size,[(⟨o,p.l ++ [x]⟩:OwL Int).val],40⟩ :: ((⟨o,p.l ++ [x]⟩:OwL Int).L 3 Jap ++ Lf)) W':=by
  refine ⟨fn,Jt3 sv (.int .i64 x) w0.heap.size,(J7x (Tryz.f170.body.getD .skip)),(J3d (Tryz.f170.body.getD .skip)),(by have:=run_yield (P:=Tryz.prog) (args:=#[.int .i64 x]) (r:=Jq5 (Tryz.f170.body.getD .skip) fn sv w0.heap.size .ready) h.lp rfl;simpa [Jq5,Jt3] using this),roundIn_of_wpIn trivial ?_⟩
  refine At2.round hh Jms Jfz h (t:=fun k=>(Jt3 sv (.int .i64 x) w0.heap.size).getD k undef) (Q:=fun e t L' R'=>e=.normal∧(t 5=.int .i64 x∧t 2=.pointer (some ⟨w0.heap.size,0,none⟩))∧L'=(⟨w0.heap.size,[p.val],40⟩ :: (p.L 3 Jap ++ Lf))∧R'=R) (J67 _ 13 rfl) (Kb2 rfl) ?_ (fun _ _ _ h=>by cases h.1) ?_
  · refine Jax (Jca (show _=Value.int _ _ from rfl)) rfl ?_
    exact Ja6 ⟨rfl,⟨rfl,rfl⟩,rfl,rfl⟩
  rintro e a1 W1 t1 L1 R1 ⟨rfl,⟨ht5,ht2⟩,rfl,rfl⟩ hf1 h1
  refine ⟨_,run_beginRound h1.lp rfl,?_⟩
  have h2:=At2.put hh za Jfz (Jfz (cd:=(Tryz.f170.body.getD .skip)) (fn:=fn) (sv:=sv) (B:=w0.heap.size) (st:=.busy)) h1
  show (Code.block _ _).wpIn _ _ _ _ _ _
  refine wpIn_block ?_
  refine At2.round hh Jms Jfz h2 (Q:=fun e t L' R'=>e=.normal∧∃o,(⟨o,p.l ++ [x]⟩:OwL Int).ok 1 Jap∧(⟨w0.heap.size,[(⟨o,p.l ++ [x]⟩:OwL Int).val],40⟩ :: ((⟨o,p.l ++ [x]⟩:OwL Int).L 3 Jap ++ Lf)).Sublist L') hf1 (Kb2 rfl) ?_ (fun _ _ _ h=>by cases h.1) ?_
  · refine Jax (Jbz tb ht2 rfl rfl zf zb) rfl ?_
    refine Jax (Jav (v:=.int .i64 x) ht5) rfl ?_
    refine qcx ?_
    rintro v L' R' ⟨b88,rfl,rfl,hR88⟩
    replace hR88:=hR88.symm;subst hR88
    refine Jgl (Ja9 (f:=Jap) (a:=x) tb rfl rfl rfl rfl hok zk (Jb0 zf rfl rfl) rfl za) rfl ?_
    rintro v L' R' ⟨o,rfl,hok89,rfl,rfl⟩
    refine Jjn (v:=Value.slice _ _ _) tb rfl ht2 rfl rfl zA rfl rfl zb ?_
    exact Ja6 ⟨rfl,o,hok89,List.sublist_cons_self _ _⟩
  rintro e a3 W3 t3 L3 R3 ⟨rfl,o,hok3,hsub⟩ hf3 h3
  have h4:At2 _ _ _ _ _ _ _ _ _:=⟨h3.st.weak hsub (Jac _),h3.df,h3.lp⟩
  exact ⟨_,_,run_endRound none h4.lp,rfl,o,hok3,At2.put hh za Jfz Jfz h4⟩
def J1d (w:World) (b:Nat):Int:=match w.cell? ⟨b,0,none⟩ with
  | some (.int _ n)=>n
  | _=>-1
theorem Kc7 {fn : FuncId} {sv : Value} {m : Nat} {f : XFeeder} {bs bf : Nat} {L : List Blk} (hsR : InR (Jpm f.switches) R) (hu : J6z f.switches.l) (hn : f.switches.l.length ≤ 1000) {cur : Int} (hc : cur < f.switches.l.length) {W : World} {p : OwL Int} (hk : p.ok 1 Jap) (hpl : p.l = [])
    (h:At2 w0 Lc G R (w0.heap.size + 1) J6k (Jr4 (Tryz.f170.body.getD .skip) fn sv w0.heap.size .ready) (⟨w0.heap.size,[p.val],40⟩ :: (p.L 3 Jap ++ (⟨bs,[.int .i64 cur],3⟩ :: ⟨bf,f.cells,42⟩ :: L))) W):
    CallsIn Fence.wide m Tryz.prog 171 #[.func (.yield (w0.heap.size + 1 + 1)) #[] #[],.pointer (some ⟨bs,0,none⟩),.pointer (some ⟨bf,0,none⟩)] W fun e W'=>(∃v,e=.returned v)∧∃(q:OwL Int) (c':Int),q.ok 1 Jap∧q.l=Jkh f.switches.l cur∧
      At2 w0 Lc G R (w0.heap.size + 1) J6k (Jr4 (Tryz.f170.body.getD .skip) fn sv w0.heap.size .ready) (⟨w0.heap.size,[q.val],40⟩ :: (q.L 3 Jap ++ (⟨bs,[.int .i64 c'],3⟩ :: ⟨bf,f.cells,42⟩ :: L))) W':=by
  refine callsIn_of_wp Tryz.func171 rfl trivial ?_ rfl
  simp only [Tryz.ntmps171,List.size_toArray,List.length_cons,List.length_nil,Nat.reduceAdd,Nat.reduceSub,Array.replicate_succ,Array.replicate_zero,List.push_toArray,List.append_toArray,List.nil_append,List.cons_append]
  refine wpIn_block ?_
  refine wpIn_loop (fun a w=>∃(t:Nat→Value) (q:OwL Int) (c':Int),Fr 16 t a∧(t 0=.func (.yield (w0.heap.size + 1 + 1)) #[] #[]∧t 1=.pointer (some ⟨bs,0,none⟩)∧t 2=.pointer (some ⟨bf,0,none⟩))∧q.ok 1 Jap∧(-1≤c'∨True)∧c' < f.switches.l.length∧Jkh f.switches.l cur=q.l ++ Jkh f.switches.l c'∧
      At2 w0 Lc G R (w0.heap.size + 1) J6k (Jr4 (Tryz.f170.body.getD .skip) fn sv w0.heap.size .ready) (⟨w0.heap.size,[q.val],40⟩ :: (q.L 3 Jap ++ (⟨bs,[.int .i64 c'],3⟩ :: ⟨bf,f.cells,42⟩ :: L))) w) (fun _ w=>(J1d w bs + 1).toNat) ?_ ?_
  · exact ⟨_,p,cur,J67 _ 16 rfl,⟨rfl,rfl,rfl⟩,hk,.inr trivial,hc,by rw [hpl];rfl,h⟩
  rintro a w ⟨t,q,c',hf,⟨t0,t1,t2⟩,hk,_,hc',hp,h⟩
  have hnum:J1d w bs=c':=by
    have:=Jgo (b:=bs) (cs:=[.int .i64 c']) (T:=3) h.st (List.mem_cons_of_mem _ (List.mem_append_right _ List.mem_cons_self)) 0
    rw [J1d,this];rfl
  refine wpIn_seq (wpIn_seq ?_)
  refine At2.plain hh Jms Jfz h (Q:=fun e t' L' R'=>e=.normal∧((t' 0=.func (.yield (w0.heap.size + 1 + 1)) #[] #[]∧t' 1=.pointer (some ⟨bs,0,none⟩)∧t' 2=.pointer (some ⟨bf,0,none⟩))∧t' 5=.bool (decide (0≤c')))∧(⟨w0.heap.size,[q.val],40⟩ :: (q.L 3 Jap ++ (⟨bs,[.int .i64 c'],3⟩ :: ⟨bf,f.cells,42⟩ :: L)))=L') hf ?_ ?_
  · refine Jah ?_
    refine Jax (Jbz tb t1 rfl rfl zf zb) rfl ?_
    refine qbz ?_
    exact Ja6 ⟨rfl,⟨⟨t0,t1,t2⟩,rfl⟩,rfl⟩
  rintro e a1 w1 t' L1 R1 ⟨rfl,⟨⟨t0,t1,t2⟩,t5⟩,rfl⟩ hf1 h1
  refine wpIn_cond (t:=decide (0≤c')) (by rw [hf1.eval];exact t5) ?_
  by_cases h0:0≤c'
  · rw [decide_eq_true h0, if_pos rfl]
    refine wpIn_skip ?_
    refine wpIn_seq (wpIn_block (wpIn_seq ?_))
    refine wpIn_region_lit ?_
    refine Kdf hf1 h1.st (Jav (v:=.func (.yield (w0.heap.size + 1 + 1)) #[] #[]) t0) rfl fun a2 hf2=>?_
    refine Kdf hf2 h1.st (Jbz tb t1 rfl rfl zf zb) rfl fun a3 hf3=>?_
    have hpl2:q.l.length≤1000000:=by
      have:=Jvl hu _ cur hc (Nat.le_refl _)
      rw [hp,List.length_append] at this
      omega
    refine J39 (v:=.int .i64 c') hf3 rfl rfl rfl (J6y hh hk hpl2 c' h1) fun a4 w4 hf4 ⟨o,hok4,h4⟩=>?_
    refine Kdf hf4 h4.st (Jnf rfl) rfl fun a5 hf5=>?_
    show Exit.then _ _ Exit.normal _ _
    refine wpIn_cond (t:=false) (by rw [hf5.eval];rfl) ?_
    rw [if_neg zo]
    refine wpIn_skip ?_
    have hg:=Jau (l:=f.switches.l) (k:=c'.toNat) default za
    have ha:=hu c'.toNat za
    refine At2.plain hh Jms Jfz h4 (Q:=fun e t' L' R'=>e=.normal∧(t' 0=.func (.yield (w0.heap.size + 1 + 1)) #[] #[]∧t' 1=.pointer (some ⟨bs,0,none⟩)∧t' 2=.pointer (some ⟨bf,0,none⟩))∧
      ⟨w0.heap.size,[(⟨o,q.l ++ [c']⟩:OwL Int).val],40⟩ :: ((⟨o,q.l ++ [c']⟩:OwL Int).L 3 Jap ++ (⟨bs,[.int .i64 (f.switches.l.getD c'.toNat default).above],3⟩ :: ⟨bf,f.cells,42⟩ :: L))=L') hf5 ?_ ?_
    · refine Jah ?_
      refine Jax (Jc5 tb rfl (show _=Value.pointer (some ⟨bf,0,none⟩) from t2) rfl) rfl ?_
      refine qac ?_
      refine Jax (Jbz tb (show _=Value.pointer (some ⟨bs,0,none⟩) from t1) rfl rfl zf zb) rfl ?_
      refine Jax (Jae tb rfl rfl rfl rfl hsR (i:=c'.toNat) za za) rfl ?_
      refine qb0 ?_
      refine Jax (Jfx tb rfl rfl rfl hsR hg rfl) rfl ?_
      refine Jjn (v:=Value.int _ _) tb rfl (show _=Value.pointer (some ⟨bs,0,none⟩) from t1) rfl rfl zA rfl rfl zb ?_
      exact Ja6 ⟨rfl,⟨t0,t1,t2⟩,rfl⟩
    rintro e a6 w6 t6 L6 R6 ⟨rfl,ht6,rfl⟩ hf6 h6
    have hnum6:J1d w6 bs=(f.switches.l.getD c'.toNat default).above:=by
      have:=Jgo (b:=bs) (cs:=[.int .i64 (f.switches.l.getD c'.toNat default).above]) (T:=3) h6.st (List.mem_cons_of_mem _ (List.mem_append_right _ List.mem_cons_self)) 0
      rw [J1d,this];rfl
    refine ⟨⟨t6,⟨o,q.l ++ [c']⟩,_,hf6,ht6,hok4,.inr trivial,by omega,?_,h6⟩,?_⟩
    · rw [hp,Jj2 hu h0 hc',List.append_assoc];rfl
    · rw [hnum,hnum6];omega
  · rw [decide_eq_false h0, if_neg zo]
    refine wpIn_exit ?_
    simp only [Exit.then,Exit.inBlock,if_true]
    refine ⟨hf1.defers,_,results_none rfl _ _ _,⟨_,rfl⟩,q,c',hk,?_,h1⟩
    rw [hp,Jjr za,List.append_nil]
end
set_option maxHeartbeats 1000000 in
theorem Jti (f:XFeeder) (s:Int) (bs bf:Nat) (L:List Blk) (R:List Sl) (hsR:InR (Jpm f.switches) R) (hu:J6z f.switches.l) (hn:f.switches.l.length≤1000) (hc:s < f.switches.l.length):
    Tri Tryz.prog 170 [.slice none 0 0, .func (.func 171) #[] #[.pointer (some ⟨bs, 0, none⟩), .pointer (some ⟨bf, 0, none⟩)]].toArray (⟨bs, [.int .i64 s], 3⟩ :: ⟨bf, f.cells, 42⟩ :: L) R
      (fun v L' R'=>∃(q:OwL Int) (c':Int),v=q.val∧q.ok 1 Jap∧q.l=Jkh f.switches.l s∧q.L 3 Jap ++ (⟨bs,[.int .i64 c'],3⟩ :: ⟨bf,f.cells,42⟩ :: L)=L'∧R=R'):=by
  refine Tri.raw Tryz.call170 fun w G hh=>(callsIn_wide (n:=5)).1 ?_
  refine callsIn_of_wp_marks Tryz.func170 rfl trivial ?_ rfl
  simp only [Tryz.ntmps170,List.size_toArray,List.length_cons,List.length_nil,Nat.reduceAdd,Nat.reduceSub,Array.replicate_succ,Array.replicate_zero,List.push_toArray,List.append_toArray,List.nil_append,List.cons_append]
  gi_wp2
  refine wpIn_rangeFunc ?_
  intro fn hfn
  obtain ⟨sv,hsv⟩:∃sv:Value,sv=.func (.func 171) #[] #[.pointer (some ⟨bs,0,none⟩),.pointer (some ⟨bf,0,none⟩)]:=⟨_,rfl⟩
  obtain ⟨W0,hW0⟩:∃W0,w.alloc (.cells #[.slice none 0 0] 40)=W0:=⟨_,rfl⟩
  have hs0:W0.heap.size=w.heap.size + 1:=by rw [← hW0];simp
  have st0:St ⟨w,inL (⟨bs,[.int .i64 s],3⟩ :: ⟨bf,f.cells,42⟩ :: L),G⟩ (⟨w.heap.size,[.slice none 0 0],40⟩ :: ⟨bs,[.int .i64 s],3⟩ :: ⟨bf,f.cells,42⟩ :: L) R W0:=by rw [← hW0];exact (St.init hh).alloc #[.slice none 0 0] 40
  rw [hW0]
  obtain ⟨W1,hW1⟩:∃W1,(W0.alloc J6k).alloc (Jr4 (Tryz.f170.body.getD .skip) fn sv w.heap.size .ready)=W1:=⟨_,rfl⟩
  have hA:At2 w (⟨bs,[.int .i64 s],3⟩ :: ⟨bf,f.cells,42⟩ :: L) G R (w.heap.size + 1) J6k (Jr4 (Tryz.f170.body.getD .skip) fn sv w.heap.size .ready) (⟨w.heap.size,[(OwL.nil:OwL Int).val],40⟩ :: ((OwL.nil:OwL Int).L 3 Jap ++ (⟨bs,[.int .i64 s],3⟩ :: ⟨bf,f.cells,42⟩ :: L))) W1:=by
    rw [← hW1]
    refine ⟨(by rw [Jbi,List.nil_append];exact (st0.allocO Jms).allocO Jfz),?_,?_⟩
    · rw [← hs0]
      exact (J37 _ _ _ zo).trans (World.alloc_heap_new W0 _)
    · have := World.alloc_heap_new (W0.alloc J6k) (Jr4 (Tryz.f170.body.getD .skip) fn sv w.heap.size .ready)
      rwa [World.size_alloc,hs0] at this
  refine ⟨w.heap.size + 1 + 1,[{ target:=.collected (w.heap.size + 1),args:=#[] }],W1,{ target:=.fn (.func 171) #[.pointer (some ⟨bs,0,none⟩),.pointer (some ⟨bf,0,none⟩)],args:=#[.func (.yield (w.heap.size + 1 + 1)) #[] #[]] },W1,171,
    #[.func (.yield (w.heap.size + 1 + 1)) #[] #[],.pointer (some ⟨bs,0,none⟩),.pointer (some ⟨bf,0,none⟩)],W1,?_,?_,fun _ _=>trivial,?_,fun h=>zH,?_⟩
  · have := run_enterLoop_outer (P := Tryz.prog) (w := W0) fn (Jt3 sv undef w.heap.size) #[7] (J7x (Tryz.f170.body.getD .skip)) (J3d (Tryz.f170.body.getD .skip))
    rw [hs0] at this
    rw [← hW1,hsv]
    rw [hsv] at this
    exact this
  · simp [resolve,go_sem]
  · simp [invoke,go_sem,Tryz.call171]
  · refine (Kc7 hh hsR hu hn hc OwL.nil_ok rfl hA).mono ?_
    rintro e W2 ⟨⟨v0,rfl⟩,q,c',hk,hq,h2⟩
    have hend:=run_endLoop (P:=Tryz.prog) h2.lp (by simp [Jq5])
    have h3:=At2.put hh za Jfz (ol':=.loop { Jq5 (Tryz.f170.body.getD .skip) fn sv w.heap.size .ready with state:=.exhausted }) ⟨fun c t f h=>zH,fun es ck h=>zH⟩ h2
    obtain ⟨W3,hW3⟩:∃W3,W2.putObj (w.heap.size + 1 + 1) (.loop { Jq5 (Tryz.f170.body.getD .skip) fn sv w.heap.size .ready with state:=.exhausted })=W3:=⟨_,rfl⟩
    rw [hW3] at hend h3
    have hc3:W3.cell? ⟨w.heap.size,0,none⟩=some q.val:=Jgo (b:=w.heap.size) (cs:=[q.val]) (T:=40) h3.st List.mem_cons_self 0
    have hd3:=h3.df
    have st3:=h3.st
    clear hW3 h3 h2 hA hW1 st0 hW0
    refine ⟨none,W3,hend,?_⟩
    gi_wp2
    have st4:=(st3.put hh hd3 Jms (o':=.deferred none) ⟨fun c t f h=>zH,fun es ck h=>zH⟩ za).weak (List.sublist_cons_self _ _) (Jac _)
    refine ⟨by simp,.inl ⟨_,_,rfl,run_takeDeferred hd3,?_⟩⟩
    exact ⟨_,results_tmp rfl _ _ _,q.val,_,_,rfl,⟨q,c',rfl,hk,hq,rfl,rfl⟩,st4⟩
end Go.Proofs.YtchfclmokpbldaaGreat
end
section
/-
  Power networks: the reference's check. By an AI agent; no person has read it.
-/
namespace Go.Proofs.YtchfclmokpbldaaGreat
open Go.Aw Go
set_option maxRecDepth 20000
attribute [local irreducible] CJ LJ DJ Tri YV Gives Jcj Ja1 Jbg Jci RV Ja2 OwL.L
end Go.Proofs.YtchfclmokpbldaaGreat
end
section
/-
  Power networks: a switch and those above it: feeder.Path and the reference's. By an AI agent; no person has read it.
-/
namespace Go.Proofs.YtchfclmokpbldaaGreat
open Go.Aw Go
set_option maxRecDepth 20000
attribute [local irreducible] CJ LJ DJ Tri YV Gives Jcj Ja1 Jbg Jci RV Ja2 OwL.L
section
variable {A9 B9:Prop}
theorem Kao (a:A9) (h:A9→B9:=by exact Jax (Jal (row:=[_,_,_]) tb rfl rfl rfl zf zb zb) rfl):B9:=h a
end
structure FeedOk (sw:List XSwitch) (zn:List Int) (rp:Int):Prop where
  sn:sw.length≤32
  zl:zn.length≤16
  up:J6z sw
  since:∀i:Nat,i < sw.length→0≤(sw.getD i default).since∧(sw.getD i default).since≤2147483648
  shown:∀i:Nat,i < sw.length→-1≤(sw.getD i default).shown∧(sw.getD i default).shown≤1
  zr:∀i:Nat,i < zn.length→0≤zn.getD i 0∧zn.getD i 0 < sw.length
  zd:∀i j:Nat,j < i→i < zn.length→zn.getD j 0≠zn.getD i 0
  rp:1≤rp∧rp≤100000
theorem Jmt {β:Type} {f:Nat→Option β} {n:Nat} (h:(List.range n).findSome? f=none) {i:Nat} (hi:i < n):f i=none:=by
  rw [List.findSome?_eq_none_iff] at h
  exact h i (List.mem_range.2 hi)
theorem Jzm {l:List XSwitch} {i:Nat}:Jhs l i≠some 0:=by
  rw [Jhs]
  repeat' split
  all_goals (intro h;first | cases h | (injection h with h;omega))
theorem J6p {n:Nat} {l:List Int} {i:Nat}:Jkc n l i≠some 0:=by
  rw [Jkc]
  repeat' split
  all_goals (intro h;first | cases h | (injection h with h;omega))
theorem Jsk {f:Nat→Option Int} {n:Nat} {e:Int} (hf:∀i,f i≠some 0) (h:(List.range n).findSome? f=some e):e≠0:=by
  obtain ⟨i,_,hi⟩:=List.exists_of_findSome?_eq_some h
  rintro rfl
  exact hf _ hi
theorem Jdt {sw:List XSwitch} {zn:List Int} {rp:Int} (h:feedE sw zn rp=0):FeedOk sw zn rp:=by
  by_cases h0:32 < sw.length∨16 < zn.length
  · rw [feedE,if_pos h0] at h;omega
  cases h1:(List.range sw.length).findSome? (Jhs sw) with
  | some e=>rw [Jly h0 h1] at h;exact absurd h (Jsk (fun _=>Jzm) h1)
  | none=>
    cases h2:(List.range zn.length).findSome? (Jkc sw.length zn) with
    | some e=>rw [Jtk h0 h1 h2] at h;exact absurd h (Jsk (fun _=>J6p) h2)
    | none=>
      rw [Jnv h0 h1 h2] at h
      have hs:∀i:Nat,i < sw.length→(-1≤(sw.getD i default).above∧(sw.getD i default).above < i)∧(0≤(sw.getD i default).since∧(sw.getD i default).since≤2147483648)∧(-1≤(sw.getD i default).shown∧(sw.getD i default).shown≤1):=fun i hi=>by
        have:=Jmt h1 hi
        rw [Jhs] at this
        split at this
        · cases this
        split at this
        · cases this
        split at this
        · cases this
        rename_i k1 k2 k3
        rw [not_or] at k3
        omega
      have hz:∀i:Nat,i < zn.length→(0≤zn.getD i 0∧zn.getD i 0 < sw.length)∧∀j:Nat,j < i→zn.getD j 0≠zn.getD i 0:=fun i hi=>by
        have:=Jmt h2 hi
        rw [Jkc] at this
        split at this
        · cases this
        split at this
        · cases this
        rename_i k1 k2
        exact ⟨by omega,fun j hj hh=>k2 ⟨j,hj,hh⟩⟩
      refine ⟨by omega,by omega,fun i hi=>(hs i hi).1,fun i hi=>(hs i hi).2.1,fun i hi=>(hs i hi).2.2,fun i hi=>(hz i hi).1,fun i j hj hi=>(hz i hi).2 j hj,?_⟩
      by_cases hr:rp < 1∨100000 < rp
      · rw [if_pos hr] at h;omega
      · omega
def Jjh (sw:List XSwitch) (zn:List Int) (rp:Int) (s:Int):List Int:=if feedE sw zn rp≠0∨s < 0∨(sw.length:Int)≤s then [] else Jkh sw s
theorem Jzr (f:XFeeder) (s:Int) (L:List Blk) (R:List Sl):
    Tri Tryz.prog 90 [f.val,.int .i64 s].toArray L R (fun v L' R'=>∃bs bf,v=.func (.func 171) #[] #[.pointer (some ⟨bs,0,none⟩),.pointer (some ⟨bf,0,none⟩)]∧(⟨bs,[.int .i64 s],3⟩ :: ⟨bf,f.cells,42⟩ :: L)=L'∧R=R'):=by
  refine Jad 6 Tryz.call90 Tryz.func90 rfl rfl rfl ?_
  refine Xaf ?_
  intro b2
  refine Jwt (v:=Value.int _ _) rfl rfl rfl ?_
  intro b3
  refine Jax (Jca rfl) rfl ?_
  refine qam ?_
  refine Jax (Jr9 rfl) rfl ?_
  refine Jax (Jca rfl) rfl ?_
  refine qa0 ?_
  refine q_r (L':=⟨b3,[.int .i64 s],3⟩ :: ⟨b2,f.cells,42⟩ :: L) (R':=R) (Jec rfl (Jaf rfl)) ?_
  exact ⟨b3,b2,rfl,rfl,rfl⟩
theorem Jwi (f:XFeeder) (s:Int) (bs bf:Nat) (L:List Blk) (R:List Sl) (hsR:InR (Jpm f.switches) R) (hu:J6z f.switches.l) (hn:f.switches.l.length≤1000) (hc:s < f.switches.l.length):
    Tri Tryz.prog 89 [.func (.func 171) #[] #[.pointer (some ⟨bs, 0, none⟩), .pointer (some ⟨bf, 0, none⟩)]].toArray (⟨bs, [.int .i64 s], 3⟩ :: ⟨bf, f.cells, 42⟩ :: L) R
      (fun v L' R'=>∃(q:OwL Int) (c':Int),v=q.val∧q.ok 1 Jap∧q.l=Jkh f.switches.l s∧q.L 3 Jap ++ (⟨bs,[.int .i64 c'],3⟩ :: ⟨bf,f.cells,42⟩ :: L)=L'∧R=R'):=by
  refine Jad 5 Tryz.call89 Tryz.func89 rfl rfl rfl ?_
  refine qae ?_
  refine qc4 ?_
  refine qam ?_
  refine Jax (Jav rfl) rfl ?_
  refine Jaw rfl (Jti f s bs bf L R hsR hu hn hc) rfl ?_
  rintro v L' R' ⟨q,c',rfl,hk,hq,rfl,rfl⟩
  refine Xde ?_
  refine q_r (L':=q.L 3 Jap ++ (⟨bs,[.int .i64 c'],3⟩ :: ⟨bf,f.cells,42⟩ :: L)) (R':=R) (Jec rfl (Jaf (show _=Value.slice _ _ _ from rfl))) ?_
  exact ⟨q,c',rfl,hk,hq,rfl,rfl⟩
theorem Js6 (f:XFeeder) (s:Int) (L:List Blk) (R:List Sl) (hf:FeederR f R):
    Tri Tryz.prog 26 [f.val,.int .i64 s].toArray L R (fun v L' R'=>∃q:OwL Int,v=q.val∧q.ok 1 Jap∧q.l=Jjh f.switches.l f.zones.l f.reply s∧q.L 3 Jap ++ L=L'∧R=R'):=by
  refine Jad 23 Tryz.call26 Tryz.func26 rfl rfl rfl ?_
  refine Xaf ?_
  intro b2
  refine Xcb ?_
  refine Kao ?_
  refine q_l rfl (Jdr f _ _ hf) ?_
  refine Xbu ?_
  apply Ja7 (G:=[_,_]) (j:=3) (cj:=8) rfl rfl zb rfl (show _=Value.bool _ from rfl) rfl
  ·
   intro hg4
   replace hg4:=qb hg4
   refine qaa ?_
   refine qaj ?_
   exact qai
  intro junk4
  refine qah ?_
  apply Ja7 (G:=[_,_,_,_,_]) (j:=7) (cj:=12) rfl rfl zb rfl (show _=Value.bool _ from rfl) rfl
  ·
   intro hg8
   replace hg8:=qb hg8
   refine qaa ?_
   refine Xab ?_
   refine qbz ?_
   exact qai
  intro junk8
  refine qaf ?_
  refine q_c (fun hc0=>?_) (fun hc0=>?_)
  ·
   refine qae ?_
   refine qc4 ?_
   refine qbh ?_
   refine q_r (L':=L) (R':=R) (Jec rfl (Jaf (show _=Value.slice _ _ _ from rfl))) ?_
   exact ⟨.nil,rfl,OwL.nil_ok,by rw [Jjh,if_pos za],by rw [Jbi];rfl,rfl⟩
  have hok:=Jdt (sw:=f.switches.l) (zn:=f.zones.l) (rp:=f.reply) za
  have hsn:=hok.sn
  refine qbv ?_
  refine Kao ?_
  refine qaa ?_
  refine Jaw rfl (Jzr f s _ _) rfl ?_
  rintro v L' R' ⟨bs,bf,rfl,rfl,rfl⟩
  refine Jaw rfl (Jwi f s bs bf _ _ hf.sw hok.up za za) rfl ?_
  rintro v L' R' ⟨q,c',rfl,hk,hq,rfl,rfl⟩
  refine Xde ?_
  refine q_r (L':=q.L 3 Jap ++ L) (R':=R) (Jec rfl (Jaf (show _=Value.slice _ _ _ from rfl))) ?_
  exact ⟨q,rfl,hk,by rw [Jjh,if_neg za];exact hq,rfl,rfl⟩
end Go.Proofs.YtchfclmokpbldaaGreat
end
section
/-
  '==' between structs of numbers and truths, spans inside them. No program is named in the first part. By an AI agent; no person has read it.
-/
namespace Go.Proofs.YtchfclmokpbldaaGreat
open Go.Aw Go
inductive KC where
  | i
  | b
def KC.fits : KC → Value → Prop
  | .i,.int .i64 _=>True
  | .b,.bool _=>True
  | _,_=>False
def Jh4 : List KC → List Value → Prop
  | [],[]=>True
  | k :: ks,v :: vs=>k.fits v∧Jh4 ks vs
  | _,_=>False
def Ji6 : Value → Value → Bool
  | .int _ a,.int _ b=>decide (a=b)
  | .bool a,.bool b=>decide (a=b)
  | _,_=>false
def Jcl : List Value → List Value → Bool
  | a :: l,b :: m=>Ji6 a b && Jcl l m
  | _,_=>true
theorem Jtz : ∀ {ks : List KC} {l : List Value}, Jh4 ks l → l.length = ks.length
  | [],[],_=>rfl
  | [],_ :: _,h=>h.elim
  | _ :: _,[],h=>h.elim
  | k :: ks,v :: vs,h=>by simp [Jtz h.2]
theorem Jk6 : ∀ {ks ms : List KC} {l : List Value}, Jh4 (ks ++ ms) l → Jh4 ks (l.take ks.length) ∧ Jh4 ms (l.drop ks.length)
  | [],ms,l,h=>⟨by simp [Jh4],by simpa using h⟩
  | k :: ks,ms,[],h=>h.elim
  | k :: ks,ms,v :: vs,h=>by
    have:=Jk6 (ks:=ks) (ms:=ms) (l:=vs) h.2
    exact ⟨⟨h.1,this.1⟩,this.2⟩
theorem Jlq : ∀ (n : Nat) (l m : List Value), Jcl l m = (Jcl (l.take n) (m.take n) && Jcl (l.drop n) (m.drop n))
  | 0,l,m=>by simp [Jcl]
  | n + 1,[],m=>by simp [Jcl]
  | n + 1,a :: l,[]=>by simp [Jcl]
  | n + 1,a :: l,b :: m=>by
    simp only [List.take_succ_cons,List.drop_succ_cons,Jcl]
    rw [Jlq n l m,Bool.and_assoc]
section
variable {P:Program}
def FE (P:Program) (d:Nat) (I:TypeId) (ks:List KC):Prop:=
  ∀(xs ys:List Value) (off:Nat) (w:World),Jh4 ks ((xs.drop off).take ks.length)→Jh4 ks ((ys.drop off).take ks.length)→
    ∃a b,(part I xs.toArray off).run P w=.ok a w∧(part I ys.toArray off).run P w=.ok b w∧(Op.equalIn d I a b).run P w=.ok (Jcl ((xs.drop off).take ks.length) ((ys.drop off).take ks.length)) w
theorem Jnx {I:TypeId} {xs:List Value} {off:Nat} {v:Value} {w:World} (hag:(isAgg I).run P w=.ok false w) (h:(xs.drop off).take 1=[v]):(part I xs.toArray off).run P w=.ok v w:=by
  have hv:xs[off]?=some v:=by
    have:((xs.drop off).take 1)[0]?=some v:=by rw [h];rfl
    rw [List.getElem?_take] at this
    simpa using this
  simp only [part,Sem.run_bind,hag,Result.andThen_ok]
  simp [hv]
theorem Jy0 {l:List Value} {k:KC} (h:Jh4 [k] l):∃v,l=[v]∧k.fits v:=by
  match l,h with
  | [v],h=>exact ⟨v,rfl,h.1⟩
theorem Jel {d:Nat} {I:TypeId} (h:P.underlying I=some (.int .i64)):FE P (d + 1) I [.i]:=by
  intro xs ys off w hx hy
  have hag:(isAgg I).run P w=.ok false w:=by simp [isAgg,run_underlying h]
  obtain ⟨u,hu,fu⟩:=Jy0 hx
  obtain ⟨v,hv,fv⟩:=Jy0 hy
  refine ⟨u,v,Jnx hag hu,Jnx hag hv,?_⟩
  have hu':(xs.drop off).take [KC.i].length=[u]:=hu
  have hv':(ys.drop off).take [KC.i].length=[v]:=hv
  rw [hu',hv']
  match u,v,fu,fv with
  | .int .i64 a,.int .i64 b,_,_=>
    rw [run_equalIn_int (P:=P) w d I .i64 .i64 a b h,Jsu]
    simp [Jcl,Ji6]
theorem Jk0 {d:Nat} {I:TypeId} (h:P.underlying I=some .bool):FE P (d + 1) I [.b]:=by
  intro xs ys off w hx hy
  have hag:(isAgg I).run P w=.ok false w:=by simp [isAgg,run_underlying h]
  obtain ⟨u,hu,fu⟩:=Jy0 hx
  obtain ⟨v,hv,fv⟩:=Jy0 hy
  refine ⟨u,v,Jnx hag hu,Jnx hag hv,?_⟩
  have hu':(xs.drop off).take [KC.b].length=[u]:=hu
  have hv':(ys.drop off).take [KC.b].length=[v]:=hv
  rw [hu',hv']
  match u,v,fu,fv with
  | .bool a,.bool b,_,_=>
    rw [run_equalIn_bool (P:=P) w d I a b h]
    simp only [Jcl,Ji6,Bool.and_true]
    cases a <;> cases b <;> rfl
def Juo : Nat → List (TypeId × List KC) → List (Bool × TypeId × Nat)
  | _,[]=>[]
  | o,(I,ks) :: l=>(false,I,o) :: Juo (o + ks.length) l
theorem Jqj {d : Nat} : ∀ (pl : List (TypeId × List KC)) (fs : List Field) (xs ys : List Value) (off : Nat) (w : World), fs.map (fun f => (f.name == "_", f.type, f.offset)) = Juo off pl → (∀ p ∈ pl, FE P d p.1 p.2) →
    Jh4 (pl.flatMap (·.2)) (xs.drop off)→Jh4 (pl.flatMap (·.2)) (ys.drop off)→(Op.eqFields d xs.toArray ys.toArray fs).run P w=.ok (Jcl (xs.drop off) (ys.drop off)) w
  | [],fs,xs,ys,off,w,hm,_,hx,hy=>by
    have:fs=[]:=by simpa [Juo] using hm
    subst this
    have h1:=Jtz hx
    have h2:xs.drop off=[]:=List.eq_nil_of_length_eq_zero zda
    rw [h2]
    simp [Op.eqFields,Jcl]
  | (I,ks) :: pl,[],xs,ys,off,w,hm,_,_,_=>by simp [Juo] at hm
  | (I,ks) :: pl,f :: fs,xs,ys,off,w,hm,hp,hx,hy=>by
    simp only [List.map_cons,Juo,List.cons.injEq,Prod.mk.injEq] at hm
    obtain ⟨⟨f1,f2,f3⟩,hm⟩:=hm
    have nf : f.name ≠ "_" := by simpa using f1
    rw [List.flatMap_cons] at hx hy
    obtain ⟨x1,x2⟩:=Jk6 hx
    obtain ⟨y1,y2⟩:=Jk6 hy
    obtain ⟨a,b,ha,hb,hab⟩:=hp (I,ks) List.mem_cons_self xs ys off w x1 y1
    have ih:=Jqj pl fs xs ys (off + ks.length) w hm (fun p h=>hp p (List.mem_cons_of_mem _ h)) (by rw [← List.drop_drop];exact x2) (by rw [← List.drop_drop];exact y2)
    simp only [Op.eqFields,if_pos nf,f2,f3,Sem.run_bind,ha,hb,hab,Result.andThen_ok,Sem.run_ite,Sem.run_pure]
    rw [Jlq ks.length (xs.drop off) (ys.drop off),List.drop_drop,List.drop_drop]
    cases hc:Jcl ((xs.drop off).take ks.length) ((ys.drop off).take ks.length) with
    | false=>simp
    | true=>simpa using ih
theorem Jvs {d : Nat} {T : TypeId} {pl : List (TypeId × List KC)} (h1 : P.underlying T = some (.struct (P.fieldsOf T))) (h2 : P.stoodInHeld T = false) (h4 : (P.fieldsOf T).toList.map (fun f => (f.name == "_", f.type, f.offset)) = Juo 0 pl) (hp : ∀ p ∈ pl, FE P d p.1 p.2)
    {xs ys:List Value} {w:World} (hx:Jh4 (pl.flatMap (·.2)) xs) (hy:Jh4 (pl.flatMap (·.2)) ys):(Op.equalIn (d + 1) T (.agg xs.toArray) (.agg ys.toArray)).run P w=.ok (Jcl xs ys) w:=by
  rw [run_equalIn_agg w d T _ _ h1 h2]
  exact Jqj pl _ xs ys 0 w h4 hp hx hy
theorem Kch {d : Nat} {I : TypeId} {pl : List (TypeId × List KC)} {i : TypeInfo} (h1 : P.underlying I = some (.struct (P.fieldsOf I))) (h2 : P.stoodInHeld I = false) (hi : P.info? I = some i) (hc : P.cellsOf I = (pl.flatMap (·.2)).length) (h4 : (P.fieldsOf I).toList.map (fun f => (f.name == "_", f.type, f.offset)) = Juo 0 pl) (hp : ∀ p ∈ pl, FE P d p.1 p.2) :
    FE P (d + 1) I (pl.flatMap (·.2)):=by
  intro xs ys off w hx hy
  have hag:(isAgg I).run P w=.ok true w:=by simp [isAgg,run_underlying h1]
  have hs:(sizeOf I).run P w=.ok (pl.flatMap (·.2)).length w:=by rw [run_sizeOf w hi,hc]
  have pt:∀zs:List Value,(part I zs.toArray off).run P w=.ok (.agg ((zs.drop off).take (pl.flatMap (·.2)).length).toArray) w:=fun zs=>by
    simp only [part,Sem.run_bind,hag,Result.andThen_ok,if_true,hs,Sem.run_pure]
    congr 2
    simp
  exact ⟨_,_,pt xs,pt ys,Jvs h1 h2 h4 hp hx hy⟩
structure StrEq (P:Program) (T:TypeId) (ks:List KC):Prop where
  eq:∀(xs ys:List Value) (w:World),Jh4 ks xs→Jh4 ks ys→(Op.equalIn 10000 T (.agg xs.toArray) (.agg ys.toArray)).run P w=.ok (Jcl xs ys) w
  guard:P.eqGuardType P.depth T=false
theorem Jhl {T : TypeId} (pl : List (TypeId × List KC)) {ks : List KC} (h1 : P.underlying T = some (.struct (P.fieldsOf T))) (h2 : P.stoodInHeld T = false) (h3 : P.eqGuardType P.depth T = false) (h4 : (P.fieldsOf T).toList.map (fun f => (f.name == "_", f.type, f.offset)) = Juo 0 pl) (hk : pl.flatMap (·.2) = ks) (hp : ∀ p ∈ pl, FE P 9999 p.1 p.2) : StrEq P T ks :=
  ⟨fun xs ys w hx hy=>Jvs h1 h2 h4 hp (by rw [hk];exact hx) (by rw [hk];exact hy),h3⟩
end
section
variable {P:Program} {ρ:Operand→Value} {L:List Blk} {R:List Sl} {dst:Option Tmp} {ty:TypeId} {pos:String} {after:Array Edge} {guard:Option (Nat×Bool)} {T T2:TypeId} {x y:Operand} {ks:List KC} {xs ys:List Value}
theorem Jq2 (hT:StrEq P T ks) (hx:ρ x=.agg xs.toArray) (hy:ρ y=.agg ys.toArray) (fx:Jh4 ks xs) (fy:Jh4 ks ys) {b:Bool} (hb:Jcl xs ys=b):YV P ⟨dst,.binOp .eql T x y T2,ty,pos,after,guard⟩ ρ L R (.bool b):=fun _ w _=>by
  have h1:=run_eqGuard_agg (P:=P) w .eql T x y xs.toArray ys.toArray hT.guard
  simp only [execOp,hx,hy,Sem.run_bind,h1,Result.andThen_ok,run_eql_struct,hT.eq xs ys _ fx fy,hb]
  simp
theorem Jfj (hT:StrEq P T ks) (hx:ρ x=.agg xs.toArray) (hy:ρ y=.agg ys.toArray) (fx:Jh4 ks xs) (fy:Jh4 ks ys) {b:Bool} (hb:Jcl xs ys=b):YV P ⟨dst,.binOp .neq T x y T2,ty,pos,after,guard⟩ ρ L R (.bool (!b)):=fun _ w _=>by
  have h1:=run_eqGuard_agg (P:=P) w .neq T x y xs.toArray ys.toArray hT.guard
  simp only [execOp,hx,hy,Sem.run_bind,h1,Result.andThen_ok,run_neq_struct,hT.eq xs ys _ fx fy,hb]
  simp
end
theorem J8y:StrEq Tryz.prog 153 [.b,.i,.i]:=
  Jhl [(4,[.b]),(3,[.i]),(3,[.i])] zc zc zc zc rfl (by
    intro p hp
    simp only [List.mem_cons,List.not_mem_nil,or_false] at hp
    rcases hp with rfl | rfl | rfl
    · exact Jk0 zc
    · exact Jel zc
    · exact Jel zc)
theorem Kdg:StrEq Tryz.prog 71 [.b,.i,.i]:=
  Jhl [(4,[.b]),(3,[.i]),(3,[.i])] zc zc zc zc rfl (by
    intro p hp
    simp only [List.mem_cons,List.not_mem_nil,or_false] at hp
    rcases hp with rfl | rfl | rfl
    · exact Jk0 zc
    · exact Jel zc
    · exact Jel zc)
end Go.Proofs.YtchfclmokpbldaaGreat
end
