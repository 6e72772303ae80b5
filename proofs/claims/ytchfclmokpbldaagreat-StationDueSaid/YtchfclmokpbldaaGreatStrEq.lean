/-
  Merged texts. By an AI agent.
-/
import Derived.Test.YtchfclmokpbldaaGreatRoundA
import Derived.OwnWalkIn
import Derived.LoopNIn
import Derived.Test.YtchfclmokpbldaaGreatFits
import Derived.Test.YtchfclmokpbldaaGreatDrawR
import Derived.Laws.StructEq
import Derived.Test.YtchfclmokpbldaaGreatDraws
set_option linter.all false
set_option maxHeartbeats 4000000
set_option maxRecDepth 20000
namespace Go.Proofs.YtchfclmokpbldaaGreat
open Go.Aw Go
section
attribute [local irreducible] CJ LJ DJ Tri YV Gives Ur J3 Ko Uq RV J5 OwL.L
def upF (sw : List XSwitch) : Nat → Int → List Int
 | 0,_=>[]
 | n + 1,s=>if s < 0 then [] else s :: upF sw n (sw.getD s.toNat default).above
def Kxa (sw:List XSwitch) (s:Int):List Int:=upF sw (s + 1).toNat s
def Uve (sw:List XSwitch):Prop:=∀i:Nat,i < sw.length→-1≤(sw.getD i default).above∧(sw.getD i default).above < i
def Z0e {sw:List XSwitch} (h:Uve sw):∀(n:Nat) (s:Int),s < sw.length→(s + 1).toNat≤n→upF sw n s=Kxa sw s:=by
 intro n;induction n using Nat.strongRecOn with
 | _ n ih=>
  intro s hs hn;by_cases h0:s < 0;·
   rw [Kxa, show (s + 1).toNat = 0 by omega];cases n with
   | zero=>rfl
   | succ n=>show (if s < 0 then [] else _)=([]:List Int);rw [if_pos h0]
  ·obtain ⟨k, rfl⟩ : ∃ k, n = k + 1 := ⟨n - 1, by omega⟩;have ha:=h s.toNat za;rw [Kxa,show (s + 1).toNat=s.toNat + 1 by omega,upF,upF,if_neg za,if_neg za,ih k za _ za za,ih s.toNat za _ za za]
def Y7 {sw:List XSwitch} {s:Int} (h:s < 0):Kxa sw s=[]:=by rw [Kxa,show (s + 1).toNat=0 by omega];rfl
def Z4 {sw:List XSwitch} (h:Uve sw) {s:Int} (h0:0≤s) (h1:s < sw.length):Kxa sw s=s :: Kxa sw (sw.getD s.toNat default).above:=by have ha:=h s.toNat za;rw [Kxa,show (s + 1).toNat=s.toNat + 1 by omega,upF,if_neg za,Z0e h _ _ za za]
def Y0c {sw:List XSwitch} (h:Uve sw):∀(n:Nat) (s:Int),s < sw.length→(s + 1).toNat≤n→(Kxa sw s).length≤n:=by
 intro n;induction n with
 | zero=>intro s _ hn;rw [Y7 za];exact ym _
 | succ n ih=>
  intro s hs hn;by_cases h0:s < 0;·rw [Y7 h0];simp
  ·have ha := h s.toNat za;rw [Z4 h za hs,yw];have:=ih (sw.getD s.toNat default).above za za;omega
def Y0f (c:Code):Code:=match c with
 | .seq _ (.seq (.seq _ (.block _ (.rangeFunc _ _ x _))) _)=>x
 | _=>.skip
def U4e (c:Code):Code:=match c with
 | .seq _ (.seq (.seq _ (.block _ (.rangeFunc _ _ _ x))) _)=>x
 | _=>.skip
def Ync (sv x:Value) (B:Nat):Array Value:=#[.slice none 0 0,sv,.pointer (some ⟨B,0,none⟩),undef,.slice none 0 0,undef,sv,x,undef,undef,undef,undef,undef]
def J6c (cd:Code) (fn:FuncId) (sv:Value) (B:Nat) (st:LoopState):Loop:={ state:=st,pending:=none,fn,tmps:=Ync sv undef B,params:=#[7],assign:=Y0f cd,body:=U4e cd,defers:=B + 1 }
def U5c (cd:Code) (fn:FuncId) (sv:Value) (B:Nat) (st:LoopState):Obj:=.loop (J6c cd fn sv B st)
def Kda {cd fn sv B st}:NoCells (U5c cd fn sv B st):=⟨fun c t f h=>zI,fun es ck h=>zI⟩
def Yye:Obj:=.deferred (some [])
def K1b:NoCells Yye:=⟨fun c t f h=>zI,fun es ck h=>zI⟩
def K0f (t:Array Value) (n:Nat) (h:t.size=n):Fr n (fun k=>t.getD k undef) { tmps:=t,defers:=[] }:=⟨rfl,h,fun _=>rfl⟩
def K5g (o:Oper):Bool:=match o.op with
 | .defer _=>true
 | _=>false
def K8g {ops:List Oper} (h:ops.any K5g=false):∀o∈ops,∀c,o.op≠.defer c:=fun o ho c e=>by
 have:=List.any_eq_false.1 h o ho
 rw [K5g,e] at this
 exact this rfl
section
variable {w0:World} {Lc:LB} {G:Nat→Prop} {R:LS} (hh:Holds Lc G R w0)
include hh
def Klf {fn:FuncId} {sv:Value} {m:Nat} {Lf:LB} {p:OwL Int} (hok:p.ok 1 Jk) (hlen:p.l.length≤1000000) (x:Int) {W:World} (h:At2 w0 Lc G R (w0.heap.size + 1) Yye (U5c (Tryz.f170.body.getD .skip) fn sv w0.heap.size .ready) (⟨w0.heap.size,[p.val],40⟩ :: (p.L 3 Jk ++ Lf)) W):
 YieldAt Fence.wide m Tryz.prog (w0.heap.size + 1 + 1) #[.int .i64 x] W fun e W'=>e=.returned (.bool true)∧∃o,(⟨o,p.l ++ [x]⟩:OwL Int).ok 1 Jk∧At2 w0 Lc G R (w0.heap.size + 1) Yye (U5c (Tryz.f170.body.getD .skip) fn sv w0.heap.size .ready) (⟨w0.heap.size,[(⟨o,p.l ++ [x]⟩:OwL Int).val],40⟩ :: ((⟨o,p.l ++ [x]⟩:OwL Int).L 3 Jk ++ Lf)) W':=by
 refine ⟨fn,Ync sv (.int .i64 x) w0.heap.size,(Y0f (Tryz.f170.body.getD .skip)),(U4e (Tryz.f170.body.getD .skip)),(by have:=run_yield (P:=Tryz.prog) (args:=#[.int .i64 x]) (r:=J6c (Tryz.f170.body.getD .skip) fn sv w0.heap.size .ready) h.lp rfl;simpa [J6c,Ync] using this),roundIn_of_wpIn trivial ?_⟩;refine At2.round hh K1b Kda h (t:=fun k=>(Ync sv (.int .i64 x) w0.heap.size).getD k undef) (Q:=fun e t M U=>e=.normal∧(t 5=.int .i64 x∧t 2=.pointer (some ⟨w0.heap.size,0,none⟩))∧M=(⟨w0.heap.size,[p.val],40⟩ :: (p.L 3 Jk ++ Lf))∧U=R) (K0f _ 13 rfl) (K8g rfl) ?_ (fun _ _ _ h=>by cases h.1) ?_;·refine Jx (Uh znb) rfl ?_;exact J7 ⟨rfl,⟨rfl,rfl⟩,rfl,rfl⟩
 rintro e a1 W1 t1 L1 R1 ⟨rfl,⟨ht5,ht2⟩,rfl,rfl⟩ hf1 h1;refine ⟨_,run_beginRound h1.lp rfl,?_⟩;have h2:=At2.put hh za Kda (Kda (cd:=(Tryz.f170.body.getD .skip)) (fn:=fn) (sv:=sv) (B:=w0.heap.size) (st:=.busy)) h1;show (Code.block _ _).wpIn _ _ _ _ _ _;refine wpIn_block ?_;refine At2.round hh K1b Kda h2 (Q:=fun e t M U=>e=.normal∧∃o,(⟨o,p.l ++ [x]⟩:OwL Int).ok 1 Jk∧(⟨w0.heap.size,[(⟨o,p.l ++ [x]⟩:OwL Int).val],40⟩ :: ((⟨o,p.l ++ [x]⟩:OwL Int).L 3 Jk ++ Lf)).Sublist M) hf1 (K8g rfl) ?_ (fun _ _ _ h=>by cases h.1) ?_;·refine Jx (K0 tb ht2 rfl rfl zf zb) rfl ?_;refine Jx (J0 (v:=.int .i64 x) ht5) rfl ?_;apply (qcx);rintro v M U ⟨b88,rfl,rfl,hR88⟩;replace hR88:=hR88.symm;subst hR88;refine Yu (Jv (f:=Jk) (a:=x) tb rfl rfl rfl rfl hok zj zwb rfl za) rfl ?_;rintro v M U ⟨o,rfl,hok89,rfl,rfl⟩;refine U8a (v:=Value.slice _ _ _) tb rfl ht2 rfl rfl zB rfl rfl zb ?_;exact J7 ⟨rfl,o,hok89,yBa _ _⟩
 rintro e a3 W3 t3 L3 R3 ⟨rfl,o,hok3,hsub⟩ hf3 h3;have h4:At2 _ _ _ _ _ _ _ _ _:=⟨h3.st.weak hsub zCb,h3.df,h3.lp⟩;exact ⟨_,_,run_endRound none h4.lp,rfl,o,hok3,At2.put hh za Kda Kda h4⟩
def Yie (w:World) (b:Nat):Int:=match w.cell? ⟨b,0,none⟩ with
 | some (.int _ n)=>n
 | _=>-1
def Vlg {fn : FuncId} {sv : Value} {m : Nat} {f : XFeeder} {bs bf : Nat} {L : LB} (hsR : InR (Zmb f.switches) R) (hu : Uve f.switches.l) (hn : f.switches.l.length ≤ 1000) {cur : Int} (hc : cur < f.switches.l.length) {W : World} {p : OwL Int} (hk : p.ok 1 Jk) (hpl : p.l = [])
 (h:At2 w0 Lc G R (w0.heap.size + 1) Yye (U5c (Tryz.f170.body.getD .skip) fn sv w0.heap.size .ready) (⟨w0.heap.size,[p.val],40⟩ :: (p.L 3 Jk ++ (⟨bs,[.int .i64 cur],3⟩ :: ⟨bf,f.cells,42⟩ :: L))) W):
 CallsIn Fence.wide m Tryz.prog 171 #[.func (.yield (w0.heap.size + 1 + 1)) #[] #[],.pointer (some ⟨bs,0,none⟩),.pointer (some ⟨bf,0,none⟩)] W fun e W'=>(∃v,e=.returned v)∧∃(q:OwL Int) (c':Int),q.ok 1 Jk∧q.l=Kxa f.switches.l cur∧
  At2 w0 Lc G R (w0.heap.size + 1) Yye (U5c (Tryz.f170.body.getD .skip) fn sv w0.heap.size .ready) (⟨w0.heap.size,[q.val],40⟩ :: (q.L 3 Jk ++ (⟨bs,[.int .i64 c'],3⟩ :: ⟨bf,f.cells,42⟩ :: L))) W':=by
 refine callsIn_of_wp Tryz.func171 rfl trivial ?_ rfl;simp only [Tryz.ntmps171,yjc,yw,yP,Nat.reduceAdd,Nat.reduceSub,Array.replicate_succ,Array.replicate_zero,List.push_toArray,List.append_toArray,yx,yr];refine wpIn_block ?_;refine wpIn_loop (fun a w=>∃(t:Nat→Value) (q:OwL Int) (c':Int),Fr 16 t a∧(t 0=.func (.yield (w0.heap.size + 1 + 1)) #[] #[]∧t 1=.pointer (some ⟨bs,0,none⟩)∧t 2=.pointer (some ⟨bf,0,none⟩))∧q.ok 1 Jk∧(-1≤c'∨True)∧c' < f.switches.l.length∧Kxa f.switches.l cur=q.l ++ Kxa f.switches.l c'∧
  At2 w0 Lc G R (w0.heap.size + 1) Yye (U5c (Tryz.f170.body.getD .skip) fn sv w0.heap.size .ready) (⟨w0.heap.size,[q.val],40⟩ :: (q.L 3 Jk ++ (⟨bs,[.int .i64 c'],3⟩ :: ⟨bf,f.cells,42⟩ :: L))) w) (fun _ w=>(Yie w bs + 1).toNat) ?_ ?_
 ·exact ⟨_,p,cur,K0f _ 16 rfl,⟨rfl,rfl,rfl⟩,hk,.inr trivial,hc,by rw [hpl];rfl,h⟩
 rintro a w ⟨t,q,c',hf,⟨t0,t1,t2⟩,hk,_,hc',hp,h⟩;have hnum:Yie w bs=c':=by have:=J8a (b:=bs) (cs:=[.int .i64 c']) (T:=3) h.st (yK _ (yk _ yta)) 0;rw [Yie,this];rfl
 refine wpIn_seq (wpIn_seq ?_);refine At2.plain hh K1b Kda h (Q:=fun e t' M U=>e=.normal∧((t' 0=.func (.yield (w0.heap.size + 1 + 1)) #[] #[]∧t' 1=.pointer (some ⟨bs,0,none⟩)∧t' 2=.pointer (some ⟨bf,0,none⟩))∧t' 5=.bool (decide (0≤c')))∧(⟨w0.heap.size,[q.val],40⟩ :: (q.L 3 Jk ++ (⟨bs,[.int .i64 c'],3⟩ :: ⟨bf,f.cells,42⟩ :: L)))=M) hf ?_ ?_;·refine Jg ?_;refine Jx (K0 tb t1 rfl rfl zf zb) rfl ?_;apply (qbz);exact J7 ⟨rfl,⟨⟨t0,t1,t2⟩,rfl⟩,rfl⟩
 rintro e a1 w1 t' L1 R1 ⟨rfl,⟨⟨t0,t1,t2⟩,t5⟩,rfl⟩ hf1 h1;refine wpIn_cond (t:=decide (0≤c')) (by rw [hf1.eval];exact t5) ?_;by_cases h0:0≤c';·
  rw [decide_eq_true h0, if_pos rfl];refine wpIn_skip ?_;refine wpIn_seq (wpIn_block (wpIn_seq ?_));refine wpIn_region_lit ?_;refine Vhg hf1 h1.st (J0 (v:=.func (.yield (w0.heap.size + 1 + 1)) #[] #[]) t0) rfl fun a2 hf2=>?_;refine Vhg hf2 h1.st (K0 tb t1 rfl rfl zf zb) rfl fun a3 hf3=>?_;have hpl2:q.l.length≤1000000:=by have:=Y0c hu _ cur hc (ym _);rw [hp,yj] at this;omega
  refine Yxe (v:=.int .i64 c') hf3 rfl rfl rfl (Klf hh hk hpl2 c' h1) fun a4 w4 hf4 ⟨o,hok4,h4⟩=>?_;refine Vhg hf4 h4.st (Uub rfl) rfl fun a5 hf5=>?_;show Exit.then _ _ Exit.normal _ _;refine wpIn_cond (t:=false) (by rw [hf5.eval];rfl) ?_;rw [if_neg zo];refine wpIn_skip ?_;have hg:=Ju (l:=f.switches.l) (k:=c'.toNat) default za;have ha:=hu c'.toNat za;refine At2.plain hh K1b Kda h4 (Q:=fun e t' M U=>e=.normal∧(t' 0=.func (.yield (w0.heap.size + 1 + 1)) #[] #[]∧t' 1=.pointer (some ⟨bs,0,none⟩)∧t' 2=.pointer (some ⟨bf,0,none⟩))∧
   ⟨w0.heap.size,[(⟨o,q.l ++ [c']⟩:OwL Int).val],40⟩ :: ((⟨o,q.l ++ [c']⟩:OwL Int).L 3 Jk ++ (⟨bs,[.int .i64 (f.switches.l.getD c'.toNat default).above],3⟩ :: ⟨bf,f.cells,42⟩ :: L))=M) hf5 ?_ ?_
  ·refine Jg ?_;refine Jx (K6 tb rfl (show _=Value.pointer (some ⟨bf,0,none⟩) from t2) rfl) rfl ?_;apply (qac);refine Jx (K0 tb (show _=Value.pointer (some ⟨bs,0,none⟩) from t1) rfl rfl zf zb) rfl ?_;refine Jx (Jf tb rfl rfl rfl rfl hsR (i:=c'.toNat) za za) rfl ?_;apply (qb0);refine Jx (Zx tb rfl rfl rfl hsR hg rfl) rfl ?_;refine U8a (v:=Value.int _ _) tb rfl (show _=Value.pointer (some ⟨bs,0,none⟩) from t1) rfl rfl zB rfl rfl zb ?_;exact J7 ⟨rfl,⟨t0,t1,t2⟩,rfl⟩
  rintro e a6 w6 t6 L6 R6 ⟨rfl,ht6,rfl⟩ hf6 h6;have hnum6:Yie w6 bs=(f.switches.l.getD c'.toNat default).above:=by have:=J8a (b:=bs) (cs:=[.int .i64 (f.switches.l.getD c'.toNat default).above]) (T:=3) h6.st (yK _ (yk _ yta)) 0;rw [Yie,this];rfl
  refine ⟨⟨t6,⟨o,q.l ++ [c']⟩,_,hf6,ht6,hok4,.inr trivial,by omega,?_,h6⟩,?_⟩;·rw [hp,Z4 hu h0 hc',yo];rfl
  ·rw [hnum,hnum6];omega
 ·rw [decide_eq_false h0, if_neg zo];refine wpIn_exit ?_;simp only [Exit.then,Exit.inBlock,if_true];refine ⟨hf1.defers,_,results_none rfl _ _ _,⟨_,rfl⟩,q,c',hk,?_,h1⟩;rw [hp,Y7 za,yea]
end
def Uic (f:XFeeder) (s:Int) (bs bf:Nat) (L:LB) (R:LS) (hsR:InR (Zmb f.switches) R) (hu:Uve f.switches.l) (hn:f.switches.l.length≤1000) (hc:s < f.switches.l.length):
 Tri Tryz.prog 170 [.slice none 0 0, .func (.func 171) #[] #[.pointer (some ⟨bs, 0, none⟩), .pointer (some ⟨bf, 0, none⟩)]].toArray (⟨bs, [.int .i64 s], 3⟩ :: ⟨bf, f.cells, 42⟩ :: L) R
  (fun v M U=>∃(q:OwL Int) (c':Int),v=q.val∧q.ok 1 Jk∧q.l=Kxa f.switches.l s∧q.L 3 Jk ++ (⟨bs,[.int .i64 c'],3⟩ :: ⟨bf,f.cells,42⟩ :: L)=M∧R=U):=by
 refine Tri.raw Tryz.call170 fun w G hh=>(callsIn_wide (n:=5)).1 ?_;refine callsIn_of_wp_marks Tryz.func170 rfl trivial ?_ rfl;simp only [Tryz.ntmps170,yjc,yw,yP,Nat.reduceAdd,Nat.reduceSub,Array.replicate_succ,Array.replicate_zero,List.push_toArray,List.append_toArray,yx,yr]
 gi_wp2
 refine wpIn_rangeFunc ?_;intro fn hfn;obtain ⟨sv,hsv⟩:∃sv:Value,sv=.func (.func 171) #[] #[.pointer (some ⟨bs,0,none⟩),.pointer (some ⟨bf,0,none⟩)]:=⟨_,rfl⟩;obtain ⟨W0,hW0⟩:∃W0,w.alloc (.cells #[.slice none 0 0] 40)=W0:=⟨_,rfl⟩;have hs0:W0.heap.size=w.heap.size + 1:=by rw [← hW0];simp
 have st0:St ⟨w,inL (⟨bs,[.int .i64 s],3⟩ :: ⟨bf,f.cells,42⟩ :: L),G⟩ (⟨w.heap.size,[.slice none 0 0],40⟩ :: ⟨bs,[.int .i64 s],3⟩ :: ⟨bf,f.cells,42⟩ :: L) R W0:=by rw [← hW0];exact (St.init hh).alloc #[.slice none 0 0] 40
 rw [hW0];obtain ⟨W1,hW1⟩:∃W1,(W0.alloc Yye).alloc (U5c (Tryz.f170.body.getD .skip) fn sv w.heap.size .ready)=W1:=⟨_,rfl⟩;have hA:At2 w (⟨bs,[.int .i64 s],3⟩ :: ⟨bf,f.cells,42⟩ :: L) G R (w.heap.size + 1) Yye (U5c (Tryz.f170.body.getD .skip) fn sv w.heap.size .ready) (⟨w.heap.size,[(OwL.nil:OwL Int).val],40⟩ :: ((OwL.nil:OwL Int).L 3 Jk ++ (⟨bs,[.int .i64 s],3⟩ :: ⟨bf,f.cells,42⟩ :: L))) W1:=by
  rw [← hW1];refine ⟨(by rw [Kj,yx];exact (st0.allocO K1b).allocO Kda),?_,?_⟩;·rw [← hs0];exact (Kgf _ _ _ zo).trans (World.alloc_heap_new W0 _)
  ·have := World.alloc_heap_new (W0.alloc Yye) (U5c (Tryz.f170.body.getD .skip) fn sv w.heap.size .ready);rwa [World.size_alloc,hs0] at this
 refine ⟨w.heap.size + 1 + 1,[{ target:=.collected (w.heap.size + 1),args:=#[] }],W1,{ target:=.fn (.func 171) #[.pointer (some ⟨bs,0,none⟩),.pointer (some ⟨bf,0,none⟩)],args:=#[.func (.yield (w.heap.size + 1 + 1)) #[] #[]] },W1,171,
  #[.func (.yield (w.heap.size + 1 + 1)) #[] #[],.pointer (some ⟨bs,0,none⟩),.pointer (some ⟨bf,0,none⟩)],W1,?_,?_,fun _ _=>trivial,?_,fun h=>zI,?_⟩
 ·have := run_enterLoop_outer (P := Tryz.prog) (w := W0) fn (Ync sv undef w.heap.size) #[7] (Y0f (Tryz.f170.body.getD .skip)) (U4e (Tryz.f170.body.getD .skip));rw [hs0] at this;rw [← hW1,hsv];rw [hsv] at this;exact this
 ·simp [resolve,go_sem]
 ·simp [invoke,go_sem,Tryz.call171]
 ·
  refine (Vlg hh hsR hu hn hc OwL.nil_ok rfl hA).mono ?_;rintro e W2 ⟨⟨v0,rfl⟩,q,c',hk,hq,h2⟩;have hend:=run_endLoop (P:=Tryz.prog) h2.lp (by simp [J6c]);have h3:=At2.put hh za Kda (ol':=.loop { J6c (Tryz.f170.body.getD .skip) fn sv w.heap.size .ready with state:=.exhausted }) ⟨fun c t f h=>zI,fun es ck h=>zI⟩ h2;obtain ⟨W3,hW3⟩:∃W3,W2.putObj (w.heap.size + 1 + 1) (.loop { J6c (Tryz.f170.body.getD .skip) fn sv w.heap.size .ready with state:=.exhausted })=W3:=⟨_,rfl⟩;rw [hW3] at hend h3;have hc3:W3.cell? ⟨w.heap.size,0,none⟩=some q.val:=J8a (b:=w.heap.size) (cs:=[q.val]) (T:=40) h3.st yta 0;have hd3:=h3.df;have st3:=h3.st;clear hW3 h3 h2 hA hW1 st0 hW0;refine ⟨none,W3,hend,?_⟩
  gi_wp2
  have st4:=(st3.put hh hd3 K1b (o':=.deferred none) ⟨fun c t f h=>zI,fun es ck h=>zI⟩ za).weak (yBa _ _) zCb;refine ⟨by simp,.inl ⟨_,_,rfl,run_takeDeferred hd3,?_⟩⟩;exact ⟨_,results_tmp rfl _ _ _,q.val,_,_,rfl,⟨q,c',rfl,hk,hq,rfl,rfl⟩,st4⟩
end
section
attribute [local irreducible] CJ LJ DJ Tri YV Gives Ur J3 Ko Uq RV J5 OwL.L
section
variable {A B:Prop}
def Jog(h:A→B:=by exact Jx zrb rfl):=h
end
structure FeedOk (sw:List XSwitch) (zn:List Int) (rp:Int):Prop where
 sn:sw.length≤32
 zl:zn.length≤16
 up:Uve sw
 since:∀i:Nat,i < sw.length→0≤(sw.getD i default).since∧(sw.getD i default).since≤2147483648
 shown:∀i:Nat,i < sw.length→-1≤(sw.getD i default).shown∧(sw.getD i default).shown≤1
 zr:∀i:Nat,i < zn.length→0≤zn.getD i 0∧zn.getD i 0 < sw.length
 zd:∀i j:Nat,j < i→i < zn.length→zn.getD j 0≠zn.getD i 0
 rp:1≤rp∧rp≤100000
def Uab {β:Type} {f:Nat→Option β} {n:Nat} (h:(List.range n).findSome? f=none) {i:Nat} (hi:i < n):f i=none:=by rw [yI] at h;exact h i (List.mem_range.2 hi)
def Ydd {l:List XSwitch} {i:Nat}:Vaa l i≠some 0:=by
 rw [Vaa];repeat' split
 all_goals (intro h;first | cases h | (injection h with h;omega))
def Jnf {n:Nat} {l:List Int} {i:Nat}:Zma n l i≠some 0:=by
 rw [Zma];repeat' split
 all_goals (intro h;first | cases h | (injection h with h;omega))
def Urc {f:Nat→Option Int} {n:Nat} {e:Int} (hf:∀i,f i≠some 0) (h:(List.range n).findSome? f=some e):e≠0:=by obtain ⟨i,_,hi⟩:=yz h;rintro rfl;exact hf _ hi
def Vi {sw:List XSwitch} {zn:List Int} {rp:Int} (h:feedE sw zn rp=0):FeedOk sw zn rp:=by
 by_cases h0:32 < sw.length∨16 < zn.length;·rw [feedE,if_pos h0] at h;omega
 cases h1:(List.range sw.length).findSome? (Vaa sw) with
 | some e=>rw [J9b h0 h1] at h;exact absurd h (Urc (fun _=>Ydd) h1)
 | none=>
  cases h2:(List.range zn.length).findSome? (Zma sw.length zn) with
  | some e=>rw [Ujc h0 h1 h2] at h;exact absurd h (Urc (fun _=>Jnf) h2)
  | none=>
   rw [Krb h0 h1 h2] at h;have hs:∀i:Nat,i < sw.length→(-1≤(sw.getD i default).above∧(sw.getD i default).above < i)∧(0≤(sw.getD i default).since∧(sw.getD i default).since≤2147483648)∧(-1≤(sw.getD i default).shown∧(sw.getD i default).shown≤1):=fun i hi=>by
    have:=Uab h1 hi;rw [Vaa] at this;split at this;·cases this
    split at this;·cases this
    split at this;·cases this
    rename_i k1 k2 k3;rw [not_or] at k3;omega
   have hz:∀i:Nat,i < zn.length→(0≤zn.getD i 0∧zn.getD i 0 < sw.length)∧∀j:Nat,j < i→zn.getD j 0≠zn.getD i 0:=fun i hi=>by
    have:=Uab h2 hi;rw [Zma] at this;split at this;·cases this
    split at this;·cases this
    rename_i k1 k2;exact ⟨by omega,fun j hj hh=>k2 ⟨j,hj,hh⟩⟩
   refine ⟨by omega,by omega,fun i hi=>(hs i hi).1,fun i hi=>(hs i hi).2.1,fun i hi=>(hs i hi).2.2,fun i hi=>(hz i hi).1,fun i j hj hi=>(hz i hi).2 j hj,?_⟩;by_cases hr:rp < 1∨100000 < rp;·rw [if_pos hr] at h;omega
   ·omega
def Uka (sw:List XSwitch) (zn:List Int) (rp:Int) (s:Int):List Int:=if feedE sw zn rp≠0∨s < 0∨(sw.length:Int)≤s then [] else Kxa sw s
def Jde (f:XFeeder) (s:Int) (L:LB) (R:LS):
 Tri Tryz.prog 90 [f.val,.int .i64 s].toArray L R (fun v M U=>∃bs bf,v=.func (.func 171) #[] #[.pointer (some ⟨bs,0,none⟩),.pointer (some ⟨bf,0,none⟩)]∧(⟨bs,[.int .i64 s],3⟩ :: ⟨bf,f.cells,42⟩ :: L)=M∧R=U):=by refine Jd 6 Tryz.call90 Tryz.func90 rfl rfl rfl ?_;apply (Xaf);intro b2;refine Vrd (v:=Value.int _ _) rfl rfl rfl ?_;intro b3;refine Jx (Uh rfl) rfl ?_;apply (qam);refine Jx (U2c rfl) rfl ?_;refine Jx (Uh rfl) rfl ?_;apply (qa0);refine q_r (⟨b3,[.int .i64 s],3⟩ :: ⟨b2,f.cells,42⟩ :: L) R (U8 rfl (Jj rfl)) ?_;exact ⟨b3,b2,rfl,rfl,rfl⟩
def K1d (f:XFeeder) (s:Int) (bs bf:Nat) (L:LB) (R:LS) (hsR:InR (Zmb f.switches) R) (hu:Uve f.switches.l) (hn:f.switches.l.length≤1000) (hc:s < f.switches.l.length):
 Tri Tryz.prog 89 [.func (.func 171) #[] #[.pointer (some ⟨bs, 0, none⟩), .pointer (some ⟨bf, 0, none⟩)]].toArray (⟨bs, [.int .i64 s], 3⟩ :: ⟨bf, f.cells, 42⟩ :: L) R
  (fun v M U=>∃(q:OwL Int) (c':Int),v=q.val∧q.ok 1 Jk∧q.l=Kxa f.switches.l s∧q.L 3 Jk ++ (⟨bs,[.int .i64 c'],3⟩ :: ⟨bf,f.cells,42⟩ :: L)=M∧R=U):=by refine Jd 5 Tryz.call89 Tryz.func89 rfl rfl rfl ?_;apply qae∘Xcv;refine Jx zXb rfl ?_;refine Jm rfl (Uic f s bs bf L R hsR hu hn hc) rfl ?_;rintro v M U ⟨q,c',rfl,hk,hq,rfl,rfl⟩;apply (Xcw);refine q_r (q.L 3 Jk ++ (⟨bs,[.int .i64 c'],3⟩ :: ⟨bf,f.cells,42⟩ :: L)) R zkd ?_;exact ⟨q,c',rfl,hk,hq,rfl,rfl⟩
def U3c (f:XFeeder) (s:Int) (L:LB) (R:LS) (hf:FeederR f R):
 Tri Tryz.prog 26 [f.val,.int .i64 s].toArray L R (fun v M U=>∃q:OwL Int,v=q.val∧q.ok 1 Jk∧q.l=Uka f.switches.l f.zones.l f.reply s∧q.L 3 Jk ++ L=M∧R=U):=by
 refine Jd 23 Tryz.call26 Tryz.func26 rfl rfl rfl ?_;apply (Xaf);intro b2;apply Xb0∘Jog;refine q_l rfl (Vt f _ _ hf) ?_;apply (Xb5);apply Kf (G:=[_,_]) (j:=3) (cj:=8) rfl rfl zb rfl zmb rfl;·intro hg4;replace hg4:=qb hg4;exact (qaa) zOd
 intro junk4;apply (qah);apply Kf (G:=[_,_,_,_,_]) (j:=7) (cj:=12) rfl rfl zb rfl zmb rfl;·intro hg8;replace hg8:=qb hg8;exact (Xd5) zCd
 intro junk8;apply (qaf);refine q_c ?_ ?_<;>intro hc0;·apply qae∘qc4∘qbh;refine q_r L R zkd ?_;exact ⟨.nil,rfl,OwL.nil_ok,by rw [Uka,if_pos za],by rw [Kj];rfl,rfl⟩
 have hok:=Vi (sw:=f.switches.l) (zn:=f.zones.l) (rp:=f.reply) za;have hsn:=hok.sn;apply qbv∘Jog∘qaa;refine Jm rfl (Jde f s _ _) rfl ?_;rintro v M U ⟨bs,bf,rfl,rfl,rfl⟩;refine Jm rfl (K1d f s bs bf _ _ hf.sw hok.up za za) rfl ?_;rintro v M U ⟨q,c',rfl,hk,hq,rfl,rfl⟩;apply (Xcw);refine q_r (q.L 3 Jk ++ L) R zkd ?_;exact ⟨q,rfl,hk,by rw [Uka,if_neg za];exact hq,rfl,rfl⟩
end
section
inductive KC where
 | i
 | b
def KC.fits : KC → Value → Prop
 | .i,.int .i64 _=>True
 | .b,.bool _=>True
 | _,_=>False
def Vga : List KC → List Value → Prop
 | [],[]=>True
 | k :: ks,v :: vs=>k.fits v∧Vga ks vs
 | _,_=>False
def Ybb : Value → Value → Bool
 | .int _ a,.int _ b=>decide (a=b)
 | .bool a,.bool b=>decide (a=b)
 | _,_=>false
def Vp : List Value → List Value → Bool
 | a :: l,b :: m=>Ybb a b && Vp l m
 | _,_=>true
def Y7c : ∀ {ks : List KC} {l : List Value}, Vga ks l → l.length = ks.length
 | [],[],_=>rfl
 | [],_ :: _,h=>h.elim
 | _ :: _,[],h=>h.elim
 | k :: ks,v :: vs,h=>by simp [Y7c h.2]
def Z7a : ∀ {ks ms : List KC} {l : List Value}, Vga (ks ++ ms) l → Vga ks (l.take ks.length) ∧ Vga ms (l.drop ks.length)
 | [],ms,l,h=>⟨by simp [Vga],by simpa using h⟩
 | k :: ks,ms,[],h=>h.elim
 | k :: ks,ms,v :: vs,h=>by
  have:=Z7a (ks:=ks) (ms:=ms) (l:=vs) h.2
  exact ⟨⟨h.1,this.1⟩,this.2⟩
def Jrb : ∀ (n : Nat) (l m : List Value), Vp l m = (Vp (l.take n) (m.take n) && Vp (l.drop n) (m.drop n))
 | 0,l,m=>by simp [Vp]
 | n + 1,[],m=>by simp [Vp]
 | n + 1,a :: l,[]=>by simp [Vp]
 | n + 1,a :: l,b :: m=>by
  simp only [List.take_succ_cons,List.drop_succ_cons,Vp]
  rw [Jrb n l m,Bool.and_assoc]
section
variable {P:Program}
def FE (P:Program) (d:Nat) (I:TypeId) (ks:List KC):Prop:=
 ∀(xs ys:List Value) (off:Nat) (w:World),Vga ks ((xs.drop off).take ks.length)→Vga ks ((ys.drop off).take ks.length)→
  ∃a b,(part I xs.toArray off).run P w=.ok a w∧(part I ys.toArray off).run P w=.ok b w∧(Op.equalIn d I a b).run P w=.ok (Vp ((xs.drop off).take ks.length) ((ys.drop off).take ks.length)) w
def Vsb {I:TypeId} {xs:List Value} {off:Nat} {v:Value} {w:World} (hag:(isAgg I).run P w=.ok false w) (h:(xs.drop off).take 1=[v]):(part I xs.toArray off).run P w=.ok v w:=by
 have hv:xs[off]?=some v:=by
  have:((xs.drop off).take 1)[0]?=some v:=by rw [h];rfl
  rw [yua] at this;simpa using this
 simp only [part,yba,hag,yC];simp [hv]
def Ypd {l:List Value} {k:KC} (h:Vga [k] l):∃v,l=[v]∧k.fits v:=by
 match l,h with
 | [v],h=>exact ⟨v,rfl,h.1⟩
def Yma {d:Nat} {I:TypeId} (h:P.underlying I=some (.int .i64)):FE P (d + 1) I [.i]:=by
 intro xs ys off w hx hy;have hag:(isAgg I).run P w=.ok false w:=by simp [isAgg,run_underlying h]
 obtain ⟨u,hu,fu⟩:=Ypd hx;obtain ⟨v,hv,fv⟩:=Ypd hy;refine ⟨u,v,Vsb hag hu,Vsb hag hv,?_⟩;have hu':(xs.drop off).take [KC.i].length=[u]:=hu;have hv':(ys.drop off).take [KC.i].length=[v]:=hv;rw [hu',hv']
 match u,v,fu,fv with
 | .int .i64 a,.int .i64 b,_,_=>rw [run_equalIn_int (P:=P) w d I .i64 .i64 a b h,V7c];simp [Vp,Ybb]
def Ukd {d:Nat} {I:TypeId} (h:P.underlying I=some .bool):FE P (d + 1) I [.b]:=by
 intro xs ys off w hx hy;have hag:(isAgg I).run P w=.ok false w:=by simp [isAgg,run_underlying h]
 obtain ⟨u,hu,fu⟩:=Ypd hx;obtain ⟨v,hv,fv⟩:=Ypd hy;refine ⟨u,v,Vsb hag hu,Vsb hag hv,?_⟩;have hu':(xs.drop off).take [KC.b].length=[u]:=hu;have hv':(ys.drop off).take [KC.b].length=[v]:=hv;rw [hu',hv']
 match u,v,fu,fv with
 | .bool a,.bool b,_,_=>rw [run_equalIn_bool (P:=P) w d I a b h];simp only [Vp,Ybb,Bool.and_true];cases a <;> cases b <;> rfl
def Kbd : Nat → List (TypeId × List KC) → List (Bool × TypeId × Nat)
 | _,[]=>[]
 | o,(I,ks) :: l=>(false,I,o) :: Kbd (o + ks.length) l
def Klc {d : Nat} : ∀ (pl : List (TypeId × List KC)) (fs : List Field) (xs ys : List Value) (off : Nat) (w : World), fs.map (fun f => (f.name == "_", f.type, f.offset)) = Kbd off pl → (∀ p ∈ pl, FE P d p.1 p.2) →
 Vga (pl.flatMap (·.2)) (xs.drop off)→Vga (pl.flatMap (·.2)) (ys.drop off)→(Op.eqFields d xs.toArray ys.toArray fs).run P w=.ok (Vp (xs.drop off) (ys.drop off)) w
 | [],fs,xs,ys,off,w,hm,_,hx,hy=>by
  have:fs=[]:=by simpa [Kbd] using hm
  subst this
  have h1:=Y7c hx
  have h2:xs.drop off=[]:=yfa zka
  rw [h2]
  simp [Op.eqFields,Vp]
 | (I,ks) :: pl,[],xs,ys,off,w,hm,_,_,_=>by simp [Kbd] at hm
 | (I,ks) :: pl,f :: fs,xs,ys,off,w,hm,hp,hx,hy=>by
  simp only [yS,Kbd,yVb,Prod.mk.injEq] at hm
  obtain ⟨⟨f1,f2,f3⟩,hm⟩:=hm
  have nf : f.name ≠ "_" := by simpa using f1
  rw [yQ] at hx hy
  obtain ⟨x1,x2⟩:=Z7a hx
  obtain ⟨y1,y2⟩:=Z7a hy
  obtain ⟨a,b,ha,hb,hab⟩:=hp (I,ks) yta xs ys off w x1 y1
  have ih:=Klc pl fs xs ys (off + ks.length) w hm (fun p h=>hp p (yK _ h)) (by rw [← ygc];exact x2) (by rw [← ygc];exact y2)
  simp only [Op.eqFields,if_pos nf,f2,f3,yba,ha,hb,hab,yC,Sem.run_ite,yAa]
  rw [Jrb ks.length (xs.drop off) (ys.drop off),ygc,ygc]
  cases hc:Vp ((xs.drop off).take ks.length) ((ys.drop off).take ks.length) with
  | false=>simp
  | true=>simpa using ih
def Uue {d : Nat} {T : TypeId} {pl : List (TypeId × List KC)} (h1 : P.underlying T = some (.struct (P.fieldsOf T))) (h2 : P.stoodInHeld T = false) (h4 : (P.fieldsOf T).toList.map (fun f => (f.name == "_", f.type, f.offset)) = Kbd 0 pl) (hp : ∀ p ∈ pl, FE P d p.1 p.2)
 {xs ys:List Value} {w:World} (hx:Vga (pl.flatMap (·.2)) xs) (hy:Vga (pl.flatMap (·.2)) ys):(Op.equalIn (d + 1) T (.agg xs.toArray) (.agg ys.toArray)).run P w=.ok (Vp xs ys) w:=by rw [run_equalIn_agg w d T _ _ h1 h2];exact Klc pl _ xs ys 0 w h4 hp hx hy
structure StrEq (P:Program) (T:TypeId) (ks:List KC):Prop where
 eq:∀(xs ys:List Value) (w:World),Vga ks xs→Vga ks ys→(Op.equalIn 10000 T (.agg xs.toArray) (.agg ys.toArray)).run P w=.ok (Vp xs ys) w
 guard:P.eqGuardType P.depth T=false
def Vxb {T : TypeId} (pl : List (TypeId × List KC)) {ks : List KC} (h1 : P.underlying T = some (.struct (P.fieldsOf T))) (h2 : P.stoodInHeld T = false) (h3 : P.eqGuardType P.depth T = false) (h4 : (P.fieldsOf T).toList.map (fun f => (f.name == "_", f.type, f.offset)) = Kbd 0 pl) (hk : pl.flatMap (·.2) = ks) (hp : ∀ p ∈ pl, FE P 9999 p.1 p.2) : StrEq P T ks :=
 ⟨fun xs ys w hx hy=>Uue h1 h2 h4 hp (by rw [hk];exact hx) (by rw [hk];exact hy),h3⟩
end
section
variable {P:Program} {ρ:Operand→Value} {L:LB} {R:LS} {dst:Option Tmp} {ty:TypeId} {pos:String} {after:Array Edge} {guard:Option (Nat×Bool)} {T T2:TypeId} {x y:Operand} {ks:List KC} {xs ys:List Value}
def Udc (hT:StrEq P T ks) (hx:ρ x=.agg xs.toArray) (hy:ρ y=.agg ys.toArray) (fx:Vga ks xs) (fy:Vga ks ys) {b:Bool} (hb:Vp xs ys=b):YV P ⟨dst,.binOp .eql T x y T2,ty,pos,after,guard⟩ ρ L R (.bool b):=fun _ w _=>by
 have h1:=run_eqGuard_agg (P:=P) w .eql T x y xs.toArray ys.toArray hT.guard
 simp only [execOp,hx,hy,yba,h1,yC,run_eql_struct,hT.eq xs ys _ fx fy,hb]
 simp
def K7b (hT:StrEq P T ks) (hx:ρ x=.agg xs.toArray) (hy:ρ y=.agg ys.toArray) (fx:Vga ks xs) (fy:Vga ks ys) {b:Bool} (hb:Vp xs ys=b):YV P ⟨dst,.binOp .neq T x y T2,ty,pos,after,guard⟩ ρ L R (.bool (!b)):=fun _ w _=>by
 have h1:=run_eqGuard_agg (P:=P) w .neq T x y xs.toArray ys.toArray hT.guard
 simp only [execOp,hx,hy,yba,h1,yC,run_neq_struct,hT.eq xs ys _ fx fy,hb]
 simp
end
def Vmg:StrEq Tryz.prog 71 [.b,.i,.i]:=
 Vxb [(4,[.b]),(3,[.i]),(3,[.i])] zc zc zc zc rfl (by
  intro p hp
  simp only [yU,yR,or_false] at hp
  rcases hp with rfl | rfl | rfl
  ·exact Ukd zc
  ·exact Yma zc
  ·exact Yma zc)
end
end Go.Proofs.YtchfclmokpbldaaGreat
