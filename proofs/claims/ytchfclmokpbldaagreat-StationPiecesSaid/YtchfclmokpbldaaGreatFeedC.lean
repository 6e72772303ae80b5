/-
  Merged texts. By an AI agent.
-/
import Derived.Test.YtchfclmokpbldaaGreatRoundA
import Derived.OwnWalkIn
import Derived.LoopNIn
import Derived.Test.YtchfclmokpbldaaGreatFits
import Derived.Test.YtchfclmokpbldaaGreatDrawC
import Derived.Laws.StructEq
import Derived.Test.YtchfclmokpbldaaGreatDraws
set_option linter.all false
set_option maxHeartbeats 4000000
set_option maxRecDepth 20000
namespace Go.Proofs.YtchfclmokpbldaaGreat
open Go.Aw Go
section
attribute [local irreducible] CJ LJ DJ Tri YV Gives Uo J0 Kj Un RV J2 OwL.L
def upF (sw : List XSwitch) : Nat → Int → List Int
 | 0,_=>[]
 | n + 1,s=>if s < 0 then [] else s :: upF sw n (sw.getD s.toNat default).above
def Yxa (sw:List XSwitch) (s:Int):List Int:=upF sw (s + 1).toNat s
def Y9e (sw:List XSwitch):Prop:=∀i:Nat,i < sw.length→-1≤(sw.getD i default).above∧(sw.getD i default).above < i
def Uee {sw:List XSwitch} (h:Y9e sw):∀(n:Nat) (s:Int),s < sw.length→(s + 1).toNat≤n→upF sw n s=Yxa sw s:=by
 intro n;induction n using Nat.strongRecOn with
 | _ n ih=>
  intro s hs hn;by_cases h0:s < 0;·
   rw [Yxa, show (s + 1).toNat = 0 by omega];cases n with
   | zero=>rfl
   | succ n=>show (if s < 0 then [] else _)=([]:List Int);rw [if_pos h0]
  ·obtain ⟨k, rfl⟩ : ∃ k, n = k + 1 := ⟨n - 1, by omega⟩;have ha:=h s.toNat za;rw [Yxa,show (s + 1).toNat=s.toNat + 1 by omega,upF,upF,if_neg za,if_neg za,ih k za _ za za,ih s.toNat za _ za za]
def Yha {sw:List XSwitch} {s:Int} (h:s < 0):Yxa sw s=[]:=by rw [Yxa,show (s + 1).toNat=0 by omega];rfl
def Kbb {sw:List XSwitch} (h:Y9e sw) {s:Int} (h0:0≤s) (h1:s < sw.length):Yxa sw s=s :: Yxa sw (sw.getD s.toNat default).above:=by have ha:=h s.toNat za;rw [Yxa,show (s + 1).toNat=s.toNat + 1 by omega,upF,if_neg za,Uee h _ _ za za]
def Yqc {sw:List XSwitch} (h:Y9e sw):∀(n:Nat) (s:Int),s < sw.length→(s + 1).toNat≤n→(Yxa sw s).length≤n:=by
 intro n;induction n with
 | zero=>intro s _ hn;rw [Yha za];exact yn _
 | succ n ih=>
  intro s hs hn;by_cases h0:s < 0;·rw [Yha h0];simp
  ·have ha := h s.toNat za;rw [Kbb h za hs,yv];have:=ih (sw.getD s.toNat default).above za za;omega
def Kxf (c:Code):Code:=match c with
 | .seq _ (.seq (.seq _ (.block _ (.rangeFunc _ _ x _))) _)=>x
 | _=>.skip
def J0e (c:Code):Code:=match c with
 | .seq _ (.seq (.seq _ (.block _ (.rangeFunc _ _ _ x))) _)=>x
 | _=>.skip
def Yxc (sv x:Value) (B:Nat):Array Value:=#[.slice none 0 0,sv,.pointer (some ⟨B,0,none⟩),undef,.slice none 0 0,undef,sv,x,undef,undef,undef,undef,undef]
def Ztb (cd:Code) (fn:FuncId) (sv:Value) (B:Nat) (st:LoopState):Loop:={ state:=st,pending:=none,fn,tmps:=Yxc sv undef B,params:=#[7],assign:=Kxf cd,body:=J0e cd,defers:=B + 1 }
def Kyc (cd:Code) (fn:FuncId) (sv:Value) (B:Nat) (st:LoopState):Obj:=.loop (Ztb cd fn sv B st)
def Jga {cd fn sv B st}:NoCells (Kyc cd fn sv B st):=⟨fun c t f h=>zH,fun es ck h=>zH⟩
def Yxe:Obj:=.deferred (some [])
def J6b:NoCells Yxe:=⟨fun c t f h=>zH,fun es ck h=>zH⟩
def Zie (t:Array Value) (n:Nat) (h:t.size=n):Fr n (fun k=>t.getD k undef) { tmps:=t,defers:=[] }:=⟨rfl,h,fun _=>rfl⟩
def U4f (o:Oper):Bool:=match o.op with
 | .defer _=>true
 | _=>false
def Yif {ops:List Oper} (h:ops.any U4f=false):∀o∈ops,∀c,o.op≠.defer c:=fun o ho c e=>by
 have:=List.any_eq_false.1 h o ho
 rw [U4f,e] at this
 exact this rfl
section
variable {w0:World} {Lc:LB} {G:Nat→Prop} {R:LS} (hh:Holds Lc G R w0)
include hh
def Uje {fn:FuncId} {sv:Value} {m:Nat} {Lf:LB} {p:OwL Int} (hok:p.ok 1 Ji) (hlen:p.l.length≤1000000) (x:Int) {W:World} (h:At2 w0 Lc G R (w0.heap.size + 1) Yxe (Kyc (Tryz.f170.body.getD .skip) fn sv w0.heap.size .ready) (⟨w0.heap.size,[p.val],40⟩ :: (p.L 3 Ji ++ Lf)) W):
 YieldAt Fence.wide m Tryz.prog (w0.heap.size + 1 + 1) #[.int .i64 x] W fun e W'=>e=.returned (.bool true)∧∃o,(⟨o,p.l ++ [x]⟩:OwL Int).ok 1 Ji∧At2 w0 Lc G R (w0.heap.size + 1) Yxe (Kyc (Tryz.f170.body.getD .skip) fn sv w0.heap.size .ready) (⟨w0.heap.size,[(⟨o,p.l ++ [x]⟩:OwL Int).val],40⟩ :: ((⟨o,p.l ++ [x]⟩:OwL Int).L 3 Ji ++ Lf)) W':=by
 refine ⟨fn,Yxc sv (.int .i64 x) w0.heap.size,(Kxf (Tryz.f170.body.getD .skip)),(J0e (Tryz.f170.body.getD .skip)),(by have:=run_yield (P:=Tryz.prog) (args:=#[.int .i64 x]) (r:=Ztb (Tryz.f170.body.getD .skip) fn sv w0.heap.size .ready) h.lp rfl;simpa [Ztb,Yxc] using this),roundIn_of_wpIn trivial ?_⟩;refine At2.round hh J6b Jga h (t:=fun k=>(Yxc sv (.int .i64 x) w0.heap.size).getD k undef) (Q:=fun e t M U=>e=.normal∧(t 5=.int .i64 x∧t 2=.pointer (some ⟨w0.heap.size,0,none⟩))∧M=(⟨w0.heap.size,[p.val],40⟩ :: (p.L 3 Ji ++ Lf))∧U=R) (Zie _ 13 rfl) (Yif rfl) ?_ (fun _ _ _ h=>by cases h.1) ?_;·refine Jx (Uz zgb) rfl ?_;exact J5 ⟨rfl,⟨rfl,rfl⟩,rfl,rfl⟩
 rintro e a1 W1 t1 L1 R1 ⟨rfl,⟨ht5,ht2⟩,rfl,rfl⟩ hf1 h1;refine ⟨_,run_beginRound h1.lp rfl,?_⟩;have h2:=At2.put hh za Jga (Jga (cd:=(Tryz.f170.body.getD .skip)) (fn:=fn) (sv:=sv) (B:=w0.heap.size) (st:=.busy)) h1;show (Code.block _ _).wpIn _ _ _ _ _ _;refine wpIn_block ?_;refine At2.round hh J6b Jga h2 (Q:=fun e t M U=>e=.normal∧∃o,(⟨o,p.l ++ [x]⟩:OwL Int).ok 1 Ji∧(⟨w0.heap.size,[(⟨o,p.l ++ [x]⟩:OwL Int).val],40⟩ :: ((⟨o,p.l ++ [x]⟩:OwL Int).L 3 Ji ++ Lf)).Sublist M) hf1 (Yif rfl) ?_ (fun _ _ _ h=>by cases h.1) ?_;·refine Jx (Kx tb ht2 rfl rfl zf zb) rfl ?_;refine Jx (Jz (v:=.int .i64 x) ht5) rfl ?_;apply (qcx);rintro v M U ⟨b88,rfl,rfl,hR88⟩;replace hR88:=hR88.symm;subst hR88;refine Yl (Jr (f:=Ji) (a:=x) tb rfl rfl rfl rfl hok zj zob rfl za) rfl ?_;rintro v M U ⟨o,rfl,hok89,rfl,rfl⟩;refine Uga (v:=Value.slice _ _ _) tb rfl ht2 rfl rfl zB rfl rfl zb ?_;exact J5 ⟨rfl,o,hok89,yAa _ _⟩
 rintro e a3 W3 t3 L3 R3 ⟨rfl,o,hok3,hsub⟩ hf3 h3;have h4:At2 _ _ _ _ _ _ _ _ _:=⟨h3.st.weak hsub zxb,h3.df,h3.lp⟩;exact ⟨_,_,run_endRound none h4.lp,rfl,o,hok3,At2.put hh za Jga Jga h4⟩
def Zjd (w:World) (b:Nat):Int:=match w.cell? ⟨b,0,none⟩ with
 | some (.int _ n)=>n
 | _=>-1
def Jeg {fn : FuncId} {sv : Value} {m : Nat} {f : XFeeder} {bs bf : Nat} {L : LB} (hsR : InR (Jqd f.switches) R) (hu : Y9e f.switches.l) (hn : f.switches.l.length ≤ 1000) {cur : Int} (hc : cur < f.switches.l.length) {W : World} {p : OwL Int} (hk : p.ok 1 Ji) (hpl : p.l = [])
 (h:At2 w0 Lc G R (w0.heap.size + 1) Yxe (Kyc (Tryz.f170.body.getD .skip) fn sv w0.heap.size .ready) (⟨w0.heap.size,[p.val],40⟩ :: (p.L 3 Ji ++ (⟨bs,[.int .i64 cur],3⟩ :: ⟨bf,f.cells,42⟩ :: L))) W):
 CallsIn Fence.wide m Tryz.prog 171 #[.func (.yield (w0.heap.size + 1 + 1)) #[] #[],.pointer (some ⟨bs,0,none⟩),.pointer (some ⟨bf,0,none⟩)] W fun e W'=>(∃v,e=.returned v)∧∃(q:OwL Int) (c':Int),q.ok 1 Ji∧q.l=Yxa f.switches.l cur∧
  At2 w0 Lc G R (w0.heap.size + 1) Yxe (Kyc (Tryz.f170.body.getD .skip) fn sv w0.heap.size .ready) (⟨w0.heap.size,[q.val],40⟩ :: (q.L 3 Ji ++ (⟨bs,[.int .i64 c'],3⟩ :: ⟨bf,f.cells,42⟩ :: L))) W':=by
 refine callsIn_of_wp Tryz.func171 rfl trivial ?_ rfl;simp only [Tryz.ntmps171,ydc,yv,yL,Nat.reduceAdd,Nat.reduceSub,Array.replicate_succ,Array.replicate_zero,List.push_toArray,List.append_toArray,yw,yz];refine wpIn_block ?_;refine wpIn_loop (fun a w=>∃(t:Nat→Value) (q:OwL Int) (c':Int),Fr 16 t a∧(t 0=.func (.yield (w0.heap.size + 1 + 1)) #[] #[]∧t 1=.pointer (some ⟨bs,0,none⟩)∧t 2=.pointer (some ⟨bf,0,none⟩))∧q.ok 1 Ji∧(-1≤c'∨True)∧c' < f.switches.l.length∧Yxa f.switches.l cur=q.l ++ Yxa f.switches.l c'∧
  At2 w0 Lc G R (w0.heap.size + 1) Yxe (Kyc (Tryz.f170.body.getD .skip) fn sv w0.heap.size .ready) (⟨w0.heap.size,[q.val],40⟩ :: (q.L 3 Ji ++ (⟨bs,[.int .i64 c'],3⟩ :: ⟨bf,f.cells,42⟩ :: L))) w) (fun _ w=>(Zjd w bs + 1).toNat) ?_ ?_
 ·exact ⟨_,p,cur,Zie _ 16 rfl,⟨rfl,rfl,rfl⟩,hk,.inr trivial,hc,by rw [hpl];rfl,h⟩
 rintro a w ⟨t,q,c',hf,⟨t0,t1,t2⟩,hk,_,hc',hp,h⟩;have hnum:Zjd w bs=c':=by have:=Jia (b:=bs) (cs:=[.int .i64 c']) (T:=3) h.st (yT _ (yk _ yGa)) 0;rw [Zjd,this];rfl
 refine wpIn_seq (wpIn_seq ?_);refine At2.plain hh J6b Jga h (Q:=fun e t' M U=>e=.normal∧((t' 0=.func (.yield (w0.heap.size + 1 + 1)) #[] #[]∧t' 1=.pointer (some ⟨bs,0,none⟩)∧t' 2=.pointer (some ⟨bf,0,none⟩))∧t' 5=.bool (decide (0≤c')))∧(⟨w0.heap.size,[q.val],40⟩ :: (q.L 3 Ji ++ (⟨bs,[.int .i64 c'],3⟩ :: ⟨bf,f.cells,42⟩ :: L)))=M) hf ?_ ?_;·refine Jf ?_;refine Jx (Kx tb t1 rfl rfl zf zb) rfl ?_;apply (qbz);exact J5 ⟨rfl,⟨⟨t0,t1,t2⟩,rfl⟩,rfl⟩
 rintro e a1 w1 t' L1 R1 ⟨rfl,⟨⟨t0,t1,t2⟩,t5⟩,rfl⟩ hf1 h1;refine wpIn_cond (t:=decide (0≤c')) (by rw [hf1.eval];exact t5) ?_;by_cases h0:0≤c';·
  rw [decide_eq_true h0, if_pos rfl];refine wpIn_skip ?_;refine wpIn_seq (wpIn_block (wpIn_seq ?_));refine wpIn_region_lit ?_;refine Jfg hf1 h1.st (Jz (v:=.func (.yield (w0.heap.size + 1 + 1)) #[] #[]) t0) rfl fun a2 hf2=>?_;refine Jfg hf2 h1.st (Kx tb t1 rfl rfl zf zb) rfl fun a3 hf3=>?_;have hpl2:q.l.length≤1000000:=by have:=Yqc hu _ cur hc (yn _);rw [hp,yj] at this;omega
  refine Yme (v:=.int .i64 c') hf3 rfl rfl rfl (Uje hh hk hpl2 c' h1) fun a4 w4 hf4 ⟨o,hok4,h4⟩=>?_;refine Jfg hf4 h4.st (Kpb rfl) rfl fun a5 hf5=>?_;show Exit.then _ _ Exit.normal _ _;refine wpIn_cond (t:=false) (by rw [hf5.eval];rfl) ?_;rw [if_neg zo];refine wpIn_skip ?_;have hg:=Ju (l:=f.switches.l) (k:=c'.toNat) default za;have ha:=hu c'.toNat za;refine At2.plain hh J6b Jga h4 (Q:=fun e t' M U=>e=.normal∧(t' 0=.func (.yield (w0.heap.size + 1 + 1)) #[] #[]∧t' 1=.pointer (some ⟨bs,0,none⟩)∧t' 2=.pointer (some ⟨bf,0,none⟩))∧
   ⟨w0.heap.size,[(⟨o,q.l ++ [c']⟩:OwL Int).val],40⟩ :: ((⟨o,q.l ++ [c']⟩:OwL Int).L 3 Ji ++ (⟨bs,[.int .i64 (f.switches.l.getD c'.toNat default).above],3⟩ :: ⟨bf,f.cells,42⟩ :: L))=M) hf5 ?_ ?_
  ·refine Jf ?_;refine Jx (Uc tb rfl (show _=Value.pointer (some ⟨bf,0,none⟩) from t2) rfl) rfl ?_;apply (qac);refine Jx (Kx tb (show _=Value.pointer (some ⟨bs,0,none⟩) from t1) rfl rfl zf zb) rfl ?_;refine Jx (Jh tb rfl rfl rfl rfl hsR (i:=c'.toNat) za za) rfl ?_;apply (qb0);refine Jx (Y9 tb rfl rfl rfl hsR hg rfl) rfl ?_;refine Uga (v:=Value.int _ _) tb rfl (show _=Value.pointer (some ⟨bs,0,none⟩) from t1) rfl rfl zB rfl rfl zb ?_;exact J5 ⟨rfl,⟨t0,t1,t2⟩,rfl⟩
  rintro e a6 w6 t6 L6 R6 ⟨rfl,ht6,rfl⟩ hf6 h6;have hnum6:Zjd w6 bs=(f.switches.l.getD c'.toNat default).above:=by have:=Jia (b:=bs) (cs:=[.int .i64 (f.switches.l.getD c'.toNat default).above]) (T:=3) h6.st (yT _ (yk _ yGa)) 0;rw [Zjd,this];rfl
  refine ⟨⟨t6,⟨o,q.l ++ [c']⟩,_,hf6,ht6,hok4,.inr trivial,by omega,?_,h6⟩,?_⟩;·rw [hp,Kbb hu h0 hc',yo];rfl
  ·rw [hnum,hnum6];omega
 ·rw [decide_eq_false h0, if_neg zo];refine wpIn_exit ?_;simp only [Exit.then,Exit.inBlock,if_true];refine ⟨hf1.defers,_,results_none rfl _ _ _,⟨_,rfl⟩,q,c',hk,?_,h1⟩;rw [hp,Yha za,yfa]
end
def Khc (f:XFeeder) (s:Int) (bs bf:Nat) (L:LB) (R:LS) (hsR:InR (Jqd f.switches) R) (hu:Y9e f.switches.l) (hn:f.switches.l.length≤1000) (hc:s < f.switches.l.length):
 Tri Tryz.prog 170 [.slice none 0 0, .func (.func 171) #[] #[.pointer (some ⟨bs, 0, none⟩), .pointer (some ⟨bf, 0, none⟩)]].toArray (⟨bs, [.int .i64 s], 3⟩ :: ⟨bf, f.cells, 42⟩ :: L) R
  (fun v M U=>∃(q:OwL Int) (c':Int),v=q.val∧q.ok 1 Ji∧q.l=Yxa f.switches.l s∧q.L 3 Ji ++ (⟨bs,[.int .i64 c'],3⟩ :: ⟨bf,f.cells,42⟩ :: L)=M∧R=U):=by
 refine Tri.raw Tryz.call170 fun w G hh=>(callsIn_wide (n:=5)).1 ?_;refine callsIn_of_wp_marks Tryz.func170 rfl trivial ?_ rfl;simp only [Tryz.ntmps170,ydc,yv,yL,Nat.reduceAdd,Nat.reduceSub,Array.replicate_succ,Array.replicate_zero,List.push_toArray,List.append_toArray,yw,yz]
 gi_wp2
 refine wpIn_rangeFunc ?_;intro fn hfn;obtain ⟨sv,hsv⟩:∃sv:Value,sv=.func (.func 171) #[] #[.pointer (some ⟨bs,0,none⟩),.pointer (some ⟨bf,0,none⟩)]:=⟨_,rfl⟩;obtain ⟨W0,hW0⟩:∃W0,w.alloc (.cells #[.slice none 0 0] 40)=W0:=⟨_,rfl⟩;have hs0:W0.heap.size=w.heap.size + 1:=by rw [← hW0];simp
 have st0:St ⟨w,inL (⟨bs,[.int .i64 s],3⟩ :: ⟨bf,f.cells,42⟩ :: L),G⟩ (⟨w.heap.size,[.slice none 0 0],40⟩ :: ⟨bs,[.int .i64 s],3⟩ :: ⟨bf,f.cells,42⟩ :: L) R W0:=by rw [← hW0];exact (St.init hh).alloc #[.slice none 0 0] 40
 rw [hW0];obtain ⟨W1,hW1⟩:∃W1,(W0.alloc Yxe).alloc (Kyc (Tryz.f170.body.getD .skip) fn sv w.heap.size .ready)=W1:=⟨_,rfl⟩;have hA:At2 w (⟨bs,[.int .i64 s],3⟩ :: ⟨bf,f.cells,42⟩ :: L) G R (w.heap.size + 1) Yxe (Kyc (Tryz.f170.body.getD .skip) fn sv w.heap.size .ready) (⟨w.heap.size,[(OwL.nil:OwL Int).val],40⟩ :: ((OwL.nil:OwL Int).L 3 Ji ++ (⟨bs,[.int .i64 s],3⟩ :: ⟨bf,f.cells,42⟩ :: L))) W1:=by
  rw [← hW1];refine ⟨(by rw [Ku,yw];exact (st0.allocO J6b).allocO Jga),?_,?_⟩;·rw [← hs0];exact (Yae _ _ _ zo).trans (World.alloc_heap_new W0 _)
  ·have := World.alloc_heap_new (W0.alloc Yxe) (Kyc (Tryz.f170.body.getD .skip) fn sv w.heap.size .ready);rwa [World.size_alloc,hs0] at this
 refine ⟨w.heap.size + 1 + 1,[{ target:=.collected (w.heap.size + 1),args:=#[] }],W1,{ target:=.fn (.func 171) #[.pointer (some ⟨bs,0,none⟩),.pointer (some ⟨bf,0,none⟩)],args:=#[.func (.yield (w.heap.size + 1 + 1)) #[] #[]] },W1,171,
  #[.func (.yield (w.heap.size + 1 + 1)) #[] #[],.pointer (some ⟨bs,0,none⟩),.pointer (some ⟨bf,0,none⟩)],W1,?_,?_,fun _ _=>trivial,?_,fun h=>zH,?_⟩
 ·have := run_enterLoop_outer (P := Tryz.prog) (w := W0) fn (Yxc sv undef w.heap.size) #[7] (Kxf (Tryz.f170.body.getD .skip)) (J0e (Tryz.f170.body.getD .skip));rw [hs0] at this;rw [← hW1,hsv];rw [hsv] at this;exact this
 ·simp [resolve,go_sem]
 ·simp [invoke,go_sem,Tryz.call171]
 ·
  refine (Jeg hh hsR hu hn hc OwL.nil_ok rfl hA).mono ?_;rintro e W2 ⟨⟨v0,rfl⟩,q,c',hk,hq,h2⟩;have hend:=run_endLoop (P:=Tryz.prog) h2.lp (by simp [Ztb]);have h3:=At2.put hh za Jga (ol':=.loop { Ztb (Tryz.f170.body.getD .skip) fn sv w.heap.size .ready with state:=.exhausted }) ⟨fun c t f h=>zH,fun es ck h=>zH⟩ h2;obtain ⟨W3,hW3⟩:∃W3,W2.putObj (w.heap.size + 1 + 1) (.loop { Ztb (Tryz.f170.body.getD .skip) fn sv w.heap.size .ready with state:=.exhausted })=W3:=⟨_,rfl⟩;rw [hW3] at hend h3;have hc3:W3.cell? ⟨w.heap.size,0,none⟩=some q.val:=Jia (b:=w.heap.size) (cs:=[q.val]) (T:=40) h3.st yGa 0;have hd3:=h3.df;have st3:=h3.st;clear hW3 h3 h2 hA hW1 st0 hW0;refine ⟨none,W3,hend,?_⟩
  gi_wp2
  have st4:=(st3.put hh hd3 J6b (o':=.deferred none) ⟨fun c t f h=>zH,fun es ck h=>zH⟩ za).weak (yAa _ _) zxb;refine ⟨by simp,.inl ⟨_,_,rfl,run_takeDeferred hd3,?_⟩⟩;exact ⟨_,results_tmp rfl _ _ _,q.val,_,_,rfl,⟨q,c',rfl,hk,hq,rfl,rfl⟩,st4⟩
end
section
attribute [local irreducible] CJ LJ DJ Tri YV Gives Uo J0 Kj Un RV J2 OwL.L
section
variable {A B:Prop}
def Ujf(h:A→B:=by exact Jx zjb rfl):=h
end
structure FeedOk (sw:List XSwitch) (zn:List Int) (rp:Int):Prop where
 sn:sw.length≤32
 zl:zn.length≤16
 up:Y9e sw
 since:∀i:Nat,i < sw.length→0≤(sw.getD i default).since∧(sw.getD i default).since≤2147483648
 shown:∀i:Nat,i < sw.length→-1≤(sw.getD i default).shown∧(sw.getD i default).shown≤1
 zr:∀i:Nat,i < zn.length→0≤zn.getD i 0∧zn.getD i 0 < sw.length
 zd:∀i j:Nat,j < i→i < zn.length→zn.getD j 0≠zn.getD i 0
 rp:1≤rp∧rp≤100000
def Keb {β:Type} {f:Nat→Option β} {n:Nat} (h:(List.range n).findSome? f=none) {i:Nat} (hi:i < n):f i=none:=by rw [yE] at h;exact h i (List.mem_range.2 hi)
def U6d {l:List XSwitch} {i:Nat}:Uha l i≠some 0:=by
 rw [Uha];repeat' split
 all_goals (intro h;first | cases h | (injection h with h;omega))
def K9e {n:Nat} {l:List Int} {i:Nat}:Yta n l i≠some 0:=by
 rw [Yta];repeat' split
 all_goals (intro h;first | cases h | (injection h with h;omega))
def K5c {f:Nat→Option Int} {n:Nat} {e:Int} (hf:∀i,f i≠some 0) (h:(List.range n).findSome? f=some e):e≠0:=by obtain ⟨i,_,hi⟩:=yy h;rintro rfl;exact hf _ hi
def Z1 {sw:List XSwitch} {zn:List Int} {rp:Int} (h:feedE sw zn rp=0):FeedOk sw zn rp:=by
 by_cases h0:32 < sw.length∨16 < zn.length;·rw [feedE,if_pos h0] at h;omega
 cases h1:(List.range sw.length).findSome? (Uha sw) with
 | some e=>rw [Z9a h0 h1] at h;exact absurd h (K5c (fun _=>U6d) h1)
 | none=>
  cases h2:(List.range zn.length).findSome? (Yta sw.length zn) with
  | some e=>rw [Kvc h0 h1 h2] at h;exact absurd h (K5c (fun _=>K9e) h2)
  | none=>
   rw [Jrb h0 h1 h2] at h;have hs:∀i:Nat,i < sw.length→(-1≤(sw.getD i default).above∧(sw.getD i default).above < i)∧(0≤(sw.getD i default).since∧(sw.getD i default).since≤2147483648)∧(-1≤(sw.getD i default).shown∧(sw.getD i default).shown≤1):=fun i hi=>by
    have:=Keb h1 hi;rw [Uha] at this;split at this;·cases this
    split at this;·cases this
    split at this;·cases this
    rename_i k1 k2 k3;rw [not_or] at k3;omega
   have hz:∀i:Nat,i < zn.length→(0≤zn.getD i 0∧zn.getD i 0 < sw.length)∧∀j:Nat,j < i→zn.getD j 0≠zn.getD i 0:=fun i hi=>by
    have:=Keb h2 hi;rw [Yta] at this;split at this;·cases this
    split at this;·cases this
    rename_i k1 k2;exact ⟨by omega,fun j hj hh=>k2 ⟨j,hj,hh⟩⟩
   refine ⟨by omega,by omega,fun i hi=>(hs i hi).1,fun i hi=>(hs i hi).2.1,fun i hi=>(hs i hi).2.2,fun i hi=>(hz i hi).1,fun i j hj hi=>(hz i hi).2 j hj,?_⟩;by_cases hr:rp < 1∨100000 < rp;·rw [if_pos hr] at h;omega
   ·omega
def J5b (sw:List XSwitch) (zn:List Int) (rp:Int) (s:Int):List Int:=if feedE sw zn rp≠0∨s < 0∨(sw.length:Int)≤s then [] else Yxa sw s
def Vwd (f:XFeeder) (s:Int) (L:LB) (R:LS):
 Tri Tryz.prog 90 [f.val,.int .i64 s].toArray L R (fun v M U=>∃bs bf,v=.func (.func 171) #[] #[.pointer (some ⟨bs,0,none⟩),.pointer (some ⟨bf,0,none⟩)]∧(⟨bs,[.int .i64 s],3⟩ :: ⟨bf,f.cells,42⟩ :: L)=M∧R=U):=by refine Je 6 Tryz.call90 Tryz.func90 rfl rfl rfl ?_;apply (Xag);intro b2;refine Zhc (v:=Value.int _ _) rfl rfl rfl ?_;intro b3;refine Jx (Uz rfl) rfl ?_;apply (qam);refine Jx (Zpc rfl) rfl ?_;refine Jx (Uz rfl) rfl ?_;apply (qa0);refine q_r (⟨b3,[.int .i64 s],3⟩ :: ⟨b2,f.cells,42⟩ :: L) R (U8 rfl (Jj rfl)) ?_;exact ⟨b3,b2,rfl,rfl,rfl⟩
def Zgc (f:XFeeder) (s:Int) (bs bf:Nat) (L:LB) (R:LS) (hsR:InR (Jqd f.switches) R) (hu:Y9e f.switches.l) (hn:f.switches.l.length≤1000) (hc:s < f.switches.l.length):
 Tri Tryz.prog 89 [.func (.func 171) #[] #[.pointer (some ⟨bs, 0, none⟩), .pointer (some ⟨bf, 0, none⟩)]].toArray (⟨bs, [.int .i64 s], 3⟩ :: ⟨bf, f.cells, 42⟩ :: L) R
  (fun v M U=>∃(q:OwL Int) (c':Int),v=q.val∧q.ok 1 Ji∧q.l=Yxa f.switches.l s∧q.L 3 Ji ++ (⟨bs,[.int .i64 c'],3⟩ :: ⟨bf,f.cells,42⟩ :: L)=M∧R=U):=by refine Je 5 Tryz.call89 Tryz.func89 rfl rfl rfl ?_;apply Xcz∘qam;refine Jx zSb rfl ?_;refine Jq rfl (Khc f s bs bf L R hsR hu hn hc) rfl ?_;rintro v M U ⟨q,c',rfl,hk,hq,rfl,rfl⟩;apply (Xct);refine q_r (q.L 3 Ji ++ (⟨bs,[.int .i64 c'],3⟩ :: ⟨bf,f.cells,42⟩ :: L)) R zTc ?_;exact ⟨q,c',rfl,hk,hq,rfl,rfl⟩
def Uie (f:XFeeder) (s:Int) (L:LB) (R:LS) (hf:FeederR f R):
 Tri Tryz.prog 26 [f.val,.int .i64 s].toArray L R (fun v M U=>∃q:OwL Int,v=q.val∧q.ok 1 Ji∧q.l=J5b f.switches.l f.zones.l f.reply s∧q.L 3 Ji ++ L=M∧R=U):=by
 refine Je 23 Tryz.call26 Tryz.func26 rfl rfl rfl ?_;apply (Xag);intro b2;apply Xbv∘Ujf;refine q_l rfl (Zu f _ _ hf) ?_;apply (Xcn);apply Kf (G:=[_,_]) (j:=3) (cj:=8) rfl rfl zb rfl zfb rfl;·intro hg4;replace hg4:=qb hg4;exact (qaa) zxd
 intro junk4;apply (qah);apply Kf (G:=[_,_,_,_,_]) (j:=7) (cj:=12) rfl rfl zb rfl zfb rfl;·intro hg8;replace hg8:=qb hg8;exact zQd
 intro junk8;apply (qaf);refine q_c ?_ ?_<;>intro hc0;·apply Xcz∘qbh;refine q_r L R zTc ?_;exact ⟨.nil,rfl,OwL.nil_ok,by rw [J5b,if_pos za],by rw [Ku];rfl,rfl⟩
 have hok:=Z1 (sw:=f.switches.l) (zn:=f.zones.l) (rp:=f.reply) za;have hsn:=hok.sn;apply qbv∘Ujf∘qaa;refine Jq rfl (Vwd f s _ _) rfl ?_;rintro v M U ⟨bs,bf,rfl,rfl,rfl⟩;refine Jq rfl (Zgc f s bs bf _ _ hf.sw hok.up za za) rfl ?_;rintro v M U ⟨q,c',rfl,hk,hq,rfl,rfl⟩;apply (Xct);refine q_r (q.L 3 Ji ++ L) R zTc ?_;exact ⟨q,rfl,hk,by rw [J5b,if_neg za];exact hq,rfl,rfl⟩
end
section
inductive KC where
 | i
 | b
def KC.fits : KC → Value → Prop
 | .i,.int .i64 _=>True
 | .b,.bool _=>True
 | _,_=>False
def Uza : List KC → List Value → Prop
 | [],[]=>True
 | k :: ks,v :: vs=>k.fits v∧Uza ks vs
 | _,_=>False
def Jye : Value → Value → Bool
 | .int _ a,.int _ b=>decide (a=b)
 | .bool a,.bool b=>decide (a=b)
 | _,_=>false
def Yh : List Value → List Value → Bool
 | a :: l,b :: m=>Jye a b && Yh l m
 | _,_=>true
def Y0c : ∀ {ks : List KC} {l : List Value}, Uza ks l → l.length = ks.length
 | [],[],_=>rfl
 | [],_ :: _,h=>h.elim
 | _ :: _,[],h=>h.elim
 | k :: ks,v :: vs,h=>by simp [Y0c h.2]
def Zua : ∀ {ks ms : List KC} {l : List Value}, Uza (ks ++ ms) l → Uza ks (l.take ks.length) ∧ Uza ms (l.drop ks.length)
 | [],ms,l,h=>⟨by simp [Uza],by simpa using h⟩
 | k :: ks,ms,[],h=>h.elim
 | k :: ks,ms,v :: vs,h=>by
  have:=Zua (ks:=ks) (ms:=ms) (l:=vs) h.2
  exact ⟨⟨h.1,this.1⟩,this.2⟩
def Jqb : ∀ (n : Nat) (l m : List Value), Yh l m = (Yh (l.take n) (m.take n) && Yh (l.drop n) (m.drop n))
 | 0,l,m=>by simp [Yh]
 | n + 1,[],m=>by simp [Yh]
 | n + 1,a :: l,[]=>by simp [Yh]
 | n + 1,a :: l,b :: m=>by
  simp only [List.take_succ_cons,List.drop_succ_cons,Yh]
  rw [Jqb n l m,Bool.and_assoc]
section
variable {P:Program}
def FE (P:Program) (d:Nat) (I:TypeId) (ks:List KC):Prop:=
 ∀(xs ys:List Value) (off:Nat) (w:World),Uza ks ((xs.drop off).take ks.length)→Uza ks ((ys.drop off).take ks.length)→
  ∃a b,(part I xs.toArray off).run P w=.ok a w∧(part I ys.toArray off).run P w=.ok b w∧(Op.equalIn d I a b).run P w=.ok (Yh ((xs.drop off).take ks.length) ((ys.drop off).take ks.length)) w
def Uwd {I:TypeId} {xs:List Value} {off:Nat} {v:Value} {w:World} (hag:(isAgg I).run P w=.ok false w) (h:(xs.drop off).take 1=[v]):(part I xs.toArray off).run P w=.ok v w:=by
 have hv:xs[off]?=some v:=by
  have:((xs.drop off).take 1)[0]?=some v:=by rw [h];rfl
  rw [yra] at this;simpa using this
 simp only [part,yY,hag,yA];simp [hv]
def Zqe {l:List Value} {k:KC} (h:Uza [k] l):∃v,l=[v]∧k.fits v:=by
 match l,h with
 | [v],h=>exact ⟨v,rfl,h.1⟩
def K4d {d:Nat} {I:TypeId} (h:P.underlying I=some (.int .i64)):FE P (d + 1) I [.i]:=by
 intro xs ys off w hx hy;have hag:(isAgg I).run P w=.ok false w:=by simp [isAgg,run_underlying h]
 obtain ⟨u,hu,fu⟩:=Zqe hx;obtain ⟨v,hv,fv⟩:=Zqe hy;refine ⟨u,v,Uwd hag hu,Uwd hag hv,?_⟩;have hu':(xs.drop off).take [KC.i].length=[u]:=hu;have hv':(ys.drop off).take [KC.i].length=[v]:=hv;rw [hu',hv']
 match u,v,fu,fv with
 | .int .i64 a,.int .i64 b,_,_=>rw [run_equalIn_int (P:=P) w d I .i64 .i64 a b h,Kac];simp [Yh,Jye]
def V9c : Nat → List (TypeId × List KC) → List (Bool × TypeId × Nat)
 | _,[]=>[]
 | o,(I,ks) :: l=>(false,I,o) :: V9c (o + ks.length) l
def Z6b {d : Nat} : ∀ (pl : List (TypeId × List KC)) (fs : List Field) (xs ys : List Value) (off : Nat) (w : World), fs.map (fun f => (f.name == "_", f.type, f.offset)) = V9c off pl → (∀ p ∈ pl, FE P d p.1 p.2) →
 Uza (pl.flatMap (·.2)) (xs.drop off)→Uza (pl.flatMap (·.2)) (ys.drop off)→(Op.eqFields d xs.toArray ys.toArray fs).run P w=.ok (Yh (xs.drop off) (ys.drop off)) w
 | [],fs,xs,ys,off,w,hm,_,hx,hy=>by
  have:fs=[]:=by simpa [V9c] using hm
  subst this
  have h1:=Y0c hx
  have h2:xs.drop off=[]:=yea zga
  rw [h2]
  simp [Op.eqFields,Yh]
 | (I,ks) :: pl,[],xs,ys,off,w,hm,_,_,_=>by simp [V9c] at hm
 | (I,ks) :: pl,f :: fs,xs,ys,off,w,hm,hp,hx,hy=>by
  simp only [yQ,V9c,yUb,Prod.mk.injEq] at hm
  obtain ⟨⟨f1,f2,f3⟩,hm⟩:=hm
  have nf : f.name ≠ "_" := by simpa using f1
  rw [yN] at hx hy
  obtain ⟨x1,x2⟩:=Zua hx
  obtain ⟨y1,y2⟩:=Zua hy
  obtain ⟨a,b,ha,hb,hab⟩:=hp (I,ks) yGa xs ys off w x1 y1
  have ih:=Z6b pl fs xs ys (off + ks.length) w hm (fun p h=>hp p (yT _ h)) (by rw [← yac];exact x2) (by rw [← yac];exact y2)
  simp only [Op.eqFields,if_pos nf,f2,f3,yY,ha,hb,hab,yA,Sem.run_ite,yva]
  rw [Jqb ks.length (xs.drop off) (ys.drop off),yac,yac]
  cases hc:Yh ((xs.drop off).take ks.length) ((ys.drop off).take ks.length) with
  | false=>simp
  | true=>simpa using ih
def Vlc {d : Nat} {T : TypeId} {pl : List (TypeId × List KC)} (h1 : P.underlying T = some (.struct (P.fieldsOf T))) (h2 : P.stoodInHeld T = false) (h4 : (P.fieldsOf T).toList.map (fun f => (f.name == "_", f.type, f.offset)) = V9c 0 pl) (hp : ∀ p ∈ pl, FE P d p.1 p.2)
 {xs ys:List Value} {w:World} (hx:Uza (pl.flatMap (·.2)) xs) (hy:Uza (pl.flatMap (·.2)) ys):(Op.equalIn (d + 1) T (.agg xs.toArray) (.agg ys.toArray)).run P w=.ok (Yh xs ys) w:=by rw [run_equalIn_agg w d T _ _ h1 h2];exact Z6b pl _ xs ys 0 w h4 hp hx hy
def Vrf {d : Nat} {I : TypeId} {pl : List (TypeId × List KC)} {i : TypeInfo} (h1 : P.underlying I = some (.struct (P.fieldsOf I))) (h2 : P.stoodInHeld I = false) (hi : P.info? I = some i) (hc : P.cellsOf I = (pl.flatMap (·.2)).length) (h4 : (P.fieldsOf I).toList.map (fun f => (f.name == "_", f.type, f.offset)) = V9c 0 pl) (hp : ∀ p ∈ pl, FE P d p.1 p.2) :
 FE P (d + 1) I (pl.flatMap (·.2)):=by
 intro xs ys off w hx hy;have hag:(isAgg I).run P w=.ok true w:=by simp [isAgg,run_underlying h1]
 have hs:(sizeOf I).run P w=.ok (pl.flatMap (·.2)).length w:=by rw [run_sizeOf w hi,hc]
 have pt:∀zs:List Value,(part I zs.toArray off).run P w=.ok (.agg ((zs.drop off).take (pl.flatMap (·.2)).length).toArray) w:=fun zs=>by simp only [part,yY,hag,yA,if_true,hs,yva];congr 2;simp
 exact ⟨_,_,pt xs,pt ys,Vlc h1 h2 h4 hp hx hy⟩
structure StrEq (P:Program) (T:TypeId) (ks:List KC):Prop where
 eq:∀(xs ys:List Value) (w:World),Uza ks xs→Uza ks ys→(Op.equalIn 10000 T (.agg xs.toArray) (.agg ys.toArray)).run P w=.ok (Yh xs ys) w
 guard:P.eqGuardType P.depth T=false
def Und {T : TypeId} (pl : List (TypeId × List KC)) {ks : List KC} (h1 : P.underlying T = some (.struct (P.fieldsOf T))) (h2 : P.stoodInHeld T = false) (h3 : P.eqGuardType P.depth T = false) (h4 : (P.fieldsOf T).toList.map (fun f => (f.name == "_", f.type, f.offset)) = V9c 0 pl) (hk : pl.flatMap (·.2) = ks) (hp : ∀ p ∈ pl, FE P 9999 p.1 p.2) : StrEq P T ks :=
 ⟨fun xs ys w hx hy=>Vlc h1 h2 h4 hp (by rw [hk];exact hx) (by rw [hk];exact hy),h3⟩
end
section
variable {P:Program} {ρ:Operand→Value} {L:LB} {R:LS} {dst:Option Tmp} {ty:TypeId} {pos:String} {after:Array Edge} {guard:Option (Nat×Bool)} {T T2:TypeId} {x y:Operand} {ks:List KC} {xs ys:List Value}
def Yjd (hT:StrEq P T ks) (hx:ρ x=.agg xs.toArray) (hy:ρ y=.agg ys.toArray) (fx:Uza ks xs) (fy:Uza ks ys) {b:Bool} (hb:Yh xs ys=b):YV P ⟨dst,.binOp .eql T x y T2,ty,pos,after,guard⟩ ρ L R (.bool b):=fun _ w _=>by
 have h1:=run_eqGuard_agg (P:=P) w .eql T x y xs.toArray ys.toArray hT.guard
 simp only [execOp,hx,hy,yY,h1,yA,run_eql_struct,hT.eq xs ys _ fx fy,hb]
 simp
def Yqd (hT:StrEq P T ks) (hx:ρ x=.agg xs.toArray) (hy:ρ y=.agg ys.toArray) (fx:Uza ks xs) (fy:Uza ks ys) {b:Bool} (hb:Yh xs ys=b):YV P ⟨dst,.binOp .neq T x y T2,ty,pos,after,guard⟩ ρ L R (.bool (!b)):=fun _ w _=>by
 have h1:=run_eqGuard_agg (P:=P) w .neq T x y xs.toArray ys.toArray hT.guard
 simp only [execOp,hx,hy,yY,h1,yA,run_neq_struct,hT.eq xs ys _ fx fy,hb]
 simp
end
end
section
attribute [local irreducible] CJ LJ DJ Tri YV Gives Uo J0 Kj Un RV J2 OwL.L
section
variable {A B:Prop}
def Zve(h:A→B:=by exact Jx zjb rfl):=h
end
def Vka (sw:List XSwitch) (t:Int):Prop:=(0≤t∧t≤2147483648)∧∀x∈sw,x.since≤t
instance (sw:List XSwitch) (t:Int):Decidable (Vka sw t):=by unfold Vka;infer_instance
def Jvd (sw:List XSwitch) (zn:List Int) (rp s t:Int):Int:=if feedE sw zn rp≠0 then feedE sw zn rp else if s < 0∨(sw.length:Int)≤s then 16 else if Vka sw t then 0 else 8
def Zzb (f:XFeeder) (t:Int) (L:LB) (R:LS) (hf:FeederR f R):
 Tri Tryz.prog 227 [f.val,.int .i64 t].toArray L R (fun v M U=>v=.bool (decide (Vka f.switches.l t))∧L=M∧R=U):=by
 have hsR:=hf.sw;refine Jzb Tryz.call227 hsR fun hcap=>?_;refine Je 25 Tryz.call227 Tryz.func227 rfl rfl rfl ?_;apply (Xag);intro b2;apply qaz∘qaw∘Xb5;apply Kf (G:=[_,_]) (j:=2) (cj:=9) rfl rfl zb rfl zfb rfl;·exact zdd
 intro junk3;apply (qaf);refine q_c ?_ ?_<;>intro hc0;·apply Xbm∘qbh;refine q_b L R ?_;exact ⟨by rw [decide_eq_false (fun h=>by have:=h.1;omega)],rfl,rfl⟩
 apply (Xcp);refine Jk [(1,.int _ _),(14,.slice _ _ _),(15,.int _ _),(16,.int _ _)] zh fun tq0=>?_;refine q_s ([4,6]++rg 16 9) (fun g:{k:Nat // k≤f.switches.l.length∧∀j:Nat,j < k→(f.switches.l.getD j default).since≤t}=>[(16,.int .i64 ((g.1:Nat):Int))]) (fun g=>f.switches.l.length - g.1) (⟨0,by omega,fun j hj=>by omega⟩) ?_;rintro ⟨k,hk,hal⟩ junk;try dsimp only
 apply (Xan);refine q_c ?_ ?_<;>intro hc1;·
  have hg:=Ju (l:=f.switches.l) (k:=k) default za;apply (qbb);refine Jx zD rfl ?_;apply qdw∘qaq;intro b6;apply Xa1∘qaa∘Xaa∘Xa2;refine q_c ?_ ?_<;>intro hc2;·apply Xbm∘qbt;refine q_b L R ?_;exact ⟨by rw [decide_eq_false (fun h=>by have:=h.2 _ (yi hg);omega)],rfl,rfl⟩
  exact uaM
 apply qbk∘Xbl;refine q_b L R ?_;refine ⟨by rw [decide_eq_true (p:=Vka f.switches.l t)];refine ⟨by omega,fun x hx=>?_⟩;obtain ⟨j,hj,rfl⟩:=yvb hx;have:=hal j za;rwa [yh,yH hj] at this,rfl,rfl⟩
def Jod (f:XFeeder) (s t:Int) (L:LB) (R:LS) (hf:FeederR f R):
 Tri Tryz.prog 150 [f.val,.int .i64 s,.int .i64 t].toArray L R (fun v M U=>v=.int .i64 (Jvd f.switches.l f.zones.l f.reply s t)∧L=M∧R=U):=by
 refine Je 26 Tryz.call150 Tryz.func150 rfl rfl rfl ?_;apply (Xag);intro b3;apply Xaq∘Zve;refine q_l rfl (Zu f _ _ hf) ?_;apply (Xbp);refine q_c ?_ ?_<;>intro hc0;·apply (Xdr);refine q_i L R ?_;exact ⟨by rw [Jvd,if_pos hc0],rfl,rfl⟩
 apply qbo∘Xb5;apply Kf (G:=[_,_,_,_,_]) (j:=2) (cj:=15) rfl rfl zb rfl zfb rfl;·intro hg3;replace hg3:=qb hg3;exact zQd
 intro junk3;apply (qaf);refine q_c ?_ ?_<;>intro hc1;·apply (Xa6);refine q_i L R ?_;exact ⟨by rw [Jvd,if_neg za,if_pos za],rfl,rfl⟩
 apply qbo∘Zve∘qaa;refine q_l rfl (Zzb f t _ _ hf) ?_;apply (Xbg);refine q_c ?_ ?_<;>intro hc2;·apply (Xa6);refine q_i L R ?_;exact ⟨by rw [Jvd,if_neg za,if_neg za,if_neg zP],rfl,rfl⟩
 apply (Xco);refine q_i L R ?_;exact ⟨by rw [Jvd,if_neg za,if_neg za,if_pos zP],rfl,rfl⟩
def Upc (f:XFeeder) (L:LB) (R:LS) (hf:FeederR f R) (hn:f.switches.l.length≤1000∧f.zones.l.length≤1000):
 Tri Tryz.prog 151 [f.val].toArray L R (fun v M U=>∃(p:OwL XSwitch) (q:OwL Int),v=.agg #[p.val,q.val,.int .i64 f.reply]∧(p.ok 5 XSwitch.cells∧q.ok 1 Ji)∧p.l=f.switches.l∧q.l=f.zones.l∧q.L 3 Ji ++ (p.L 76 XSwitch.cells ++ L)=M∧R=U):=by have hsR:=hf.sw;have hzR:=hf.zn;refine Je 12 Tryz.call151 Tryz.func151 rfl rfl rfl ?_;apply (Xag);intro b1;apply (qaq);intro b2;apply (Xcr);refine Yl (Ky (f:=XSwitch.cells) (xs:=f.switches) tb rfl rfl rfl ze rfl rfl (hsR) yf za) rfl ?_;rintro v M U ⟨o5,rfl,hok5,rfl,rfl⟩;apply Xa9∘Xcr;refine Yl (Ky (f:=Ji) (xs:=f.zones) tb rfl rfl rfl ze rfl rfl (hzR) yf za) rfl ?_;rintro v M U ⟨o9,rfl,hok9,rfl,rfl⟩;apply Xa9∘qam∘Zve∘Xa8;refine q_r ((⟨o9,f.zones.l⟩:OwL Int).L 3 Ji ++ ((⟨o5,f.switches.l⟩:OwL XSwitch).L 76 XSwitch.cells ++ L)) R (U8 rfl zkb) ?_;exact ⟨⟨o5,f.switches.l⟩,⟨o9,f.zones.l⟩,rfl,⟨hok5,hok9⟩,rfl,rfl,rfl,rfl⟩
def Vef (sw:List XSwitch) (zn:List Int) (rp s t:Int):Int:=
 if Jvd sw zn rp s t≠0 then Jvd sw zn rp s t
 else if (sw.getD s.toNat default).shown≠-1∨(0≤(sw.getD s.toNat default).above∧(sw.getD (sw.getD s.toNat default).above.toNat default).shown≠1) then 10 else 0
def Zye (sw:List XSwitch) (s t:Int):List XSwitch:=sw.set s.toNat ⟨(sw.getD s.toNat default).above,t,0,true,false⟩
end
end Go.Proofs.YtchfclmokpbldaaGreat
