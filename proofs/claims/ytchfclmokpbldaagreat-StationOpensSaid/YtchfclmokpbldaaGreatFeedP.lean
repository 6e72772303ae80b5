/-
  Merged texts. By an AI agent.
-/
import Derived.Test.YtchfclmokpbldaaGreatRoundA
import Derived.OwnWalkIn
import Derived.LoopNIn
import Derived.Test.YtchfclmokpbldaaGreatFits
set_option linter.all false
set_option maxHeartbeats 4000000
set_option maxRecDepth 20000
namespace Go.Proofs.YtchfclmokpbldaaGreat
open Go.Aw Go
section
attribute [local irreducible] CJ LJ DJ Tri YV Gives U7 Kb Kp U8 RV Ke OwL.L
def upF (sw : List XSwitch) : Nat → Int → List Int
 | 0,_=>[]
 | n + 1,s=>if s < 0 then [] else s :: upF sw n (sw.getD s.toNat default).above
def Zia (sw:List XSwitch) (s:Int):List Int:=upF sw (s + 1).toNat s
def Jbf (sw:List XSwitch):Prop:=∀i:Nat,i < sw.length→-1≤(sw.getD i default).above∧(sw.getD i default).above < i
def Yle {sw:List XSwitch} (h:Jbf sw):∀(n:Nat) (s:Int),s < sw.length→(s + 1).toNat≤n→upF sw n s=Zia sw s:=by
 intro n;induction n using Nat.strongRecOn with
 | _ n ih=>
  intro s hs hn;by_cases h0:s < 0;·
   rw [Zia, show (s + 1).toNat = 0 by omega];cases n with
   | zero=>rfl
   | succ n=>show (if s < 0 then [] else _)=([]:List Int);rw [if_pos h0]
  ·obtain ⟨k, rfl⟩ : ∃ k, n = k + 1 := ⟨n - 1, by omega⟩;have ha:=h s.toNat zc;rw [Zia,show (s + 1).toNat=s.toNat + 1 by omega,upF,upF,if_neg zc,if_neg zc,ih k zc _ zc zc,ih s.toNat zc _ zc zc]
def Yoa {sw:List XSwitch} {s:Int} (h:s < 0):Zia sw s=[]:=by rw [Zia,show (s + 1).toNat=0 by omega];rfl
def Ubb {sw:List XSwitch} (h:Jbf sw) {s:Int} (h0:0≤s) (h1:s < sw.length):Zia sw s=s :: Zia sw (sw.getD s.toNat default).above:=by have ha:=h s.toNat zc;rw [Zia,show (s + 1).toNat=s.toNat + 1 by omega,upF,if_neg zc,Yle h _ _ zc zc]
def Yfc {sw:List XSwitch} (h:Jbf sw):∀(n:Nat) (s:Int),s < sw.length→(s + 1).toNat≤n→(Zia sw s).length≤n:=by
 intro n;induction n with
 | zero=>intro s _ hn;rw [Yoa zc];exact yn _
 | succ n ih=>
  intro s hs hn;by_cases h0:s < 0;·rw [Yoa h0];simp
  ·have ha := h s.toNat zc;rw [Ubb h zc hs,yC];have:=ih (sw.getD s.toNat default).above zc zc;omega
def Uuf (c:Code):Code:=match c with
 | .seq _ (.seq (.seq _ (.block _ (.rangeFunc _ _ x _))) _)=>x
 | _=>.skip
def Z4d (c:Code):Code:=match c with
 | .seq _ (.seq (.seq _ (.block _ (.rangeFunc _ _ _ x))) _)=>x
 | _=>.skip
def Vzc (sv x:Value) (B:Nat):Array Value:=#[.slice none 0 0,sv,.pointer (some ⟨B,0,none⟩),undef,.slice none 0 0,undef,sv,x,undef,undef,undef,undef,undef]
def Kjc (cd:Code) (fn:FuncId) (sv:Value) (B:Nat) (st:LoopState):Loop:={ state:=st,pending:=none,fn,tmps:=Vzc sv undef B,params:=#[7],assign:=Uuf cd,body:=Z4d cd,defers:=B + 1 }
def Vdc (cd:Code) (fn:FuncId) (sv:Value) (B:Nat) (st:LoopState):Obj:=.loop (Kjc cd fn sv B st)
def J0a {cd fn sv B st}:NoCells (Vdc cd fn sv B st):=⟨fun c t f h=>zL,fun es ck h=>zL⟩
def Y3e:Obj:=.deferred (some [])
def K1b:NoCells Y3e:=⟨fun c t f h=>zL,fun es ck h=>zL⟩
def Jff (t:Array Value) (n:Nat) (h:t.size=n):Fr n (fun k=>t.getD k undef) { tmps:=t,defers:=[] }:=⟨rfl,h,fun _=>rfl⟩
def Zbf (o:Oper):Bool:=match o.op with
 | .defer _=>true
 | _=>false
def Zcf {ops:List Oper} (h:ops.any Zbf=false):∀o∈ops,∀c,o.op≠.defer c:=fun o ho c e=>by
 have:=List.any_eq_false.1 h o ho
 rw [Zbf,e] at this
 exact this rfl
section
variable {w0:World} {Lc:LB} {G:Nat→Prop} {R:LS} (hh:Holds Lc G R w0)
include hh
def Uye {fn:FuncId} {sv:Value} {m:Nat} {Lf:LB} {p:OwL Int} (hok:p.ok 1 Jj) (hlen:p.l.length≤1000000) (x:Int) {W:World} (h:At2 w0 Lc G R (w0.heap.size + 1) Y3e (Vdc (Tryz.f170.body.getD .skip) fn sv w0.heap.size .ready) (⟨w0.heap.size,[p.val],40⟩ :: (p.L 3 Jj ++ Lf)) W):
 YieldAt Fence.wide m Tryz.prog (w0.heap.size + 1 + 1) #[.int .i64 x] W fun e W'=>e=.returned (.bool true)∧∃o,(⟨o,p.l ++ [x]⟩:OwL Int).ok 1 Jj∧At2 w0 Lc G R (w0.heap.size + 1) Y3e (Vdc (Tryz.f170.body.getD .skip) fn sv w0.heap.size .ready) (⟨w0.heap.size,[(⟨o,p.l ++ [x]⟩:OwL Int).val],40⟩ :: ((⟨o,p.l ++ [x]⟩:OwL Int).L 3 Jj ++ Lf)) W':=by
 refine ⟨fn,Vzc sv (.int .i64 x) w0.heap.size,(Uuf (Tryz.f170.body.getD .skip)),(Z4d (Tryz.f170.body.getD .skip)),(by have:=run_yield (P:=Tryz.prog) (args:=#[.int .i64 x]) (r:=Kjc (Tryz.f170.body.getD .skip) fn sv w0.heap.size .ready) h.lp rfl;simpa [Kjc,Vzc] using this),roundIn_of_wpIn trivial ?_⟩;refine At2.round hh K1b J0a h (t:=fun k=>(Vzc sv (.int .i64 x) w0.heap.size).getD k undef) (Q:=fun e t M U=>e=.normal∧(t 5=.int .i64 x∧t 2=.pointer (some ⟨w0.heap.size,0,none⟩))∧M=(⟨w0.heap.size,[p.val],40⟩ :: (p.L 3 Jj ++ Lf))∧U=R) (Jff _ 13 rfl) (Zcf rfl) ?_ (fun _ _ _ h=>by cases h.1) ?_;·refine J0 (Ux zub) rfl ?_;exact J6 ⟨rfl,⟨rfl,rfl⟩,rfl,rfl⟩
 rintro e a1 W1 t1 L1 R1 ⟨rfl,⟨ht5,ht2⟩,rfl,rfl⟩ hf1 h1;refine ⟨_,run_beginRound h1.lp rfl,?_⟩;have h2:=At2.put hh zc J0a (J0a (cd:=(Tryz.f170.body.getD .skip)) (fn:=fn) (sv:=sv) (B:=w0.heap.size) (st:=.busy)) h1;show (Code.block _ _).wpIn _ _ _ _ _ _;refine wpIn_block ?_;refine At2.round hh K1b J0a h2 (Q:=fun e t M U=>e=.normal∧∃o,(⟨o,p.l ++ [x]⟩:OwL Int).ok 1 Jj∧(⟨w0.heap.size,[(⟨o,p.l ++ [x]⟩:OwL Int).val],40⟩ :: ((⟨o,p.l ++ [x]⟩:OwL Int).L 3 Jj ++ Lf)).Sublist M) hf1 (Zcf rfl) ?_ (fun _ _ _ h=>by cases h.1) ?_;·refine J0 (Ks tb ht2 rfl rfl zh ze) rfl ?_;refine J0 (J2 (v:=.int .i64 x) ht5) rfl ?_;apply (qcx);rintro v M U ⟨b88,rfl,rfl,hR88⟩;replace hR88:=hR88.symm;subst hR88;refine Y6 (Jq (f:=Jj) (a:=x) tb rfl rfl rfl rfl hok zm zCb rfl zc) rfl ?_;rintro v M U ⟨o,rfl,hok89,rfl,rfl⟩;refine Uoa (v:=Value.slice _ _ _) tb rfl ht2 rfl rfl zD rfl rfl ze ?_;exact J6 ⟨rfl,o,hok89,ysa _ _⟩
 rintro e a3 W3 t3 L3 R3 ⟨rfl,o,hok3,hsub⟩ hf3 h3;have h4:At2 _ _ _ _ _ _ _ _ _:=⟨h3.st.weak hsub zJb,h3.df,h3.lp⟩;exact ⟨_,_,run_endRound none h4.lp,rfl,o,hok3,At2.put hh zc J0a J0a h4⟩
def Zvd (w:World) (b:Nat):Int:=match w.cell? ⟨b,0,none⟩ with
 | some (.int _ n)=>n
 | _=>-1
def K2g {fn : FuncId} {sv : Value} {m : Nat} {f : XFeeder} {bs bf : Nat} {L : LB} (hsR : InR (Z4b f.switches) R) (hu : Jbf f.switches.l) (hn : f.switches.l.length ≤ 1000) {cur : Int} (hc : cur < f.switches.l.length) {W : World} {p : OwL Int} (hk : p.ok 1 Jj) (hpl : p.l = [])
 (h:At2 w0 Lc G R (w0.heap.size + 1) Y3e (Vdc (Tryz.f170.body.getD .skip) fn sv w0.heap.size .ready) (⟨w0.heap.size,[p.val],40⟩ :: (p.L 3 Jj ++ (⟨bs,[.int .i64 cur],3⟩ :: ⟨bf,f.cells,42⟩ :: L))) W):
 CallsIn Fence.wide m Tryz.prog 171 #[.func (.yield (w0.heap.size + 1 + 1)) #[] #[],.pointer (some ⟨bs,0,none⟩),.pointer (some ⟨bf,0,none⟩)] W fun e W'=>(∃v,e=.returned v)∧∃(q:OwL Int) (c':Int),q.ok 1 Jj∧q.l=Zia f.switches.l cur∧
  At2 w0 Lc G R (w0.heap.size + 1) Y3e (Vdc (Tryz.f170.body.getD .skip) fn sv w0.heap.size .ready) (⟨w0.heap.size,[q.val],40⟩ :: (q.L 3 Jj ++ (⟨bs,[.int .i64 c'],3⟩ :: ⟨bf,f.cells,42⟩ :: L))) W':=by
 refine callsIn_of_wp Tryz.func171 rfl trivial ?_ rfl;simp only [Tryz.ntmps171,yWb,yC,yV,Nat.reduceAdd,Nat.reduceSub,Array.replicate_succ,Array.replicate_zero,List.push_toArray,List.append_toArray,yv,yA];refine wpIn_block ?_;refine wpIn_loop (fun a w=>∃(t:Nat→Value) (q:OwL Int) (c':Int),Fr 16 t a∧(t 0=.func (.yield (w0.heap.size + 1 + 1)) #[] #[]∧t 1=.pointer (some ⟨bs,0,none⟩)∧t 2=.pointer (some ⟨bf,0,none⟩))∧q.ok 1 Jj∧(-1≤c'∨True)∧c' < f.switches.l.length∧Zia f.switches.l cur=q.l ++ Zia f.switches.l c'∧
  At2 w0 Lc G R (w0.heap.size + 1) Y3e (Vdc (Tryz.f170.body.getD .skip) fn sv w0.heap.size .ready) (⟨w0.heap.size,[q.val],40⟩ :: (q.L 3 Jj ++ (⟨bs,[.int .i64 c'],3⟩ :: ⟨bf,f.cells,42⟩ :: L))) w) (fun _ w=>(Zvd w bs + 1).toNat) ?_ ?_
 ·exact ⟨_,p,cur,Jff _ 16 rfl,⟨rfl,rfl,rfl⟩,hk,.inr trivial,hc,by rw [hpl];rfl,h⟩
 rintro a w ⟨t,q,c',hf,⟨t0,t1,t2⟩,hk,_,hc',hp,h⟩;have hnum:Zvd w bs=c':=by have:=Jya (b:=bs) (cs:=[.int .i64 c']) (T:=3) h.st (yU _ (yl _ yya)) 0;rw [Zvd,this];rfl
 refine wpIn_seq (wpIn_seq ?_);refine At2.plain hh K1b J0a h (Q:=fun e t' M U=>e=.normal∧((t' 0=.func (.yield (w0.heap.size + 1 + 1)) #[] #[]∧t' 1=.pointer (some ⟨bs,0,none⟩)∧t' 2=.pointer (some ⟨bf,0,none⟩))∧t' 5=.bool (decide (0≤c')))∧(⟨w0.heap.size,[q.val],40⟩ :: (q.L 3 Jj ++ (⟨bs,[.int .i64 c'],3⟩ :: ⟨bf,f.cells,42⟩ :: L)))=M) hf ?_ ?_;·refine Je ?_;refine J0 (Ks tb t1 rfl rfl zh ze) rfl ?_;apply (qbz);exact J6 ⟨rfl,⟨⟨t0,t1,t2⟩,rfl⟩,rfl⟩
 rintro e a1 w1 t' L1 R1 ⟨rfl,⟨⟨t0,t1,t2⟩,t5⟩,rfl⟩ hf1 h1;refine wpIn_cond (t:=decide (0≤c')) (by rw [hf1.eval];exact t5) ?_;by_cases h0:0≤c';·
  rw [decide_eq_true h0, if_pos rfl];refine wpIn_skip ?_;refine wpIn_seq (wpIn_block (wpIn_seq ?_));refine wpIn_region_lit ?_;refine Kug hf1 h1.st (J2 (v:=.func (.yield (w0.heap.size + 1 + 1)) #[] #[]) t0) rfl fun a2 hf2=>?_;refine Kug hf2 h1.st (Ks tb t1 rfl rfl zh ze) rfl fun a3 hf3=>?_;have hpl2:q.l.length≤1000000:=by have:=Yfc hu _ cur hc (yn _);rw [hp,yj] at this;omega
  refine Zle (v:=.int .i64 c') hf3 rfl rfl rfl (Uye hh hk hpl2 c' h1) fun a4 w4 hf4 ⟨o,hok4,h4⟩=>?_;refine Kug hf4 h4.st (Uva rfl) rfl fun a5 hf5=>?_;show Exit.then _ _ Exit.normal _ _;refine wpIn_cond (t:=false) (by rw [hf5.eval];rfl) ?_;rw [if_neg zq];refine wpIn_skip ?_;have hg:=Js (l:=f.switches.l) (k:=c'.toNat) default zc;have ha:=hu c'.toNat zc;refine At2.plain hh K1b J0a h4 (Q:=fun e t' M U=>e=.normal∧(t' 0=.func (.yield (w0.heap.size + 1 + 1)) #[] #[]∧t' 1=.pointer (some ⟨bs,0,none⟩)∧t' 2=.pointer (some ⟨bf,0,none⟩))∧
   ⟨w0.heap.size,[(⟨o,q.l ++ [c']⟩:OwL Int).val],40⟩ :: ((⟨o,q.l ++ [c']⟩:OwL Int).L 3 Jj ++ (⟨bs,[.int .i64 (f.switches.l.getD c'.toNat default).above],3⟩ :: ⟨bf,f.cells,42⟩ :: L))=M) hf5 ?_ ?_
  ·refine Je ?_;refine J0 (Uk tb rfl (show _=Value.pointer (some ⟨bf,0,none⟩) from t2) rfl) rfl ?_;apply (qac);refine J0 (Ks tb (show _=Value.pointer (some ⟨bs,0,none⟩) from t1) rfl rfl zh ze) rfl ?_;refine J0 (Jf tb rfl rfl rfl rfl hsR (i:=c'.toNat) zc zc) rfl ?_;apply (qb0);refine J0 (Zg tb rfl rfl rfl hsR hg rfl) rfl ?_;refine Uoa (v:=Value.int _ _) tb rfl (show _=Value.pointer (some ⟨bs,0,none⟩) from t1) rfl rfl zD rfl rfl ze ?_;exact J6 ⟨rfl,⟨t0,t1,t2⟩,rfl⟩
  rintro e a6 w6 t6 L6 R6 ⟨rfl,ht6,rfl⟩ hf6 h6;have hnum6:Zvd w6 bs=(f.switches.l.getD c'.toNat default).above:=by have:=Jya (b:=bs) (cs:=[.int .i64 (f.switches.l.getD c'.toNat default).above]) (T:=3) h6.st (yU _ (yl _ yya)) 0;rw [Zvd,this];rfl
  refine ⟨⟨t6,⟨o,q.l ++ [c']⟩,_,hf6,ht6,hok4,.inr trivial,by omega,?_,h6⟩,?_⟩;·rw [hp,Ubb hu h0 hc',yp];rfl
  ·rw [hnum,hnum6];omega
 ·rw [decide_eq_false h0, if_neg zq];refine wpIn_exit ?_;simp only [Exit.then,Exit.inBlock,if_true];refine ⟨hf1.defers,_,results_none rfl _ _ _,⟨_,rfl⟩,q,c',hk,?_,h1⟩;rw [hp,Yoa zc,yla]
end
def Vkc (f:XFeeder) (s:Int) (bs bf:Nat) (L:LB) (R:LS) (hsR:InR (Z4b f.switches) R) (hu:Jbf f.switches.l) (hn:f.switches.l.length≤1000) (hc:s < f.switches.l.length):
 Tri Tryz.prog 170 [.slice none 0 0, .func (.func 171) #[] #[.pointer (some ⟨bs, 0, none⟩), .pointer (some ⟨bf, 0, none⟩)]].toArray (⟨bs, [.int .i64 s], 3⟩ :: ⟨bf, f.cells, 42⟩ :: L) R
  (fun v M U=>∃(q:OwL Int) (c':Int),v=q.val∧q.ok 1 Jj∧q.l=Zia f.switches.l s∧q.L 3 Jj ++ (⟨bs,[.int .i64 c'],3⟩ :: ⟨bf,f.cells,42⟩ :: L)=M∧R=U):=by
 refine Tri.raw Tryz.call170 fun w G hh=>(callsIn_wide (n:=5)).1 ?_;refine callsIn_of_wp_marks Tryz.func170 rfl trivial ?_ rfl;simp only [Tryz.ntmps170,yWb,yC,yV,Nat.reduceAdd,Nat.reduceSub,Array.replicate_succ,Array.replicate_zero,List.push_toArray,List.append_toArray,yv,yA]
 gi_wp2
 refine wpIn_rangeFunc ?_;intro fn hfn;obtain ⟨sv,hsv⟩:∃sv:Value,sv=.func (.func 171) #[] #[.pointer (some ⟨bs,0,none⟩),.pointer (some ⟨bf,0,none⟩)]:=⟨_,rfl⟩;obtain ⟨W0,hW0⟩:∃W0,w.alloc (.cells #[.slice none 0 0] 40)=W0:=⟨_,rfl⟩;have hs0:W0.heap.size=w.heap.size + 1:=by rw [← hW0];simp
 have st0:St ⟨w,inL (⟨bs,[.int .i64 s],3⟩ :: ⟨bf,f.cells,42⟩ :: L),G⟩ (⟨w.heap.size,[.slice none 0 0],40⟩ :: ⟨bs,[.int .i64 s],3⟩ :: ⟨bf,f.cells,42⟩ :: L) R W0:=by rw [← hW0];exact (St.init hh).alloc #[.slice none 0 0] 40
 rw [hW0];obtain ⟨W1,hW1⟩:∃W1,(W0.alloc Y3e).alloc (Vdc (Tryz.f170.body.getD .skip) fn sv w.heap.size .ready)=W1:=⟨_,rfl⟩;have hA:At2 w (⟨bs,[.int .i64 s],3⟩ :: ⟨bf,f.cells,42⟩ :: L) G R (w.heap.size + 1) Y3e (Vdc (Tryz.f170.body.getD .skip) fn sv w.heap.size .ready) (⟨w.heap.size,[(OwL.nil:OwL Int).val],40⟩ :: ((OwL.nil:OwL Int).L 3 Jj ++ (⟨bs,[.int .i64 s],3⟩ :: ⟨bf,f.cells,42⟩ :: L))) W1:=by
  rw [← hW1];refine ⟨(by rw [Kr,yv];exact (st0.allocO K1b).allocO J0a),?_,?_⟩;·rw [← hs0];exact (Y2e _ _ _ zq).trans (World.alloc_heap_new W0 _)
  ·have := World.alloc_heap_new (W0.alloc Y3e) (Vdc (Tryz.f170.body.getD .skip) fn sv w.heap.size .ready);rwa [World.size_alloc,hs0] at this
 refine ⟨w.heap.size + 1 + 1,[{ target:=.collected (w.heap.size + 1),args:=#[] }],W1,{ target:=.fn (.func 171) #[.pointer (some ⟨bs,0,none⟩),.pointer (some ⟨bf,0,none⟩)],args:=#[.func (.yield (w.heap.size + 1 + 1)) #[] #[]] },W1,171,
  #[.func (.yield (w.heap.size + 1 + 1)) #[] #[],.pointer (some ⟨bs,0,none⟩),.pointer (some ⟨bf,0,none⟩)],W1,?_,?_,fun _ _=>trivial,?_,fun h=>zL,?_⟩
 ·have := run_enterLoop_outer (P := Tryz.prog) (w := W0) fn (Vzc sv undef w.heap.size) #[7] (Uuf (Tryz.f170.body.getD .skip)) (Z4d (Tryz.f170.body.getD .skip));rw [hs0] at this;rw [← hW1,hsv];rw [hsv] at this;exact this
 ·simp [resolve,go_sem]
 ·simp [invoke,go_sem,Tryz.call171]
 ·
  refine (K2g hh hsR hu hn hc OwL.nil_ok rfl hA).mono ?_;rintro e W2 ⟨⟨v0,rfl⟩,q,c',hk,hq,h2⟩;have hend:=run_endLoop (P:=Tryz.prog) h2.lp (by simp [Kjc]);have h3:=At2.put hh zc J0a (ol':=.loop { Kjc (Tryz.f170.body.getD .skip) fn sv w.heap.size .ready with state:=.exhausted }) ⟨fun c t f h=>zL,fun es ck h=>zL⟩ h2;obtain ⟨W3,hW3⟩:∃W3,W2.putObj (w.heap.size + 1 + 1) (.loop { Kjc (Tryz.f170.body.getD .skip) fn sv w.heap.size .ready with state:=.exhausted })=W3:=⟨_,rfl⟩;rw [hW3] at hend h3;have hc3:W3.cell? ⟨w.heap.size,0,none⟩=some q.val:=Jya (b:=w.heap.size) (cs:=[q.val]) (T:=40) h3.st yya 0;have hd3:=h3.df;have st3:=h3.st;clear hW3 h3 h2 hA hW1 st0 hW0;refine ⟨none,W3,hend,?_⟩
  gi_wp2
  have st4:=(st3.put hh hd3 K1b (o':=.deferred none) ⟨fun c t f h=>zL,fun es ck h=>zL⟩ zc).weak (ysa _ _) zJb;refine ⟨by simp,.inl ⟨_,_,rfl,run_takeDeferred hd3,?_⟩⟩;exact ⟨_,results_tmp rfl _ _ _,q.val,_,_,rfl,⟨q,c',rfl,hk,hq,rfl,rfl⟩,st4⟩
end
section
attribute [local irreducible] CJ LJ DJ Tri YV Gives U7 Kb Kp U8 RV Ke OwL.L
section
variable {A B:Prop}
def Uif(h:A→B:=by exact Kq zja rfl rfl rfl):=h
end
def Z7a (f:XFeeder) (L:LB) (R:LS) (hf:FeederR f R):
 Tri Tryz.prog 122 [f.val].toArray L R (fun v M U=>v=.int .i64 (feedE f.switches.l f.zones.l f.reply)∧L=M∧R=U):=by
 have hsR:=hf.sw;have hzR:=hf.zn;refine Kba Tryz.call122 hsR fun hcap=>?_;refine Kba Tryz.call122 hzR fun hcap2=>?_;refine Jd 115 Tryz.call122 Tryz.func122 rfl rfl rfl ?_;apply (Xag);intro b1;apply Xau∘Xb5∘qah;apply J3 (G:=[_,_,_,_]) (j:=4) (cj:=11) rfl rfl ze rfl ztb rfl;·exact zVd
 intro junk5;apply (qaf);refine q_c ?_ ?_<;>intro hc0;·apply (Xa1);refine q_i L R ?_;exact ⟨by rw [feedE,if_pos zc],rfl,rfl⟩
 have h0:¬ (32 < f.switches.l.length∨16 < f.zones.l.length):=by omega
 apply (Xcj);refine Jh [(1,.pointer _),(3,.int _ _)] zg fun tq0=>?_;refine q_s ([2,3,4]++rg 17 50) (fun g:FSR (Uea f.switches.l) (f.switches.l.length)=>[(3,.int .i64 ((g.1:Nat):Int))]) (fun g=>(f.switches.l.length) - g.1) ⟨0,Yh _ _⟩ ?_;rintro ⟨k0,hk0,hp0⟩ junk;try dsimp only
 apply (Xbm);refine q_c ?_ ?_<;>intro hc1;·
  have hxg:=Js (l:=f.switches.l) (k:=k0) default zc;obtain ⟨x,hx⟩:∃x,x=f.switches.l.getD k0 default:=⟨_,rfl⟩;rw [← hx] at hxg;apply (Xcz);refine J0 zP rfl ?_;apply qdw∘qaq;intro b4;apply Xbi∘Xa7;apply J3 (G:=[_,_,_,_]) (j:=3) (cj:=32) rfl rfl ze rfl ztb rfl;·exact zUf
  intro junk4;apply (qaf);refine q_c ?_ ?_<;>intro hc2;·exact zDf
  apply qbo∘Xa7;apply J3 (G:=[_,_,_]) (j:=3) (cj:=41) rfl rfl ze rfl ztb rfl;·exact zJd
  intro junk4;apply (qaf);refine q_c ?_ ?_<;>intro hc3;·exact zsf
  apply qbv∘Xa7;apply J3 (G:=[_,_,_]) (j:=3) (cj:=49) rfl rfl ze rfl ztb rfl;·exact zJd
  intro junk4;apply (qah);apply J3 (G:=[_,_,_,_,_,_,_,_,_,_,_]) (j:=8) (cj:=54) rfl rfl ze rfl ztb rfl;·
   intro hg9;replace hg9:=qb hg9;apply Xaa∘qah;apply Ue (G:=[_,_,_,_,_,_,_]) (j:=11) (cj:=57) rfl rfl ze rfl ztb rfl;·
    intro hg12;replace hg12:=qb hg12;apply Xaa∘qah;apply J3 (G:=[_,_,_]) (j:=14) (cj:=60) rfl rfl ze rfl ztb rfl;·intro hg15;replace hg15:=qb hg15;exact (Xaa) zme
    intro junk15;exact qai
   intro junk12;exact qai
  intro junk9;apply (qaf);refine q_c ?_ ?_<;>intro hc4;·exact znf
  apply (Xa4);exact q_k ⟨k0 + 1,Va hp0 zc (Vlc hx zc zc zcb)⟩
 have hn0:=V2 hp0 zc;apply (Xdl);refine Jh [(1,.pointer _),(5,.int _ _)] zg fun tq1=>?_;refine q_s ([2,5,6]++rg 67 40) (fun g:FSR (Yva f.switches.l.length f.zones.l) (f.zones.l.length)=>[(5,.int .i64 ((g.1:Nat):Int))]) (fun g=>(f.zones.l.length) - g.1) ⟨0,Yh _ _⟩ ?_;rintro ⟨k1,hk1,hp1⟩ junk;try dsimp only
 apply (Xbm);refine q_c ?_ ?_<;>intro hc5;·
  have hzg:=Js (l:=f.zones.l) (k:=k1) 0 zc;refine Jt (Ja (Ji (Jy (Ji (Ji ?_)))));refine Kg tb [0,1,2,3,4,5,6,7,8,9,10,11,12,13,14,15,16] _ Kn zf ye ?_;apply Xa8∘Uif∘qbl;refine Kq zBc rfl rfl rfl ?_;apply (qb2);refine U9 (k:=80) ztb (fun hg6=>?_) (fun hg6=>?_);·replace hg6:=qb hg6;(iterate 9 apply (qap));apply (Xbt);refine K0 rfl ?_;exact zzf
  replace hg6:=qb hg6;apply Xa8∘Uif∘qbl∘Xae;refine Kq zHb rfl rfl rfl ?_;refine Kq zJc rfl rfl rfl ?_;apply (Xbt);refine q_c ?_ ?_<;>intro hc6;·exact zzf
  apply qbv∘Xat;refine Uh ([2,5,6]++rg 67 40) zG [(5,.int _ _),(6,.int _ _),(81,.pointer _),(82,.slice _ _ _),(83,.int _ _),(84,.pointer _),(85,.int _ _),(86,.pointer _),(87,.slice _ _ _),(88,.int _ _),(89,.bool _)] zg fun tq2=>?_;refine q_s ([2,6]++rg 91 16) (fun g:{j:Nat // j≤k1∧∀m:Nat,m < j→f.zones.l.getD m 0≠f.zones.l.getD k1 0}=>[(6,.int .i64 ((g.1:Nat):Int))]) (fun g=>k1 - g.1) (⟨0,by omega,fun m hm=>by omega⟩) ?_;rintro ⟨j,hj,hal⟩ junk;try dsimp only
  apply (Xea);refine q_c ?_ ?_<;>intro hc7;·
   have hjg:=Js (l:=f.zones.l) (k:=j) 0 zc;refine Jt (Ja (Ji (Jy (Ji ?_))));refine Kg tb [0,1,2,3,4,5,6,7,8,9,10] _ Kn zf ye ?_;apply (Xa8);refine Kq zX rfl rfl rfl ?_;apply qbl∘Xa8∘Uif∘qbl;refine Kq zvc rfl rfl rfl ?_;apply (qbu);refine q_c ?_ ?_<;>intro hc8;·apply (Xac);refine J6 (Ja (Ud (Jv (J1 (K9 (Jv (Jv (J1 (K9 (Jv (J1 ?_)))))))))));refine q_i L R ?_;exact ⟨by rw [Zfa h0 hn0 (Ul hp1 zc (V6d zc ⟨j,by omega,hc8⟩))],rfl,rfl⟩
   apply (Xa4);exact Ka (⟨j + 1,by omega,fun m hm=>by
   rcases yk m j with h | h;·exact hal m h
   ·(obtain rfl : m = j := by omega);exact hc8⟩) zp zg zk zJb zt
  refine K5 (Kk (K1 (J8 (Jg (Ja (Je ?_))))));apply (Xak);exact q_k ⟨k1 + 1,Va hp1 zc (Uic zc (fun ⟨m,m1,m2⟩=>hal m zc m2))⟩
 have hn1:=V2 hp1 zc;apply qcf∘Xa7;apply J3 (G:=[_,_,_]) (j:=3) (cj:=110) rfl rfl ze rfl ztb rfl;·exact zJd
 intro junk4;apply (qaf);refine q_c ?_ ?_<;>intro hc9;·apply (Xa1);refine q_i L R ?_;exact ⟨by rw [Vea h0 hn0 hn1,if_pos zc],rfl,rfl⟩
 apply (Xb4);refine q_i L R ?_;exact ⟨by rw [Vea h0 hn0 hn1,if_neg zc],rfl,rfl⟩
end
section
attribute [local irreducible] CJ LJ DJ Tri YV Gives U7 Kb Kp U8 RV Ke OwL.L
section
variable {A B:Prop}
def Yrf(h:A→B:=by exact J0 zzb rfl):=h
end
structure FeedOk (sw:List XSwitch) (zn:List Int) (rp:Int):Prop where
 sn:sw.length≤32
 zl:zn.length≤16
 up:Jbf sw
 since:∀i:Nat,i < sw.length→0≤(sw.getD i default).since∧(sw.getD i default).since≤2147483648
 shown:∀i:Nat,i < sw.length→-1≤(sw.getD i default).shown∧(sw.getD i default).shown≤1
 zr:∀i:Nat,i < zn.length→0≤zn.getD i 0∧zn.getD i 0 < sw.length
 zd:∀i j:Nat,j < i→i < zn.length→zn.getD j 0≠zn.getD i 0
 rp:1≤rp∧rp≤100000
def K8b {β:Type} {f:Nat→Option β} {n:Nat} (h:(List.range n).findSome? f=none) {i:Nat} (hi:i < n):f i=none:=by rw [yG] at h;exact h i (List.mem_range.2 hi)
def U3d {l:List XSwitch} {i:Nat}:Uea l i≠some 0:=by
 rw [Uea];repeat' split
 all_goals (intro h;first | cases h | (injection h with h;omega))
def Yfe {n:Nat} {l:List Int} {i:Nat}:Yva n l i≠some 0:=by
 rw [Yva];repeat' split
 all_goals (intro h;first | cases h | (injection h with h;omega))
def Uac {f:Nat→Option Int} {n:Nat} {e:Int} (hf:∀i,f i≠some 0) (h:(List.range n).findSome? f=some e):e≠0:=by obtain ⟨i,_,hi⟩:=yw h;rintro rfl;exact hf _ hi
def Zo {sw:List XSwitch} {zn:List Int} {rp:Int} (h:feedE sw zn rp=0):FeedOk sw zn rp:=by
 by_cases h0:32 < sw.length∨16 < zn.length;·rw [feedE,if_pos h0] at h;omega
 cases h1:(List.range sw.length).findSome? (Uea sw) with
 | some e=>rw [Kya h0 h1] at h;exact absurd h (Uac (fun _=>U3d) h1)
 | none=>
  cases h2:(List.range zn.length).findSome? (Yva sw.length zn) with
  | some e=>rw [Zfa h0 h1 h2] at h;exact absurd h (Uac (fun _=>Yfe) h2)
  | none=>
   rw [Vea h0 h1 h2] at h;have hs:∀i:Nat,i < sw.length→(-1≤(sw.getD i default).above∧(sw.getD i default).above < i)∧(0≤(sw.getD i default).since∧(sw.getD i default).since≤2147483648)∧(-1≤(sw.getD i default).shown∧(sw.getD i default).shown≤1):=fun i hi=>by
    have:=K8b h1 hi;rw [Uea] at this;split at this;·cases this
    split at this;·cases this
    split at this;·cases this
    rename_i k1 k2 k3;rw [not_or] at k3;omega
   have hz:∀i:Nat,i < zn.length→(0≤zn.getD i 0∧zn.getD i 0 < sw.length)∧∀j:Nat,j < i→zn.getD j 0≠zn.getD i 0:=fun i hi=>by
    have:=K8b h2 hi;rw [Yva] at this;split at this;·cases this
    split at this;·cases this
    rename_i k1 k2;exact ⟨by omega,fun j hj hh=>k2 ⟨j,hj,hh⟩⟩
   refine ⟨by omega,by omega,fun i hi=>(hs i hi).1,fun i hi=>(hs i hi).2.1,fun i hi=>(hs i hi).2.2,fun i hi=>(hz i hi).1,fun i j hj hi=>(hz i hi).2 j hj,?_⟩;by_cases hr:rp < 1∨100000 < rp;·rw [if_pos hr] at h;omega
   ·omega
def K7b (sw:List XSwitch) (zn:List Int) (rp:Int) (s:Int):List Int:=if feedE sw zn rp≠0∨s < 0∨(sw.length:Int)≤s then [] else Zia sw s
def Zdd (f:XFeeder) (s:Int) (L:LB) (R:LS):
 Tri Tryz.prog 90 [f.val,.int .i64 s].toArray L R (fun v M U=>∃bs bf,v=.func (.func 171) #[] #[.pointer (some ⟨bs,0,none⟩),.pointer (some ⟨bf,0,none⟩)]∧(⟨bs,[.int .i64 s],3⟩ :: ⟨bf,f.cells,42⟩ :: L)=M∧R=U):=by refine Jd 6 Tryz.call90 Tryz.func90 rfl rfl rfl ?_;apply (Xag);intro b2;refine Kad (v:=Value.int _ _) rfl rfl rfl ?_;intro b3;refine J0 (Ux rfl) rfl ?_;apply (qam);refine J0 (K6d rfl) rfl ?_;refine J0 (Ux rfl) rfl ?_;apply (qa0);refine q_r (⟨b3,[.int .i64 s],3⟩ :: ⟨b2,f.cells,42⟩ :: L) R (U3 rfl (Jk rfl)) ?_;exact ⟨b3,b2,rfl,rfl,rfl⟩
def Kld (f:XFeeder) (s:Int) (bs bf:Nat) (L:LB) (R:LS) (hsR:InR (Z4b f.switches) R) (hu:Jbf f.switches.l) (hn:f.switches.l.length≤1000) (hc:s < f.switches.l.length):
 Tri Tryz.prog 89 [.func (.func 171) #[] #[.pointer (some ⟨bs, 0, none⟩), .pointer (some ⟨bf, 0, none⟩)]].toArray (⟨bs, [.int .i64 s], 3⟩ :: ⟨bf, f.cells, 42⟩ :: L) R
  (fun v M U=>∃(q:OwL Int) (c':Int),v=q.val∧q.ok 1 Jj∧q.l=Zia f.switches.l s∧q.L 3 Jj ++ (⟨bs,[.int .i64 c'],3⟩ :: ⟨bf,f.cells,42⟩ :: L)=M∧R=U):=by refine Jd 5 Tryz.call89 Tryz.func89 rfl rfl rfl ?_;apply Xdi∘qam;refine J0 zcc rfl ?_;refine Ju rfl (Vkc f s bs bf L R hsR hu hn hc) rfl ?_;rintro v M U ⟨q,c',rfl,hk,hq,rfl,rfl⟩;apply qc4∘qa0;refine q_r (q.L 3 Jj ++ (⟨bs,[.int .i64 c'],3⟩ :: ⟨bf,f.cells,42⟩ :: L)) R zzd ?_;exact ⟨q,c',rfl,hk,hq,rfl,rfl⟩
def Yue (f:XFeeder) (s:Int) (L:LB) (R:LS) (hf:FeederR f R):
 Tri Tryz.prog 26 [f.val,.int .i64 s].toArray L R (fun v M U=>∃q:OwL Int,v=q.val∧q.ok 1 Jj∧q.l=K7b f.switches.l f.zones.l f.reply s∧q.L 3 Jj ++ L=M∧R=U):=by
 refine Jd 23 Tryz.call26 Tryz.func26 rfl rfl rfl ?_;apply (Xag);intro b2;apply Xbz∘Yrf;refine q_l rfl (Jla f _ _ hf) ?_;apply (Xb8);apply J3 (G:=[_,_]) (j:=3) (cj:=8) rfl rfl ze rfl ztb rfl;·intro hg4;replace hg4:=qb hg4;exact (qaa) zJe
 intro junk4;apply (qah);apply J3 (G:=[_,_,_,_,_]) (j:=7) (cj:=12) rfl rfl ze rfl ztb rfl;·intro hg8;replace hg8:=qb hg8;exact (qaa∘Xdp) qai
 intro junk8;apply (qaf);refine q_c ?_ ?_<;>intro hc0;·apply Xdi∘qbh;refine q_r L R zzd ?_;exact ⟨.nil,rfl,OwL.nil_ok,by rw [K7b,if_pos zc],by rw [Kr];rfl,rfl⟩
 have hok:=Zo (sw:=f.switches.l) (zn:=f.zones.l) (rp:=f.reply) zc;have hsn:=hok.sn;apply qbv∘Yrf∘qaa;refine Ju rfl (Zdd f s _ _) rfl ?_;rintro v M U ⟨bs,bf,rfl,rfl,rfl⟩;refine Ju rfl (Kld f s bs bf _ _ hf.sw hok.up zc zc) rfl ?_;rintro v M U ⟨q,c',rfl,hk,hq,rfl,rfl⟩;apply qc4∘qa0;refine q_r (q.L 3 Jj ++ L) R zzd ?_;exact ⟨q,rfl,hk,by rw [K7b,if_neg zc];exact hq,rfl,rfl⟩
end
end Go.Proofs.YtchfclmokpbldaaGreat
