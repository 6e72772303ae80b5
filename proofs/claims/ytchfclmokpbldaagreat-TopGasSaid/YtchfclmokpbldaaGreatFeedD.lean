/-
  Merged texts. By an AI agent.
-/
import Derived.Test.YtchfclmokpbldaaGreatRoundA
import Derived.OwnWalkIn
import Derived.LoopNIn
import Derived.Test.YtchfclmokpbldaaGreatFits
import Derived.Test.YtchfclmokpbldaaGreatSiteD
import Derived.Laws.StructEq
import Derived.Test.YtchfclmokpbldaaGreatDraws
set_option linter.all false
set_option maxHeartbeats 4000000
set_option maxRecDepth 20000
namespace Go.Proofs.YtchfclmokpbldaaGreat
open Go.Aw Go
section
attribute [local irreducible] CJ LJ DJ Tri YV Gives Uq J2 Kj Ut RV J3 OwL.L
def upF (sw : List XSwitch) : Nat → Int → List Int
 | 0,_=>[]
 | n + 1,s=>if s < 0 then [] else s :: upF sw n (sw.getD s.toNat default).above
def Zsa (sw:List XSwitch) (s:Int):List Int:=upF sw (s + 1).toNat s
def K6f (sw:List XSwitch):Prop:=∀i:Nat,i < sw.length→-1≤(sw.getD i default).above∧(sw.getD i default).above < i
def Jwf {sw:List XSwitch} (h:K6f sw):∀(n:Nat) (s:Int),s < sw.length→(s + 1).toNat≤n→upF sw n s=Zsa sw s:=by
 intro n;induction n using Nat.strongRecOn with
 | _ n ih=>
  intro s hs hn;by_cases h0:s < 0;·
   rw [Zsa, show (s + 1).toNat = 0 by omega];cases n with
   | zero=>rfl
   | succ n=>show (if s < 0 then [] else _)=([]:List Int);rw [if_pos h0]
  ·obtain ⟨k, rfl⟩ : ∃ k, n = k + 1 := ⟨n - 1, by omega⟩;have ha:=h s.toNat za;rw [Zsa,show (s + 1).toNat=s.toNat + 1 by omega,upF,upF,if_neg za,if_neg za,ih k za _ za za,ih s.toNat za _ za za]
def Yqa {sw:List XSwitch} {s:Int} (h:s < 0):Zsa sw s=[]:=by rw [Zsa,show (s + 1).toNat=0 by omega];rfl
def Zoa {sw:List XSwitch} (h:K6f sw) {s:Int} (h0:0≤s) (h1:s < sw.length):Zsa sw s=s :: Zsa sw (sw.getD s.toNat default).above:=by have ha:=h s.toNat za;rw [Zsa,show (s + 1).toNat=s.toNat + 1 by omega,upF,if_neg za,Jwf h _ _ za za]
def Jud {sw:List XSwitch} (h:K6f sw):∀(n:Nat) (s:Int),s < sw.length→(s + 1).toNat≤n→(Zsa sw s).length≤n:=by
 intro n;induction n with
 | zero=>intro s _ hn;rw [Yqa za];exact ym _
 | succ n ih=>
  intro s hs hn;by_cases h0:s < 0;·rw [Yqa h0];simp
  ·have ha := h s.toNat za;rw [Zoa h za hs,yA];have:=ih (sw.getD s.toNat default).above za za;omega
def Vsf (c:Code):Code:=match c with
 | .seq _ (.seq (.seq _ (.block _ (.rangeFunc _ _ x _))) _)=>x
 | _=>.skip
def Yce (c:Code):Code:=match c with
 | .seq _ (.seq (.seq _ (.block _ (.rangeFunc _ _ _ x))) _)=>x
 | _=>.skip
def Jjd (sv x:Value) (B:Nat):Array Value:=#[.slice none 0 0,sv,.pointer (some ⟨B,0,none⟩),undef,.slice none 0 0,undef,sv,x,undef,undef,undef,undef,undef]
def Uec (cd:Code) (fn:FuncId) (sv:Value) (B:Nat) (st:LoopState):Loop:={ state:=st,pending:=none,fn,tmps:=Jjd sv undef B,params:=#[7],assign:=Vsf cd,body:=Yce cd,defers:=B + 1 }
def U3c (cd:Code) (fn:FuncId) (sv:Value) (B:Nat) (st:LoopState):Obj:=.loop (Uec cd fn sv B st)
def Jva {cd fn sv B st}:NoCells (U3c cd fn sv B st):=⟨fun c t f h=>zH,fun es ck h=>zH⟩
def Zce:Obj:=.deferred (some [])
def K5b:NoCells Zce:=⟨fun c t f h=>zH,fun es ck h=>zH⟩
def Kyf (t:Array Value) (n:Nat) (h:t.size=n):Fr n (fun k=>t.getD k undef) { tmps:=t,defers:=[] }:=⟨rfl,h,fun _=>rfl⟩
def Zyf (o:Oper):Bool:=match o.op with
 | .defer _=>true
 | _=>false
def Z1f {ops:List Oper} (h:ops.any Zyf=false):∀o∈ops,∀c,o.op≠.defer c:=fun o ho c e=>by
 have:=List.any_eq_false.1 h o ho
 rw [Zyf,e] at this
 exact this rfl
section
variable {w0:World} {Lc:LB} {G:Nat→Prop} {R:LS} (hh:Holds Lc G R w0)
include hh
def Zje {fn:FuncId} {sv:Value} {m:Nat} {Lf:LB} {p:OwL Int} (hok:p.ok 1 Jj) (hlen:p.l.length≤1000000) (x:Int) {W:World} (h:At2 w0 Lc G R (w0.heap.size + 1) Zce (U3c (Tryz.f170.body.getD .skip) fn sv w0.heap.size .ready) (⟨w0.heap.size,[p.val],40⟩ :: (p.L 3 Jj ++ Lf)) W):
 YieldAt Fence.wide m Tryz.prog (w0.heap.size + 1 + 1) #[.int .i64 x] W fun e W'=>e=.returned (.bool true)∧∃o,(⟨o,p.l ++ [x]⟩:OwL Int).ok 1 Jj∧At2 w0 Lc G R (w0.heap.size + 1) Zce (U3c (Tryz.f170.body.getD .skip) fn sv w0.heap.size .ready) (⟨w0.heap.size,[(⟨o,p.l ++ [x]⟩:OwL Int).val],40⟩ :: ((⟨o,p.l ++ [x]⟩:OwL Int).L 3 Jj ++ Lf)) W':=by
 refine ⟨fn,Jjd sv (.int .i64 x) w0.heap.size,(Vsf (Tryz.f170.body.getD .skip)),(Yce (Tryz.f170.body.getD .skip)),(by have:=run_yield (P:=Tryz.prog) (args:=#[.int .i64 x]) (r:=Uec (Tryz.f170.body.getD .skip) fn sv w0.heap.size .ready) h.lp rfl;simpa [Uec,Jjd] using this),roundIn_of_wpIn trivial ?_⟩;refine At2.round hh K5b Jva h (t:=fun k=>(Jjd sv (.int .i64 x) w0.heap.size).getD k undef) (Q:=fun e t U J=>e=.normal∧(t 5=.int .i64 x∧t 2=.pointer (some ⟨w0.heap.size,0,none⟩))∧U=(⟨w0.heap.size,[p.val],40⟩ :: (p.L 3 Jj ++ Lf))∧J=R) (Kyf _ 13 rfl) (Z1f rfl) ?_ (fun _ _ _ h=>by cases h.1) ?_;·refine Jw (K8 znb) rfl ?_;exact J9 ⟨rfl,⟨rfl,rfl⟩,rfl,rfl⟩
 rintro e a1 W1 t1 L1 R1 ⟨rfl,⟨ht5,ht2⟩,rfl,rfl⟩ hf1 h1;refine ⟨_,run_beginRound h1.lp rfl,?_⟩;have h2:=At2.put hh za Jva (Jva (cd:=(Tryz.f170.body.getD .skip)) (fn:=fn) (sv:=sv) (B:=w0.heap.size) (st:=.busy)) h1;show (Code.block _ _).wpIn _ _ _ _ _ _;refine wpIn_block ?_;refine At2.round hh K5b Jva h2 (Q:=fun e t U J=>e=.normal∧∃o,(⟨o,p.l ++ [x]⟩:OwL Int).ok 1 Jj∧(⟨w0.heap.size,[(⟨o,p.l ++ [x]⟩:OwL Int).val],40⟩ :: ((⟨o,p.l ++ [x]⟩:OwL Int).L 3 Jj ++ Lf)).Sublist U) hf1 (Z1f rfl) ?_ (fun _ _ _ h=>by cases h.1) ?_;·refine Jw (Kz tb ht2 rfl rfl zf zb) rfl ?_;refine Jw (Jz (v:=.int .i64 x) ht5) rfl ?_;apply (qcx);rintro v U J ⟨b88,rfl,rfl,hR88⟩;replace hR88:=hR88.symm;subst hR88;refine Za (Jy (f:=Jj) (a:=x) tb rfl rfl rfl rfl hok zj zwb rfl za) rfl ?_;rintro v U J ⟨o,rfl,hok89,rfl,rfl⟩;refine Uva (v:=Value.slice _ _ _) tb rfl ht2 rfl rfl zC rfl rfl zb ?_;exact J9 ⟨rfl,o,hok89,yra _ _⟩
 rintro e a3 W3 t3 L3 R3 ⟨rfl,o,hok3,hsub⟩ hf3 h3;have h4:At2 _ _ _ _ _ _ _ _ _:=⟨h3.st.weak hsub zAb,h3.df,h3.lp⟩;exact ⟨_,_,run_endRound none h4.lp,rfl,o,hok3,At2.put hh za Jva Jva h4⟩
def K1e (w:World) (b:Nat):Int:=match w.cell? ⟨b,0,none⟩ with
 | some (.int _ n)=>n
 | _=>-1
def Vhg {fn : FuncId} {sv : Value} {m : Nat} {f : XFeeder} {bs bf : Nat} {L : LB} (hsR : InR (Zeb f.switches) R) (hu : K6f f.switches.l) (hn : f.switches.l.length ≤ 1000) {cur : Int} (hc : cur < f.switches.l.length) {W : World} {p : OwL Int} (hk : p.ok 1 Jj) (hpl : p.l = [])
 (h:At2 w0 Lc G R (w0.heap.size + 1) Zce (U3c (Tryz.f170.body.getD .skip) fn sv w0.heap.size .ready) (⟨w0.heap.size,[p.val],40⟩ :: (p.L 3 Jj ++ (⟨bs,[.int .i64 cur],3⟩ :: ⟨bf,f.cells,42⟩ :: L))) W):
 CallsIn Fence.wide m Tryz.prog 171 #[.func (.yield (w0.heap.size + 1 + 1)) #[] #[],.pointer (some ⟨bs,0,none⟩),.pointer (some ⟨bf,0,none⟩)] W fun e W'=>(∃v,e=.returned v)∧∃(q:OwL Int) (c':Int),q.ok 1 Jj∧q.l=Zsa f.switches.l cur∧
  At2 w0 Lc G R (w0.heap.size + 1) Zce (U3c (Tryz.f170.body.getD .skip) fn sv w0.heap.size .ready) (⟨w0.heap.size,[q.val],40⟩ :: (q.L 3 Jj ++ (⟨bs,[.int .i64 c'],3⟩ :: ⟨bf,f.cells,42⟩ :: L))) W':=by
 refine callsIn_of_wp Tryz.func171 rfl trivial ?_ rfl;simp only [Tryz.ntmps171,yhc,yA,yda,Nat.reduceAdd,Nat.reduceSub,Array.replicate_succ,Array.replicate_zero,List.push_toArray,List.append_toArray,yv,yr];refine wpIn_block ?_;refine wpIn_loop (fun a w=>∃(t:Nat→Value) (q:OwL Int) (c':Int),Fr 16 t a∧(t 0=.func (.yield (w0.heap.size + 1 + 1)) #[] #[]∧t 1=.pointer (some ⟨bs,0,none⟩)∧t 2=.pointer (some ⟨bf,0,none⟩))∧q.ok 1 Jj∧(-1≤c'∨True)∧c' < f.switches.l.length∧Zsa f.switches.l cur=q.l ++ Zsa f.switches.l c'∧
  At2 w0 Lc G R (w0.heap.size + 1) Zce (U3c (Tryz.f170.body.getD .skip) fn sv w0.heap.size .ready) (⟨w0.heap.size,[q.val],40⟩ :: (q.L 3 Jj ++ (⟨bs,[.int .i64 c'],3⟩ :: ⟨bf,f.cells,42⟩ :: L))) w) (fun _ w=>(K1e w bs + 1).toNat) ?_ ?_
 ·exact ⟨_,p,cur,Kyf _ 16 rfl,⟨rfl,rfl,rfl⟩,hk,.inr trivial,hc,by rw [hpl];rfl,h⟩
 rintro a w ⟨t,q,c',hf,⟨t0,t1,t2⟩,hk,_,hc',hp,h⟩;have hnum:K1e w bs=c':=by have:=Kha (b:=bs) (cs:=[.int .i64 c']) (T:=3) h.st (yW _ (yj _ yXa)) 0;rw [K1e,this];rfl
 refine wpIn_seq (wpIn_seq ?_);refine At2.plain hh K5b Jva h (Q:=fun e t' U J=>e=.normal∧((t' 0=.func (.yield (w0.heap.size + 1 + 1)) #[] #[]∧t' 1=.pointer (some ⟨bs,0,none⟩)∧t' 2=.pointer (some ⟨bf,0,none⟩))∧t' 5=.bool (decide (0≤c')))∧(⟨w0.heap.size,[q.val],40⟩ :: (q.L 3 Jj ++ (⟨bs,[.int .i64 c'],3⟩ :: ⟨bf,f.cells,42⟩ :: L)))=U) hf ?_ ?_;·refine Jg ?_;refine Jw (Kz tb t1 rfl rfl zf zb) rfl ?_;apply (qbz);exact J9 ⟨rfl,⟨⟨t0,t1,t2⟩,rfl⟩,rfl⟩
 rintro e a1 w1 t' L1 R1 ⟨rfl,⟨⟨t0,t1,t2⟩,t5⟩,rfl⟩ hf1 h1;refine wpIn_cond (t:=decide (0≤c')) (by rw [hf1.eval];exact t5) ?_;by_cases h0:0≤c';·
  rw [decide_eq_true h0, if_pos rfl];refine wpIn_skip ?_;refine wpIn_seq (wpIn_block (wpIn_seq ?_));refine wpIn_region_lit ?_;refine Vag hf1 h1.st (Jz (v:=.func (.yield (w0.heap.size + 1 + 1)) #[] #[]) t0) rfl fun a2 hf2=>?_;refine Vag hf2 h1.st (Kz tb t1 rfl rfl zf zb) rfl fun a3 hf3=>?_;have hpl2:q.l.length≤1000000:=by have:=Jud hu _ cur hc (ym _);rw [hp,yl] at this;omega
  refine Yye (v:=.int .i64 c') hf3 rfl rfl rfl (Zje hh hk hpl2 c' h1) fun a4 w4 hf4 ⟨o,hok4,h4⟩=>?_;refine Vag hf4 h4.st (U5a rfl) rfl fun a5 hf5=>?_;show Exit.then _ _ Exit.normal _ _;refine wpIn_cond (t:=false) (by rw [hf5.eval];rfl) ?_;rw [if_neg zo];refine wpIn_skip ?_;have hg:=Jp (l:=f.switches.l) (k:=c'.toNat) default za;have ha:=hu c'.toNat za;refine At2.plain hh K5b Jva h4 (Q:=fun e t' U J=>e=.normal∧(t' 0=.func (.yield (w0.heap.size + 1 + 1)) #[] #[]∧t' 1=.pointer (some ⟨bs,0,none⟩)∧t' 2=.pointer (some ⟨bf,0,none⟩))∧
   ⟨w0.heap.size,[(⟨o,q.l ++ [c']⟩:OwL Int).val],40⟩ :: ((⟨o,q.l ++ [c']⟩:OwL Int).L 3 Jj ++ (⟨bs,[.int .i64 (f.switches.l.getD c'.toNat default).above],3⟩ :: ⟨bf,f.cells,42⟩ :: L))=U) hf5 ?_ ?_
  ·refine Jg ?_;refine Jw (Ue tb rfl (show _=Value.pointer (some ⟨bf,0,none⟩) from t2) rfl) rfl ?_;apply (qac);refine Jw (Kz tb (show _=Value.pointer (some ⟨bs,0,none⟩) from t1) rfl rfl zf zb) rfl ?_;refine Jw (Jd tb rfl rfl rfl rfl hsR (i:=c'.toNat) za za) rfl ?_;apply (qb0);refine Jw (Jka tb rfl rfl rfl hsR hg rfl) rfl ?_;refine Uva (v:=Value.int _ _) tb rfl (show _=Value.pointer (some ⟨bs,0,none⟩) from t1) rfl rfl zC rfl rfl zb ?_;exact J9 ⟨rfl,⟨t0,t1,t2⟩,rfl⟩
  rintro e a6 w6 t6 L6 R6 ⟨rfl,ht6,rfl⟩ hf6 h6;have hnum6:K1e w6 bs=(f.switches.l.getD c'.toNat default).above:=by have:=Kha (b:=bs) (cs:=[.int .i64 (f.switches.l.getD c'.toNat default).above]) (T:=3) h6.st (yW _ (yj _ yXa)) 0;rw [K1e,this];rfl
  refine ⟨⟨t6,⟨o,q.l ++ [c']⟩,_,hf6,ht6,hok4,.inr trivial,by omega,?_,h6⟩,?_⟩;·rw [hp,Zoa hu h0 hc',yn];rfl
  ·rw [hnum,hnum6];omega
 ·rw [decide_eq_false h0, if_neg zo];refine wpIn_exit ?_;simp only [Exit.then,Exit.inBlock,if_true];refine ⟨hf1.defers,_,results_none rfl _ _ _,⟨_,rfl⟩,q,c',hk,?_,h1⟩;rw [hp,Yqa za,yaa]
end
def U9c (f:XFeeder) (s:Int) (bs bf:Nat) (L:LB) (R:LS) (hsR:InR (Zeb f.switches) R) (hu:K6f f.switches.l) (hn:f.switches.l.length≤1000) (hc:s < f.switches.l.length):
 Tri Tryz.prog 170 [.slice none 0 0, .func (.func 171) #[] #[.pointer (some ⟨bs, 0, none⟩), .pointer (some ⟨bf, 0, none⟩)]].toArray (⟨bs, [.int .i64 s], 3⟩ :: ⟨bf, f.cells, 42⟩ :: L) R
  (fun v U J=>∃(q:OwL Int) (c':Int),v=q.val∧q.ok 1 Jj∧q.l=Zsa f.switches.l s∧q.L 3 Jj ++ (⟨bs,[.int .i64 c'],3⟩ :: ⟨bf,f.cells,42⟩ :: L)=U∧R=J):=by
 refine Tri.raw Tryz.call170 fun w G hh=>(callsIn_wide (n:=5)).1 ?_;refine callsIn_of_wp_marks Tryz.func170 rfl trivial ?_ rfl;simp only [Tryz.ntmps170,yhc,yA,yda,Nat.reduceAdd,Nat.reduceSub,Array.replicate_succ,Array.replicate_zero,List.push_toArray,List.append_toArray,yv,yr]
 gi_wp2
 refine wpIn_rangeFunc ?_;intro fn hfn;obtain ⟨sv,hsv⟩:∃sv:Value,sv=.func (.func 171) #[] #[.pointer (some ⟨bs,0,none⟩),.pointer (some ⟨bf,0,none⟩)]:=⟨_,rfl⟩;obtain ⟨W0,hW0⟩:∃W0,w.alloc (.cells #[.slice none 0 0] 40)=W0:=⟨_,rfl⟩;have hs0:W0.heap.size=w.heap.size + 1:=by rw [← hW0];simp
 have st0:St ⟨w,inL (⟨bs,[.int .i64 s],3⟩ :: ⟨bf,f.cells,42⟩ :: L),G⟩ (⟨w.heap.size,[.slice none 0 0],40⟩ :: ⟨bs,[.int .i64 s],3⟩ :: ⟨bf,f.cells,42⟩ :: L) R W0:=by rw [← hW0];exact (St.init hh).alloc #[.slice none 0 0] 40
 rw [hW0];obtain ⟨W1,hW1⟩:∃W1,(W0.alloc Zce).alloc (U3c (Tryz.f170.body.getD .skip) fn sv w.heap.size .ready)=W1:=⟨_,rfl⟩;have hA:At2 w (⟨bs,[.int .i64 s],3⟩ :: ⟨bf,f.cells,42⟩ :: L) G R (w.heap.size + 1) Zce (U3c (Tryz.f170.body.getD .skip) fn sv w.heap.size .ready) (⟨w.heap.size,[(OwL.nil:OwL Int).val],40⟩ :: ((OwL.nil:OwL Int).L 3 Jj ++ (⟨bs,[.int .i64 s],3⟩ :: ⟨bf,f.cells,42⟩ :: L))) W1:=by
  rw [← hW1];refine ⟨(by rw [Kk,yv];exact (st0.allocO K5b).allocO Jva),?_,?_⟩;·rw [← hs0];exact (Zee _ _ _ zo).trans (World.alloc_heap_new W0 _)
  ·have := World.alloc_heap_new (W0.alloc Zce) (U3c (Tryz.f170.body.getD .skip) fn sv w.heap.size .ready);rwa [World.size_alloc,hs0] at this
 refine ⟨w.heap.size + 1 + 1,[{ target:=.collected (w.heap.size + 1),args:=#[] }],W1,{ target:=.fn (.func 171) #[.pointer (some ⟨bs,0,none⟩),.pointer (some ⟨bf,0,none⟩)],args:=#[.func (.yield (w.heap.size + 1 + 1)) #[] #[]] },W1,171,
  #[.func (.yield (w.heap.size + 1 + 1)) #[] #[],.pointer (some ⟨bs,0,none⟩),.pointer (some ⟨bf,0,none⟩)],W1,?_,?_,fun _ _=>trivial,?_,fun h=>zH,?_⟩
 ·have := run_enterLoop_outer (P := Tryz.prog) (w := W0) fn (Jjd sv undef w.heap.size) #[7] (Vsf (Tryz.f170.body.getD .skip)) (Yce (Tryz.f170.body.getD .skip));rw [hs0] at this;rw [← hW1,hsv];rw [hsv] at this;exact this
 ·simp [resolve,go_sem]
 ·simp [invoke,go_sem,Tryz.call171]
 ·
  refine (Vhg hh hsR hu hn hc OwL.nil_ok rfl hA).mono ?_;rintro e W2 ⟨⟨v0,rfl⟩,q,c',hk,hq,h2⟩;have hend:=run_endLoop (P:=Tryz.prog) h2.lp (by simp [Uec]);have h3:=At2.put hh za Jva (ol':=.loop { Uec (Tryz.f170.body.getD .skip) fn sv w.heap.size .ready with state:=.exhausted }) ⟨fun c t f h=>zH,fun es ck h=>zH⟩ h2;obtain ⟨W3,hW3⟩:∃W3,W2.putObj (w.heap.size + 1 + 1) (.loop { Uec (Tryz.f170.body.getD .skip) fn sv w.heap.size .ready with state:=.exhausted })=W3:=⟨_,rfl⟩;rw [hW3] at hend h3;have hc3:W3.cell? ⟨w.heap.size,0,none⟩=some q.val:=Kha (b:=w.heap.size) (cs:=[q.val]) (T:=40) h3.st yXa 0;have hd3:=h3.df;have st3:=h3.st;clear hW3 h3 h2 hA hW1 st0 hW0;refine ⟨none,W3,hend,?_⟩
  gi_wp2
  have st4:=(st3.put hh hd3 K5b (o':=.deferred none) ⟨fun c t f h=>zH,fun es ck h=>zH⟩ za).weak (yra _ _) zAb;refine ⟨by simp,.inl ⟨_,_,rfl,run_takeDeferred hd3,?_⟩⟩;exact ⟨_,results_tmp rfl _ _ _,q.val,_,_,rfl,⟨q,c',rfl,hk,hq,rfl,rfl⟩,st4⟩
end
section
attribute [local irreducible] CJ LJ DJ Tri YV Gives Uq J2 Kj Ut RV J3 OwL.L
section
variable {A B:Prop}
def Ucg(h:A→B:=by exact Jw zrb rfl):=h
end
structure FeedOk (sw:List XSwitch) (zn:List Int) (rp:Int):Prop where
 sn:sw.length≤32
 zl:zn.length≤16
 up:K6f sw
 since:∀i:Nat,i < sw.length→0≤(sw.getD i default).since∧(sw.getD i default).since≤2147483648
 shown:∀i:Nat,i < sw.length→-1≤(sw.getD i default).shown∧(sw.getD i default).shown≤1
 zr:∀i:Nat,i < zn.length→0≤zn.getD i 0∧zn.getD i 0 < sw.length
 zd:∀i j:Nat,j < i→i < zn.length→zn.getD j 0≠zn.getD i 0
 rp:1≤rp∧rp≤100000
def Ucb {β:Type} {f:Nat→Option β} {n:Nat} (h:(List.range n).findSome? f=none) {i:Nat} (hi:i < n):f i=none:=by rw [yJ] at h;exact h i (List.mem_range.2 hi)
def Yod {l:List XSwitch} {i:Nat}:U8a l i≠some 0:=by
 rw [U8a];repeat' split
 all_goals (intro h;first | cases h | (injection h with h;omega))
def Zxe {n:Nat} {l:List Int} {i:Nat}:Zya n l i≠some 0:=by
 rw [Zya];repeat' split
 all_goals (intro h;first | cases h | (injection h with h;omega))
def Vlc {f:Nat→Option Int} {n:Nat} {e:Int} (hf:∀i,f i≠some 0) (h:(List.range n).findSome? f=some e):e≠0:=by obtain ⟨i,_,hi⟩:=yy h;rintro rfl;exact hf _ hi
def Yn {sw:List XSwitch} {zn:List Int} {rp:Int} (h:feedE sw zn rp=0):FeedOk sw zn rp:=by
 by_cases h0:32 < sw.length∨16 < zn.length;·rw [feedE,if_pos h0] at h;omega
 cases h1:(List.range sw.length).findSome? (U8a sw) with
 | some e=>rw [Klb h0 h1] at h;exact absurd h (Vlc (fun _=>Yod) h1)
 | none=>
  cases h2:(List.range zn.length).findSome? (Zya sw.length zn) with
  | some e=>rw [U8c h0 h1 h2] at h;exact absurd h (Vlc (fun _=>Zxe) h2)
  | none=>
   rw [Vpb h0 h1 h2] at h;have hs:∀i:Nat,i < sw.length→(-1≤(sw.getD i default).above∧(sw.getD i default).above < i)∧(0≤(sw.getD i default).since∧(sw.getD i default).since≤2147483648)∧(-1≤(sw.getD i default).shown∧(sw.getD i default).shown≤1):=fun i hi=>by
    have:=Ucb h1 hi;rw [U8a] at this;split at this;·cases this
    split at this;·cases this
    split at this;·cases this
    rename_i k1 k2 k3;rw [not_or] at k3;omega
   have hz:∀i:Nat,i < zn.length→(0≤zn.getD i 0∧zn.getD i 0 < sw.length)∧∀j:Nat,j < i→zn.getD j 0≠zn.getD i 0:=fun i hi=>by
    have:=Ucb h2 hi;rw [Zya] at this;split at this;·cases this
    split at this;·cases this
    rename_i k1 k2;exact ⟨by omega,fun j hj hh=>k2 ⟨j,hj,hh⟩⟩
   refine ⟨by omega,by omega,fun i hi=>(hs i hi).1,fun i hi=>(hs i hi).2.1,fun i hi=>(hs i hi).2.2,fun i hi=>(hz i hi).1,fun i j hj hi=>(hz i hi).2 j hj,?_⟩;by_cases hr:rp < 1∨100000 < rp;·rw [if_pos hr] at h;omega
   ·omega
def Y9a (sw:List XSwitch) (zn:List Int) (rp:Int) (s:Int):List Int:=if feedE sw zn rp≠0∨s < 0∨(sw.length:Int)≤s then [] else Zsa sw s
def Jwe (f:XFeeder) (s:Int) (L:LB) (R:LS):
 Tri Tryz.prog 90 [f.val,.int .i64 s].toArray L R (fun v U J=>∃bs bf,v=.func (.func 171) #[] #[.pointer (some ⟨bs,0,none⟩),.pointer (some ⟨bf,0,none⟩)]∧(⟨bs,[.int .i64 s],3⟩ :: ⟨bf,f.cells,42⟩ :: L)=U∧R=J):=by refine Je 6 Tryz.call90 Tryz.func90 rfl rfl rfl ?_;apply (Xaf);intro b2;refine Uud (v:=Value.int _ _) rfl rfl rfl ?_;intro b3;refine Jw (K8 rfl) rfl ?_;apply (qam);refine Jw (Vdc rfl) rfl ?_;refine Jw (K8 rfl) rfl ?_;apply (qa0);refine q_r (⟨b3,[.int .i64 s],3⟩ :: ⟨b2,f.cells,42⟩ :: L) R (Vs rfl (Ji rfl)) ?_;exact ⟨b3,b2,rfl,rfl,rfl⟩
def Uyd (f:XFeeder) (s:Int) (bs bf:Nat) (L:LB) (R:LS) (hsR:InR (Zeb f.switches) R) (hu:K6f f.switches.l) (hn:f.switches.l.length≤1000) (hc:s < f.switches.l.length):
 Tri Tryz.prog 89 [.func (.func 171) #[] #[.pointer (some ⟨bs, 0, none⟩), .pointer (some ⟨bf, 0, none⟩)]].toArray (⟨bs, [.int .i64 s], 3⟩ :: ⟨bf, f.cells, 42⟩ :: L) R
  (fun v U J=>∃(q:OwL Int) (c':Int),v=q.val∧q.ok 1 Jj∧q.l=Zsa f.switches.l s∧q.L 3 Jj ++ (⟨bs,[.int .i64 c'],3⟩ :: ⟨bf,f.cells,42⟩ :: L)=U∧R=J):=by refine Je 5 Tryz.call89 Tryz.func89 rfl rfl rfl ?_;apply qae∘Xb8;refine Jw zRb rfl ?_;refine Jv rfl (U9c f s bs bf L R hsR hu hn hc) rfl ?_;rintro v U J ⟨q,c',rfl,hk,hq,rfl,rfl⟩;apply (Xci);refine q_r (q.L 3 Jj ++ (⟨bs,[.int .i64 c'],3⟩ :: ⟨bf,f.cells,42⟩ :: L)) R zhd ?_;exact ⟨q,c',rfl,hk,hq,rfl,rfl⟩
def U6c (f:XFeeder) (s:Int) (L:LB) (R:LS) (hf:FeederR f R):
 Tri Tryz.prog 26 [f.val,.int .i64 s].toArray L R (fun v U J=>∃q:OwL Int,v=q.val∧q.ok 1 Jj∧q.l=Y9a f.switches.l f.zones.l f.reply s∧q.L 3 Jj ++ L=U∧R=J):=by
 refine Je 23 Tryz.call26 Tryz.func26 rfl rfl rfl ?_;apply (Xaf);intro b2;apply Xb5∘Ucg;refine q_l rfl (Yh f _ _ hf) ?_;apply (Xb7);apply Kf (G:=[_,_]) (j:=3) (cj:=8) rfl rfl zb rfl zmb rfl;·intro hg4;replace hg4:=qb hg4;exact (qaa) zOd
 intro junk4;apply (qah);apply Kf (G:=[_,_,_,_,_]) (j:=7) (cj:=12) rfl rfl zb rfl zmb rfl;·intro hg8;replace hg8:=qb hg8;exact (qaa∘Xab) zyd
 intro junk8;apply (qaf);refine q_c ?_ ?_<;>intro hc0;·apply qae∘qc4∘qbh;refine q_r L R zhd ?_;exact ⟨.nil,rfl,OwL.nil_ok,by rw [Y9a,if_pos za],by rw [Kk];rfl,rfl⟩
 have hok:=Yn (sw:=f.switches.l) (zn:=f.zones.l) (rp:=f.reply) za;have hsn:=hok.sn;apply qbv∘Ucg∘qaa;refine Jv rfl (Jwe f s _ _) rfl ?_;rintro v U J ⟨bs,bf,rfl,rfl,rfl⟩;refine Jv rfl (Uyd f s bs bf _ _ hf.sw hok.up za za) rfl ?_;rintro v U J ⟨q,c',rfl,hk,hq,rfl,rfl⟩;apply (Xci);refine q_r (q.L 3 Jj ++ L) R zhd ?_;exact ⟨q,rfl,hk,by rw [Y9a,if_neg za];exact hq,rfl,rfl⟩
end
section
inductive KC where
 | i
 | b
section
variable {P:Program}
end
section
variable {P:Program} {ρ:Operand→Value} {L:LB} {R:LS} {dst:Option Tmp} {ty:TypeId} {pos:String} {after:Array Edge} {guard:Option (Nat×Bool)} {T T2:TypeId} {x y:Operand} {ks:List KC} {xs ys:List Value}
end
end
section
attribute [local irreducible] CJ LJ DJ Tri YV Gives Uq J2 Kj Ut RV J3 OwL.L
section
variable {A B:Prop}
def Jee(h:A→B:=by exact Jw zrb rfl):=h
def Ujg(h:B:=by exact ⟨.nil,.nil,0,by rw [he];rfl,⟨OwL.nil_ok,OwL.nil_ok⟩,fun h=>by omega,by rw [Kk,Kk];rfl,rfl⟩):=h
end
def Yba (sw:List XSwitch) (t:Int):Prop:=(0≤t∧t≤2147483648)∧∀x∈sw,x.since≤t
instance (sw:List XSwitch) (t:Int):Decidable (Yba sw t):=by unfold Yba;infer_instance
def Urc (sw:List XSwitch) (zn:List Int) (rp s t:Int):Int:=if feedE sw zn rp≠0 then feedE sw zn rp else if s < 0∨(sw.length:Int)≤s then 16 else if Yba sw t then 0 else 8
def Kmc (f:XFeeder) (t:Int) (L:LB) (R:LS) (hf:FeederR f R):
 Tri Tryz.prog 227 [f.val,.int .i64 t].toArray L R (fun v U J=>v=.bool (decide (Yba f.switches.l t))∧L=U∧R=J):=by
 have hsR:=hf.sw;refine Jgb Tryz.call227 hsR fun hcap=>?_;refine Je 25 Tryz.call227 Tryz.func227 rfl rfl rfl ?_;apply (Xaf);intro b2;apply qaz∘qaw∘Xck;apply Kf (G:=[_,_]) (j:=2) (cj:=9) rfl rfl zb rfl zmb rfl;·exact zsd
 intro junk3;apply (qaf);refine q_c ?_ ?_<;>intro hc0;·apply Xbt∘qbh;refine q_b L R ?_;exact ⟨by rw [decide_eq_false (fun h=>by have:=h.1;omega)],rfl,rfl⟩
 apply (Xc2);refine Jm [(1,.int _ _),(14,.slice _ _ _),(15,.int _ _),(16,.int _ _)] zh fun tq0=>?_;refine q_s ([4,6]++rg 16 9) (fun g:{k:Nat // k≤f.switches.l.length∧∀j:Nat,j < k→(f.switches.l.getD j default).since≤t}=>[(16,.int .i64 ((g.1:Nat):Int))]) (fun g=>f.switches.l.length - g.1) (⟨0,by omega,fun j hj=>by omega⟩) ?_;rintro ⟨k,hk,hal⟩ junk;try dsimp only
 apply (Xaj);refine q_c ?_ ?_<;>intro hc1;·
  have hg:=Jp (l:=f.switches.l) (k:=k) default za;apply (qbb);refine Jw zD rfl ?_;apply qdw∘qaq;intro b6;apply Xaz∘qaa∘Xaa∘Xbd;refine q_c ?_ ?_<;>intro hc2;·apply Xbt∘qbt;refine q_b L R ?_;exact ⟨by rw [decide_eq_false (fun h=>by have:=h.2 _ (yh hg);omega)],rfl,rfl⟩
  exact uaS
 apply qbk∘Xbs;refine q_b L R ?_;refine ⟨by rw [decide_eq_true (p:=Yba f.switches.l t)];refine ⟨by omega,fun x hx=>?_⟩;obtain ⟨j,hj,rfl⟩:=yza hx;have:=hal j za;rwa [yi,yB hj] at this,rfl,rfl⟩
def Zub (f:XFeeder) (s t:Int) (L:LB) (R:LS) (hf:FeederR f R):
 Tri Tryz.prog 150 [f.val,.int .i64 s,.int .i64 t].toArray L R (fun v U J=>v=.int .i64 (Urc f.switches.l f.zones.l f.reply s t)∧L=U∧R=J):=by
 refine Je 26 Tryz.call150 Tryz.func150 rfl rfl rfl ?_;apply (Xaf);intro b3;apply Xar∘Jee;refine q_l rfl (Yh f _ _ hf) ?_;apply (Xbb);refine q_c ?_ ?_<;>intro hc0;·apply (Xdx);refine q_i L R ?_;exact ⟨by rw [Urc,if_pos hc0],rfl,rfl⟩
 apply qbo∘Xck;apply Kf (G:=[_,_,_,_,_]) (j:=2) (cj:=15) rfl rfl zb rfl zmb rfl;·exact zme
 intro junk3;apply (qaf);refine q_c ?_ ?_<;>intro hc1;·apply (Xa8);refine q_i L R ?_;exact ⟨by rw [Urc,if_neg za,if_pos za],rfl,rfl⟩
 apply qbo∘Jee∘qaa;refine q_l rfl (Kmc f t _ _ hf) ?_;apply (Xbj);refine q_c ?_ ?_<;>intro hc2;·apply (Xa8);refine q_i L R ?_;exact ⟨by rw [Urc,if_neg za,if_neg za,if_neg zO],rfl,rfl⟩
 apply (Xcy);refine q_i L R ?_;exact ⟨by rw [Urc,if_neg za,if_neg za,if_pos zO],rfl,rfl⟩
def Keb (f:XFeeder) (L:LB) (R:LS) (hf:FeederR f R) (hn:f.switches.l.length≤1000∧f.zones.l.length≤1000):
 Tri Tryz.prog 151 [f.val].toArray L R (fun v U J=>∃(p:OwL XSwitch) (q:OwL Int),v=.agg #[p.val,q.val,.int .i64 f.reply]∧(p.ok 5 XSwitch.cells∧q.ok 1 Jj)∧p.l=f.switches.l∧q.l=f.zones.l∧q.L 3 Jj ++ (p.L 76 XSwitch.cells ++ L)=U∧R=J):=by have hsR:=hf.sw;have hzR:=hf.zn;refine Je 12 Tryz.call151 Tryz.func151 rfl rfl rfl ?_;apply (Xaf);intro b1;apply (qaq);intro b2;apply (Xde);refine Za ztc rfl ?_;rintro v U J ⟨o5,rfl,hok5,rfl,rfl⟩;apply Xbo∘Xde;refine Za zJc rfl ?_;rintro v U J ⟨o9,rfl,hok9,rfl,rfl⟩;apply Xbo∘qam∘Jee∘Xbl;refine q_r ((⟨o9,f.zones.l⟩:OwL Int).L 3 Jj ++ ((⟨o5,f.switches.l⟩:OwL XSwitch).L 76 XSwitch.cells ++ L)) R (Vs rfl zsb) ?_;exact ⟨⟨o5,f.switches.l⟩,⟨o9,f.zones.l⟩,rfl,⟨hok5,hok9⟩,rfl,rfl,rfl,rfl⟩
def Yra (sw:List XSwitch) (zn:List Int) (rp s t:Int):Int:=
 if Urc sw zn rp s t≠0 then Urc sw zn rp s t
 else if (sw.getD s.toNat default).shown≠-1∨(0≤(sw.getD s.toNat default).above∧(sw.getD (sw.getD s.toNat default).above.toNat default).shown≠1) then 10 else 0
def Kyd (sw:List XSwitch) (s t:Int):List XSwitch:=sw.set s.toNat ⟨(sw.getD s.toNat default).above,t,0,true,false⟩
def U1c (f:XFeeder) (s t:Int) (L:LB) (R:LS) (hf:FeederR f R):
 Tri Tryz.prog 166 [f.val,.int .i64 s,.int .i64 t].toArray L R (fun v U J=>∃(p:OwL XSwitch) (q:OwL Int) (r:Int),v=.tuple #[.agg #[p.val,q.val,.int .i64 r],.int .i64 (Yra f.switches.l f.zones.l f.reply s t)]∧(p.ok 5 XSwitch.cells∧q.ok 1 Jj)∧
  (Yra f.switches.l f.zones.l f.reply s t=0→p.l=Kyd f.switches.l s t∧q.l=f.zones.l∧r=f.reply)∧q.L 3 Jj ++ (p.L 76 XSwitch.cells ++ L)=U∧R=J):=by
 have hsR:=hf.sw;refine Je 54 Tryz.call166 Tryz.func166 rfl rfl rfl ?_;apply (Xaf);intro b3;apply (qaq);intro b6;apply Xar∘Jee∘Xb4;refine q_l rfl (Zub f s t _ _ hf) ?_;apply (Xbb);refine q_c ?_ ?_<;>intro hc0;·
  apply (qae);refine Jw zVb rfl ?_;apply (Xcg);refine q_r L R zbd ?_;have he:Yra f.switches.l f.zones.l f.reply s t=Urc f.switches.l f.zones.l f.reply s t:=by rw [Yra,if_pos hc0]
  exact Ujg
 have hcan:Urc f.switches.l f.zones.l f.reply s t=0:=by omega
 have hfe:feedE f.switches.l f.zones.l f.reply=0:=by rw [Urc] at hcan;split at hcan <;> omega
 have hok:=Yn hfe;have hsn:=hok.sn;have hzl:=hok.zl;have hsr:0≤s∧s < f.switches.l.length:=by rw [Urc,if_neg za] at hcan;split at hcan <;> omega
 have hg:=Jp (l:=f.switches.l) (k:=s.toNat) default za;have hup:=hok.up s.toNat za;obtain ⟨x,hx⟩:∃x,x=f.switches.l.getD s.toNat default:=⟨_,rfl⟩;rw [← hx] at hg hup;apply qbv∘Xah;refine Jw zNa rfl ?_;apply qdw∘qaq;intro b9;apply Xa9∘Xaa∘Xb7;apply Kf (G:=[_,_,_,_,_,_,_,_,_,_,_,_,_]) (j:=3) (cj:=27) rfl rfl zb rfl zmb rfl;·
  intro hg4;replace hg4:=qb hg4;apply Xaa∘qbz∘qah;apply Ui (G:=[_,_,_,_,_,_,_,_]) (j:=7) (cj:=31) rfl rfl zb rfl zmb rfl;·intro hg8;replace hg8:=qb hg8;have hga:=Jp (l:=f.switches.l) (k:=x.above.toNat) default za;apply (Xa0);refine Jw (by first | exact Jd tb rfl rfl rfl rfl zu (i:=x.above.toNat) zk za | exact Jl tb rfl rfl rfl rfl (i:=x.above.toNat) zk za) rfl ?_;exact (Xbc) zvd
  intro junk8;exact qai
 intro junk4;apply (qaf);refine q_c ?_ ?_<;>intro hc1;·
  apply (qae);refine Jw zVb rfl ?_;apply (Xa3);refine q_r L R zbd ?_;have he:Yra f.switches.l f.zones.l f.reply s t=10:=by rw [Yra,if_neg za,← hx,if_pos za]
  exact Ujg
 have he:Yra f.switches.l f.zones.l f.reply s t=0:=by rw [Yra,if_neg za,← hx,if_neg za]
 apply qbv∘Jee;refine Jv rfl (Keb f _ _ hf za) rfl ?_;rintro v U J ⟨p,q,rfl,⟨hpk,hqk⟩,hpl,hql,rfl,rfl⟩;apply (qaq);intro b10;apply (Xcp);have hpg:p.l[s.toNat]?=some x:=by rw [hpl];exact hg
 have hpn:p.l.length=f.switches.l.length:=by rw [hpl]
 apply qay∘Xah∘Xah;refine Jw (J8 (qs:=[(0,(Value.int _ _).cells.toList),(1,(Value.int _ _).cells.toList),(3,(Value.bool _).cells.toList)]) (out:=[_,_,_,_,_]) tb rfl rfl rfl rfl) rfl ?_;refine Jw zkc rfl ?_;refine Vk (Uw tb (p) (⟨x.above,t,0,true,false⟩) rfl rfl rfl rfl zj zg yf zg (yR rfl) zb zb) ?_;rintro v U J ⟨rfl,rfl⟩;apply (qa4);have hpk2:=OwL.set_ok (f:=XSwitch.cells) (wd:=5) (p:=p) (i:=s.toNat) (x:=⟨x.above,t,0,true,false⟩) yf hpk;apply qay∘Jee∘Xb2;refine q_r (q.L 3 Jj ++ ((⟨p.o,p.l.set s.toNat ⟨x.above,t,0,true,false⟩⟩:OwL XSwitch).L 76 XSwitch.cells ++ L)) R zbd ?_;exact ⟨⟨p.o,p.l.set s.toNat ⟨x.above,t,0,true,false⟩⟩,q,f.reply,by simp only [he,OwL.val,yK],⟨hpk2,hqk⟩,fun _=>⟨by rw [Kyd,← hx,hpl],hql,rfl⟩,rfl,rfl⟩
end
section
attribute [local irreducible] CJ LJ DJ Tri YV Gives Uq J2 Kj Ut RV J3 OwL.L
def Ya (sw:List XSwitch) (zn:List Int) (rp s t:Int):Int:=
 if feedE sw zn rp≠0 then feedE sw zn rp else if s < 0∨(sw.length:Int)≤s then 16 else if t≠1∧t≠-1 then 10 else 0
def Jsa (sw:List XSwitch) (s t:Int):List XSwitch:=
 sw.set s.toNat ⟨(sw.getD s.toNat default).above,(sw.getD s.toNat default).since,t,(sw.getD s.toNat default).closed,if t= -1 then false else (sw.getD s.toNat default).late⟩
def V7e {sw:List XSwitch} (h:K6f sw):∀(n:Nat) (s:Int),s < sw.length→(s + 1).toNat≤n→∀x∈Zsa sw s,0≤x∧x≤s:=by
 intro n;induction n with
 | zero=>intro s _ hn;rw [Yqa za];intro x hx;cases hx
 | succ n ih=>
  intro s hs hn x hx;by_cases h0:s < 0;·rw [Yqa h0] at hx;cases hx
  ·
   have ha := h s.toNat za;rw [Zoa h za hs,yca] at hx;rcases hx with rfl | hx;·omega
   ·have := ih _ za za x hx;omega
def Yub {sw:List XSwitch} {zn:List Int} {rp s:Int} {x:Int} (hx:x∈Y9a sw zn rp s):0≤x∧x≤s∧s < sw.length:=by
 rw [Y9a] at hx;split at hx;·cases hx
 ·have hok := Yn (sw := sw) (zn := zn) (rp := rp) za;have:=V7e hok.up _ s za (ym _) x hx;omega
def Yec {sw:List XSwitch} {zn:List Int} {rp s:Int}:(Y9a sw zn rp s).length≤32:=by
 rw [Y9a];split;·simp
 ·have hok := Yn (sw := sw) (zn := zn) (rp := rp) za;have h1:=hok.sn;have:=Jud hok.up _ s za (ym _);omega
end
end Go.Proofs.YtchfclmokpbldaaGreat
