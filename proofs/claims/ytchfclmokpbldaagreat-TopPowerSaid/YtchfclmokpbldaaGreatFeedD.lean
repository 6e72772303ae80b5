/-
  Merged texts. By an AI agent.
-/
import Derived.Test.YtchfclmokpbldaaGreatRoundA
import Derived.OwnWalkIn
import Derived.LoopNIn
import Derived.Test.YtchfclmokpbldaaGreatFits
import Derived.Test.YtchfclmokpbldaaGreatSiteD
import Derived.Laws.StructEq
import Derived.Test.YtchfclmokpbldaaGreatDraws
set_option linter.all false
set_option maxHeartbeats 4000000
set_option maxRecDepth 20000
namespace Go.Proofs.YtchfclmokpbldaaGreat
open Go.Aw Go
section
attribute [local irreducible] CJ LJ DJ Tri YV Gives U0 J3 Kj Uz RV J5 OwL.L
def upF (sw : List XSwitch) : Nat → Int → List Int
 | 0,_=>[]
 | n + 1,s=>if s < 0 then [] else s :: upF sw n (sw.getD s.toNat default).above
def U7a (sw:List XSwitch) (s:Int):List Int:=upF sw (s + 1).toNat s
def V6e (sw:List XSwitch):Prop:=∀i:Nat,i < sw.length→-1≤(sw.getD i default).above∧(sw.getD i default).above < i
def Z4e {sw:List XSwitch} (h:V6e sw):∀(n:Nat) (s:Int),s < sw.length→(s + 1).toNat≤n→upF sw n s=U7a sw s:=by
 intro n;induction n using Nat.strongRecOn with
 | _ n ih=>
  intro s hs hn;by_cases h0:s < 0;·
   rw [U7a, show (s + 1).toNat = 0 by omega];cases n with
   | zero=>rfl
   | succ n=>show (if s < 0 then [] else _)=([]:List Int);rw [if_pos h0]
  ·obtain ⟨k, rfl⟩ : ∃ k, n = k + 1 := ⟨n - 1, by omega⟩;have ha:=h s.toNat za;rw [U7a,show (s + 1).toNat=s.toNat + 1 by omega,upF,upF,if_neg za,if_neg za,ih k za _ za za,ih s.toNat za _ za za]
def Kua {sw:List XSwitch} {s:Int} (h:s < 0):U7a sw s=[]:=by rw [U7a,show (s + 1).toNat=0 by omega];rfl
def Kqa {sw:List XSwitch} (h:V6e sw) {s:Int} (h0:0≤s) (h1:s < sw.length):U7a sw s=s :: U7a sw (sw.getD s.toNat default).above:=by have ha:=h s.toNat za;rw [U7a,show (s + 1).toNat=s.toNat + 1 by omega,upF,if_neg za,Z4e h _ _ za za]
def Ydc {sw:List XSwitch} (h:V6e sw):∀(n:Nat) (s:Int),s < sw.length→(s + 1).toNat≤n→(U7a sw s).length≤n:=by
 intro n;induction n with
 | zero=>intro s _ hn;rw [Kua za];exact yl _
 | succ n ih=>
  intro s hs hn;by_cases h0:s < 0;·rw [Kua h0];simp
  ·have ha := h s.toNat za;rw [Kqa h za hs,yw];have:=ih (sw.getD s.toNat default).above za za;omega
def Upf (c:Code):Code:=match c with
 | .seq _ (.seq (.seq _ (.block _ (.rangeFunc _ _ x _))) _)=>x
 | _=>.skip
def Uge (c:Code):Code:=match c with
 | .seq _ (.seq (.seq _ (.block _ (.rangeFunc _ _ _ x))) _)=>x
 | _=>.skip
def Z6c (sv x:Value) (B:Nat):Array Value:=#[.slice none 0 0,sv,.pointer (some ⟨B,0,none⟩),undef,.slice none 0 0,undef,sv,x,undef,undef,undef,undef,undef]
def Kdc (cd:Code) (fn:FuncId) (sv:Value) (B:Nat) (st:LoopState):Loop:={ state:=st,pending:=none,fn,tmps:=Z6c sv undef B,params:=#[7],assign:=Upf cd,body:=Uge cd,defers:=B + 1 }
def Ujc (cd:Code) (fn:FuncId) (sv:Value) (B:Nat) (st:LoopState):Obj:=.loop (Kdc cd fn sv B st)
def Jva {cd fn sv B st}:NoCells (Ujc cd fn sv B st):=⟨fun c t f h=>zC,fun es ck h=>zC⟩
def K9d:Obj:=.deferred (some [])
def J8a:NoCells K9d:=⟨fun c t f h=>zC,fun es ck h=>zC⟩
def Zhc (t:Array Value) (n:Nat) (h:t.size=n):Fr n (fun k=>t.getD k undef) { tmps:=t,defers:=[] }:=⟨rfl,h,fun _=>rfl⟩
def Yof (o:Oper):Bool:=match o.op with
 | .defer _=>true
 | _=>false
def Z9e {ops:List Oper} (h:ops.any Yof=false):∀o∈ops,∀c,o.op≠.defer c:=fun o ho c e=>by
 have:=List.any_eq_false.1 h o ho
 rw [Yof,e] at this
 exact this rfl
section
variable {w0:World} {Lc:LB} {G:Nat→Prop} {R:LS} (hh:Holds Lc G R w0)
include hh
def Yye {fn:FuncId} {sv:Value} {m:Nat} {Lf:LB} {p:OwL Int} (hok:p.ok 1 Jo) (hlen:p.l.length≤1000000) (x:Int) {W:World} (h:At2 w0 Lc G R (w0.heap.size + 1) K9d (Ujc (Tryz.f170.body.getD .skip) fn sv w0.heap.size .ready) (⟨w0.heap.size,[p.val],40⟩ :: (p.L 3 Jo ++ Lf)) W):
 YieldAt Fence.wide m Tryz.prog (w0.heap.size + 1 + 1) #[.int .i64 x] W fun e W'=>e=.returned (.bool true)∧∃o,(⟨o,p.l ++ [x]⟩:OwL Int).ok 1 Jo∧At2 w0 Lc G R (w0.heap.size + 1) K9d (Ujc (Tryz.f170.body.getD .skip) fn sv w0.heap.size .ready) (⟨w0.heap.size,[(⟨o,p.l ++ [x]⟩:OwL Int).val],40⟩ :: ((⟨o,p.l ++ [x]⟩:OwL Int).L 3 Jo ++ Lf)) W':=by
 refine ⟨fn,Z6c sv (.int .i64 x) w0.heap.size,(Upf (Tryz.f170.body.getD .skip)),(Uge (Tryz.f170.body.getD .skip)),(by have:=run_yield (P:=Tryz.prog) (args:=#[.int .i64 x]) (r:=Kdc (Tryz.f170.body.getD .skip) fn sv w0.heap.size .ready) h.lp rfl;simpa [Kdc,Z6c] using this),roundIn_of_wpIn trivial ?_⟩;refine At2.round hh J8a Jva h (t:=fun k=>(Z6c sv (.int .i64 x) w0.heap.size).getD k undef) (Q:=fun e t M U=>e=.normal∧(t 5=.int .i64 x∧t 2=.pointer (some ⟨w0.heap.size,0,none⟩))∧M=(⟨w0.heap.size,[p.val],40⟩ :: (p.L 3 Jo ++ Lf))∧U=R) (Zhc _ 13 rfl) (Z9e rfl) ?_ (fun _ _ _ h=>by cases h.1) ?_;·refine Jx (Uc zgb) rfl ?_;exact J6 ⟨rfl,⟨rfl,rfl⟩,rfl,rfl⟩
 rintro e a1 W1 t1 L1 R1 ⟨rfl,⟨ht5,ht2⟩,rfl,rfl⟩ hf1 h1;refine ⟨_,run_beginRound h1.lp rfl,?_⟩;have h2:=At2.put hh za Jva (Jva (cd:=(Tryz.f170.body.getD .skip)) (fn:=fn) (sv:=sv) (B:=w0.heap.size) (st:=.busy)) h1;show (Code.block _ _).wpIn _ _ _ _ _ _;refine wpIn_block ?_;refine At2.round hh J8a Jva h2 (Q:=fun e t M U=>e=.normal∧∃o,(⟨o,p.l ++ [x]⟩:OwL Int).ok 1 Jo∧(⟨w0.heap.size,[(⟨o,p.l ++ [x]⟩:OwL Int).val],40⟩ :: ((⟨o,p.l ++ [x]⟩:OwL Int).L 3 Jo ++ Lf)).Sublist M) hf1 (Z9e rfl) ?_ (fun _ _ _ h=>by cases h.1) ?_;·refine Jx (Kv tb ht2 rfl rfl zf zb) rfl ?_;refine Jx (Jt (v:=.int .i64 x) ht5) rfl ?_;apply (qcx);rintro v M U ⟨b88,rfl,rfl,hR88⟩;replace hR88:=hR88.symm;subst hR88;refine Jqa (Kb (f:=Jo) (a:=x) tb rfl rfl rfl rfl hok zj zxb rfl za) rfl ?_;rintro v M U ⟨o,rfl,hok89,rfl,rfl⟩;refine Ura (v:=Value.slice _ _ _) tb rfl ht2 rfl rfl zy rfl rfl zb ?_;exact J6 ⟨rfl,o,hok89,yja _ _⟩
 rintro e a3 W3 t3 L3 R3 ⟨rfl,o,hok3,hsub⟩ hf3 h3;have h4:At2 _ _ _ _ _ _ _ _ _:=⟨h3.st.weak hsub ztb,h3.df,h3.lp⟩;exact ⟨_,_,run_endRound none h4.lp,rfl,o,hok3,At2.put hh za Jva Jva h4⟩
def Jec (w:World) (b:Nat):Int:=match w.cell? ⟨b,0,none⟩ with
 | some (.int _ n)=>n
 | _=>-1
def Kfg {fn : FuncId} {sv : Value} {m : Nat} {f : XFeeder} {bs bf : Nat} {L : LB} (hsR : InR (Vcb f.switches) R) (hu : V6e f.switches.l) (hn : f.switches.l.length ≤ 1000) {cur : Int} (hc : cur < f.switches.l.length) {W : World} {p : OwL Int} (hk : p.ok 1 Jo) (hpl : p.l = [])
 (h:At2 w0 Lc G R (w0.heap.size + 1) K9d (Ujc (Tryz.f170.body.getD .skip) fn sv w0.heap.size .ready) (⟨w0.heap.size,[p.val],40⟩ :: (p.L 3 Jo ++ (⟨bs,[.int .i64 cur],3⟩ :: ⟨bf,f.cells,42⟩ :: L))) W):
 CallsIn Fence.wide m Tryz.prog 171 #[.func (.yield (w0.heap.size + 1 + 1)) #[] #[],.pointer (some ⟨bs,0,none⟩),.pointer (some ⟨bf,0,none⟩)] W fun e W'=>(∃v,e=.returned v)∧∃(q:OwL Int) (c':Int),q.ok 1 Jo∧q.l=U7a f.switches.l cur∧
  At2 w0 Lc G R (w0.heap.size + 1) K9d (Ujc (Tryz.f170.body.getD .skip) fn sv w0.heap.size .ready) (⟨w0.heap.size,[q.val],40⟩ :: (q.L 3 Jo ++ (⟨bs,[.int .i64 c'],3⟩ :: ⟨bf,f.cells,42⟩ :: L))) W':=by
 refine callsIn_of_wp Tryz.func171 rfl trivial ?_ rfl;simp only [Tryz.ntmps171,ygb,yw,yea,Nat.reduceAdd,Nat.reduceSub,yib,yjb,ywb,ynb,yv,yp];refine wpIn_block ?_;refine wpIn_loop (fun a w=>∃(t:Nat→Value) (q:OwL Int) (c':Int),Fr 16 t a∧(t 0=.func (.yield (w0.heap.size + 1 + 1)) #[] #[]∧t 1=.pointer (some ⟨bs,0,none⟩)∧t 2=.pointer (some ⟨bf,0,none⟩))∧q.ok 1 Jo∧(-1≤c'∨True)∧c' < f.switches.l.length∧U7a f.switches.l cur=q.l ++ U7a f.switches.l c'∧
  At2 w0 Lc G R (w0.heap.size + 1) K9d (Ujc (Tryz.f170.body.getD .skip) fn sv w0.heap.size .ready) (⟨w0.heap.size,[q.val],40⟩ :: (q.L 3 Jo ++ (⟨bs,[.int .i64 c'],3⟩ :: ⟨bf,f.cells,42⟩ :: L))) w) (fun _ w=>(Jec w bs + 1).toNat) ?_ ?_
 ·exact ⟨_,p,cur,Zhc _ 16 rfl,⟨rfl,rfl,rfl⟩,hk,.inr trivial,hc,by rw [hpl];rfl,h⟩
 rintro a w ⟨t,q,c',hf,⟨t0,t1,t2⟩,hk,_,hc',hp,h⟩;have hnum:Jec w bs=c':=by have:=Z4 (b:=bs) (cs:=[.int .i64 c']) (T:=3) h.st (yS _ (yi _ yQa)) 0;rw [Jec,this];rfl
 refine wpIn_seq (wpIn_seq ?_);refine At2.plain hh J8a Jva h (Q:=fun e t' M U=>e=.normal∧((t' 0=.func (.yield (w0.heap.size + 1 + 1)) #[] #[]∧t' 1=.pointer (some ⟨bs,0,none⟩)∧t' 2=.pointer (some ⟨bf,0,none⟩))∧t' 5=.bool (decide (0≤c')))∧(⟨w0.heap.size,[q.val],40⟩ :: (q.L 3 Jo ++ (⟨bs,[.int .i64 c'],3⟩ :: ⟨bf,f.cells,42⟩ :: L)))=M) hf ?_ ?_;·exact ua7
 rintro e a1 w1 t' L1 R1 ⟨rfl,⟨⟨t0,t1,t2⟩,t5⟩,rfl⟩ hf1 h1;refine wpIn_cond (t:=decide (0≤c')) (by rw [hf1.eval];exact t5) ?_;by_cases h0:0≤c';·
  rw [decide_eq_true h0, if_pos rfl];refine wpIn_skip ?_;refine wpIn_seq (wpIn_block (wpIn_seq ?_));refine wpIn_region_lit ?_;refine Vuf hf1 h1.st (Jt (v:=.func (.yield (w0.heap.size + 1 + 1)) #[] #[]) t0) rfl fun a2 hf2=>?_;refine Vuf hf2 h1.st zzc rfl fun a3 hf3=>?_;have hpl2:q.l.length≤1000000:=by have:=Ydc hu _ cur hc (yl _);rw [hp,yo] at this;omega
  refine Vrd (v:=.int .i64 c') hf3 rfl rfl rfl (Yye hh hk hpl2 c' h1) fun a4 w4 hf4 ⟨o,hok4,h4⟩=>?_;refine Vuf hf4 h4.st (V8a rfl) rfl fun a5 hf5=>?_;show Exit.then _ _ Exit.normal _ _;refine wpIn_cond (t:=false) (by rw [hf5.eval];rfl) ?_;rw [if_neg zo];refine wpIn_skip ?_;have hg:=Jw (l:=f.switches.l) (k:=c'.toNat) default za;have ha:=hu c'.toNat za;refine At2.plain hh J8a Jva h4 (Q:=fun e t' M U=>e=.normal∧(t' 0=.func (.yield (w0.heap.size + 1 + 1)) #[] #[]∧t' 1=.pointer (some ⟨bs,0,none⟩)∧t' 2=.pointer (some ⟨bf,0,none⟩))∧
   ⟨w0.heap.size,[(⟨o,q.l ++ [c']⟩:OwL Int).val],40⟩ :: ((⟨o,q.l ++ [c']⟩:OwL Int).L 3 Jo ++ (⟨bs,[.int .i64 (f.switches.l.getD c'.toNat default).above],3⟩ :: ⟨bf,f.cells,42⟩ :: L))=M) hf5 ?_ ?_
  ·refine Jh ?_;exact zkd
  rintro e a6 w6 t6 L6 R6 ⟨rfl,ht6,rfl⟩ hf6 h6;have hnum6:Jec w6 bs=(f.switches.l.getD c'.toNat default).above:=by have:=Z4 (b:=bs) (cs:=[.int .i64 (f.switches.l.getD c'.toNat default).above]) (T:=3) h6.st (yS _ (yi _ yQa)) 0;rw [Jec,this];rfl
  refine ⟨⟨t6,⟨o,q.l ++ [c']⟩,_,hf6,ht6,hok4,.inr trivial,by omega,?_,h6⟩,?_⟩;·rw [hp,Kqa hu h0 hc',yq];rfl
  ·rw [hnum,hnum6];omega
 ·rw [decide_eq_false h0, if_neg zo];refine wpIn_exit ?_;simp only [Exit.then,Exit.inBlock,if_true];refine ⟨hf1.defers,_,results_none rfl _ _ _,⟨_,rfl⟩,q,c',hk,?_,h1⟩;rw [hp,Kua za,yZ]
end
def Uac (f:XFeeder) (s:Int) (bs bf:Nat) (L:LB) (R:LS) (hsR:InR (Vcb f.switches) R) (hu:V6e f.switches.l) (hn:f.switches.l.length≤1000) (hc:s < f.switches.l.length):
 Tri Tryz.prog 170 [.slice none 0 0, .func (.func 171) #[] #[.pointer (some ⟨bs, 0, none⟩), .pointer (some ⟨bf, 0, none⟩)]].toArray (⟨bs, [.int .i64 s], 3⟩ :: ⟨bf, f.cells, 42⟩ :: L) R
  (fun v M U=>∃(q:OwL Int) (c':Int),v=q.val∧q.ok 1 Jo∧q.l=U7a f.switches.l s∧q.L 3 Jo ++ (⟨bs,[.int .i64 c'],3⟩ :: ⟨bf,f.cells,42⟩ :: L)=M∧R=U):=by
 refine Tri.raw Tryz.call170 fun w G hh=>(callsIn_wide (n:=5)).1 ?_;refine callsIn_of_wp_marks Tryz.func170 rfl trivial ?_ rfl;simp only [Tryz.ntmps170,ygb,yw,yea,Nat.reduceAdd,Nat.reduceSub,yib,yjb,ywb,ynb,yv,yp]
 gi_wp2
 refine wpIn_rangeFunc ?_;intro fn hfn;obtain ⟨sv,hsv⟩:∃sv:Value,sv=.func (.func 171) #[] #[.pointer (some ⟨bs,0,none⟩),.pointer (some ⟨bf,0,none⟩)]:=⟨_,rfl⟩;obtain ⟨W0,hW0⟩:∃W0,w.alloc (.cells #[.slice none 0 0] 40)=W0:=⟨_,rfl⟩;have hs0:W0.heap.size=w.heap.size + 1:=by rw [← hW0];simp
 have st0:St ⟨w,inL (⟨bs,[.int .i64 s],3⟩ :: ⟨bf,f.cells,42⟩ :: L),G⟩ (⟨w.heap.size,[.slice none 0 0],40⟩ :: ⟨bs,[.int .i64 s],3⟩ :: ⟨bf,f.cells,42⟩ :: L) R W0:=by rw [← hW0];exact (St.init hh).alloc #[.slice none 0 0] 40
 rw [hW0];obtain ⟨W1,hW1⟩:∃W1,(W0.alloc K9d).alloc (Ujc (Tryz.f170.body.getD .skip) fn sv w.heap.size .ready)=W1:=⟨_,rfl⟩;have hA:At2 w (⟨bs,[.int .i64 s],3⟩ :: ⟨bf,f.cells,42⟩ :: L) G R (w.heap.size + 1) K9d (Ujc (Tryz.f170.body.getD .skip) fn sv w.heap.size .ready) (⟨w.heap.size,[(OwL.nil:OwL Int).val],40⟩ :: ((OwL.nil:OwL Int).L 3 Jo ++ (⟨bs,[.int .i64 s],3⟩ :: ⟨bf,f.cells,42⟩ :: L))) W1:=by
  rw [← hW1];refine ⟨(by rw [Ki,yv];exact (st0.allocO J8a).allocO Jva),?_,?_⟩;·rw [← hs0];exact (U2d _ _ _ zo).trans (World.alloc_heap_new W0 _)
  ·have := World.alloc_heap_new (W0.alloc K9d) (Ujc (Tryz.f170.body.getD .skip) fn sv w.heap.size .ready);rwa [World.size_alloc,hs0] at this
 refine ⟨w.heap.size + 1 + 1,[{ target:=.collected (w.heap.size + 1),args:=#[] }],W1,{ target:=.fn (.func 171) #[.pointer (some ⟨bs,0,none⟩),.pointer (some ⟨bf,0,none⟩)],args:=#[.func (.yield (w.heap.size + 1 + 1)) #[] #[]] },W1,171,
  #[.func (.yield (w.heap.size + 1 + 1)) #[] #[],.pointer (some ⟨bs,0,none⟩),.pointer (some ⟨bf,0,none⟩)],W1,?_,?_,fun _ _=>trivial,?_,fun h=>zC,?_⟩
 ·have := run_enterLoop_outer (P := Tryz.prog) (w := W0) fn (Z6c sv undef w.heap.size) #[7] (Upf (Tryz.f170.body.getD .skip)) (Uge (Tryz.f170.body.getD .skip));rw [hs0] at this;rw [← hW1,hsv];rw [hsv] at this;exact this
 ·simp [resolve,go_sem]
 ·simp [invoke,go_sem,Tryz.call171]
 ·
  refine (Kfg hh hsR hu hn hc OwL.nil_ok rfl hA).mono ?_;rintro e W2 ⟨⟨v0,rfl⟩,q,c',hk,hq,h2⟩;have hend:=run_endLoop (P:=Tryz.prog) h2.lp (by simp [Kdc]);have h3:=At2.put hh za Jva (ol':=.loop { Kdc (Tryz.f170.body.getD .skip) fn sv w.heap.size .ready with state:=.exhausted }) ⟨fun c t f h=>zC,fun es ck h=>zC⟩ h2;obtain ⟨W3,hW3⟩:∃W3,W2.putObj (w.heap.size + 1 + 1) (.loop { Kdc (Tryz.f170.body.getD .skip) fn sv w.heap.size .ready with state:=.exhausted })=W3:=⟨_,rfl⟩;rw [hW3] at hend h3;have hc3:W3.cell? ⟨w.heap.size,0,none⟩=some q.val:=Z4 (b:=w.heap.size) (cs:=[q.val]) (T:=40) h3.st yQa 0;have hd3:=h3.df;have st3:=h3.st;clear hW3 h3 h2 hA hW1 st0 hW0;refine ⟨none,W3,hend,?_⟩
  gi_wp2
  have st4:=(st3.put hh hd3 J8a (o':=.deferred none) ⟨fun c t f h=>zC,fun es ck h=>zC⟩ za).weak (yja _ _) ztb;refine ⟨by simp,.inl ⟨_,_,rfl,run_takeDeferred hd3,?_⟩⟩;exact ⟨_,results_tmp rfl _ _ _,q.val,_,_,rfl,⟨q,c',rfl,hk,hq,rfl,rfl⟩,st4⟩
end
section
attribute [local irreducible] CJ LJ DJ Tri YV Gives U0 J3 Kj Uz RV J5 OwL.L
section
variable {A B:Prop}
def Z4f(h:A→B:=by exact Jx zkb rfl):=h
end
structure FeedOk (sw:List XSwitch) (zn:List Int) (rp:Int):Prop where
 sn:sw.length≤32
 zl:zn.length≤16
 up:V6e sw
 since:∀i:Nat,i < sw.length→0≤(sw.getD i default).since∧(sw.getD i default).since≤2147483648
 shown:∀i:Nat,i < sw.length→-1≤(sw.getD i default).shown∧(sw.getD i default).shown≤1
 zr:∀i:Nat,i < zn.length→0≤zn.getD i 0∧zn.getD i 0 < sw.length
 zd:∀i j:Nat,j < i→i < zn.length→zn.getD j 0≠zn.getD i 0
 rp:1≤rp∧rp≤100000
def Kzb {β:Type} {f:Nat→Option β} {n:Nat} (h:(List.range n).findSome? f=none) {i:Nat} (hi:i < n):f i=none:=by rw [yF] at h;exact h i (List.mem_range.2 hi)
def Yjd {l:List XSwitch} {i:Nat}:U6a l i≠some 0:=by
 rw [U6a];repeat' split
 all_goals (intro h;first | cases h | (injection h with h;omega))
def Yde {n:Nat} {l:List Int} {i:Nat}:Zua n l i≠some 0:=by
 rw [Zua];repeat' split
 all_goals (intro h;first | cases h | (injection h with h;omega))
def Uec {f:Nat→Option Int} {n:Nat} {e:Int} (hf:∀i,f i≠some 0) (h:(List.range n).findSome? f=some e):e≠0:=by obtain ⟨i,_,hi⟩:=yI h;rintro rfl;exact hf _ hi
def Vq {sw:List XSwitch} {zn:List Int} {rp:Int} (h:feedE sw zn rp=0):FeedOk sw zn rp:=by
 by_cases h0:32 < sw.length∨16 < zn.length;·rw [feedE,if_pos h0] at h;omega
 cases h1:(List.range sw.length).findSome? (U6a sw) with
 | some e=>rw [J6b h0 h1] at h;exact absurd h (Uec (fun _=>Yjd) h1)
 | none=>
  cases h2:(List.range zn.length).findSome? (Zua sw.length zn) with
  | some e=>rw [Vic h0 h1 h2] at h;exact absurd h (Uec (fun _=>Yde) h2)
  | none=>
   rw [Vxb h0 h1 h2] at h;have hs:∀i:Nat,i < sw.length→(-1≤(sw.getD i default).above∧(sw.getD i default).above < i)∧(0≤(sw.getD i default).since∧(sw.getD i default).since≤2147483648)∧(-1≤(sw.getD i default).shown∧(sw.getD i default).shown≤1):=fun i hi=>by
    have:=Kzb h1 hi;rw [U6a] at this;split at this;·cases this
    split at this;·cases this
    split at this;·cases this
    rename_i k1 k2 k3;rw [not_or] at k3;omega
   have hz:∀i:Nat,i < zn.length→(0≤zn.getD i 0∧zn.getD i 0 < sw.length)∧∀j:Nat,j < i→zn.getD j 0≠zn.getD i 0:=fun i hi=>by
    have:=Kzb h2 hi;rw [Zua] at this;split at this;·cases this
    split at this;·cases this
    rename_i k1 k2;exact ⟨by omega,fun j hj hh=>k2 ⟨j,hj,hh⟩⟩
   refine ⟨by omega,by omega,fun i hi=>(hs i hi).1,fun i hi=>(hs i hi).2.1,fun i hi=>(hs i hi).2.2,fun i hi=>(hz i hi).1,fun i j hj hi=>(hz i hi).2 j hj,?_⟩;by_cases hr:rp < 1∨100000 < rp;·rw [if_pos hr] at h;omega
   ·omega
def Kma (sw:List XSwitch) (zn:List Int) (rp:Int) (s:Int):List Int:=if feedE sw zn rp≠0∨s < 0∨(sw.length:Int)≤s then [] else U7a sw s
def Kuc (f:XFeeder) (s:Int) (L:LB) (R:LS):
 Tri Tryz.prog 90 [f.val,.int .i64 s].toArray L R (fun v M U=>∃bs bf,v=.func (.func 171) #[] #[.pointer (some ⟨bs,0,none⟩),.pointer (some ⟨bf,0,none⟩)]∧(⟨bs,[.int .i64 s],3⟩ :: ⟨bf,f.cells,42⟩ :: L)=M∧R=U):=by refine Jj 6 Tryz.call90 Tryz.func90 rfl rfl rfl ?_;apply (Xaf);intro b2;refine Upd (v:=Value.int _ _) rfl rfl rfl ?_;intro b3;refine Jx (Uc rfl) rfl ?_;apply (qam);refine Jx (Uic rfl) rfl ?_;refine Jx (Uc rfl) rfl ?_;apply (qa0);refine q_r (⟨b3,[.int .i64 s],3⟩ :: ⟨b2,f.cells,42⟩ :: L) R (Yc rfl (Jg rfl)) ?_;exact ⟨b3,b2,rfl,rfl,rfl⟩
def Kgd (f:XFeeder) (s:Int) (bs bf:Nat) (L:LB) (R:LS) (hsR:InR (Vcb f.switches) R) (hu:V6e f.switches.l) (hn:f.switches.l.length≤1000) (hc:s < f.switches.l.length):
 Tri Tryz.prog 89 [.func (.func 171) #[] #[.pointer (some ⟨bs, 0, none⟩), .pointer (some ⟨bf, 0, none⟩)]].toArray (⟨bs, [.int .i64 s], 3⟩ :: ⟨bf, f.cells, 42⟩ :: L) R
  (fun v M U=>∃(q:OwL Int) (c':Int),v=q.val∧q.ok 1 Jo∧q.l=U7a f.switches.l s∧q.L 3 Jo ++ (⟨bs,[.int .i64 c'],3⟩ :: ⟨bf,f.cells,42⟩ :: L)=M∧R=U):=by refine Jj 5 Tryz.call89 Tryz.func89 rfl rfl rfl ?_;apply Xck∘qam;refine Jx zCb rfl ?_;refine Jy rfl (Uac f s bs bf L R hsR hu hn hc) rfl ?_;rintro v M U ⟨q,c',rfl,hk,hq,rfl,rfl⟩;apply (Xcl);refine q_r (q.L 3 Jo ++ (⟨bs,[.int .i64 c'],3⟩ :: ⟨bf,f.cells,42⟩ :: L)) R zUc ?_;exact ⟨q,c',rfl,hk,hq,rfl,rfl⟩
def Vib (f:XFeeder) (s:Int) (L:LB) (R:LS) (hf:FeederR f R):
 Tri Tryz.prog 26 [f.val,.int .i64 s].toArray L R (fun v M U=>∃q:OwL Int,v=q.val∧q.ok 1 Jo∧q.l=Kma f.switches.l f.zones.l f.reply s∧q.L 3 Jo ++ L=M∧R=U):=by
 refine Jj 23 Tryz.call26 Tryz.func26 rfl rfl rfl ?_;apply (Xaf);intro b2;apply Xb0∘Z4f;refine q_l rfl (Vg f _ _ hf) ?_;apply (Xbu);apply J9 (G:=[_,_]) (j:=3) (cj:=8) rfl rfl zb rfl zfb rfl;·intro hg4;replace hg4:=qb hg4;exact (qaa) zyd
 intro junk4;apply (qah);apply J9 (G:=[_,_,_,_,_]) (j:=7) (cj:=12) rfl rfl zb rfl zfb rfl;·intro hg8;replace hg8:=qb hg8;exact (qaa∘Xab) zjd
 intro junk8;apply (qaf);refine q_c ?_ ?_<;>intro hc0;·apply Xck∘qbh;refine q_r L R zUc ?_;exact ⟨.nil,rfl,OwL.nil_ok,by rw [Kma,if_pos za],by rw [Ki];rfl,rfl⟩
 have hok:=Vq (sw:=f.switches.l) (zn:=f.zones.l) (rp:=f.reply) za;have hsn:=hok.sn;apply qbv∘Z4f∘qaa;refine Jy rfl (Kuc f s _ _) rfl ?_;rintro v M U ⟨bs,bf,rfl,rfl,rfl⟩;refine Jy rfl (Kgd f s bs bf _ _ hf.sw hok.up za za) rfl ?_;rintro v M U ⟨q,c',rfl,hk,hq,rfl,rfl⟩;apply (Xcl);refine q_r (q.L 3 Jo ++ L) R zUc ?_;exact ⟨q,rfl,hk,by rw [Kma,if_neg za];exact hq,rfl,rfl⟩
end
section
inductive KC where
 | i
 | b
section
variable {P:Program}
end
section
variable {P:Program} {ρ:Operand→Value} {L:LB} {R:LS} {dst:Option Tmp} {ty:TypeId} {pos:String} {after:Array Edge} {guard:Option (Nat×Bool)} {T T2:TypeId} {x y:Operand} {ks:List KC} {xs ys:List Value}
end
end
section
attribute [local irreducible] CJ LJ DJ Tri YV Gives U0 J3 Kj Uz RV J5 OwL.L
section
variable {A B:Prop}
def Zcd(h:A→B:=by exact Jx zkb rfl):=h
def Vxf(h:B:=by exact ⟨.nil,.nil,0,by rw [he];rfl,⟨OwL.nil_ok,OwL.nil_ok⟩,fun h=>by omega,by rw [Ki,Ki];rfl,rfl⟩):=h
end
def V7a (sw:List XSwitch) (t:Int):Prop:=(0≤t∧t≤2147483648)∧∀x∈sw,x.since≤t
instance (sw:List XSwitch) (t:Int):Decidable (V7a sw t):=by unfold V7a;infer_instance
def Jxc (sw:List XSwitch) (zn:List Int) (rp s t:Int):Int:=if feedE sw zn rp≠0 then feedE sw zn rp else if s < 0∨(sw.length:Int)≤s then 16 else if V7a sw t then 0 else 8
def J5c (f:XFeeder) (t:Int) (L:LB) (R:LS) (hf:FeederR f R):
 Tri Tryz.prog 227 [f.val,.int .i64 t].toArray L R (fun v M U=>v=.bool (decide (V7a f.switches.l t))∧L=M∧R=U):=by
 have hsR:=hf.sw;refine Zba Tryz.call227 hsR fun hcap=>?_;refine Jj 25 Tryz.call227 Tryz.func227 rfl rfl rfl ?_;apply (Xaf);intro b2;apply qaz∘qaw∘qaa∘Xav;apply J9 (G:=[_,_]) (j:=2) (cj:=9) rfl rfl zb rfl zfb rfl;·exact zgd
 intro junk3;apply (qaf);refine q_c ?_ ?_<;>intro hc0;·apply Xbe∘qbh;refine q_b L R ?_;exact ⟨by rw [decide_eq_false (fun h=>by have:=h.1;omega)],rfl,rfl⟩
 apply (Xco);refine Jp [(1,.int _ _),(14,.slice _ _ _),(15,.int _ _),(16,.int _ _)] zh fun tq0=>?_;refine q_s ([4,6]++rg 16 9) (fun g:{k:Nat // k≤f.switches.l.length∧∀j:Nat,j < k→(f.switches.l.getD j default).since≤t}=>[(16,.int .i64 ((g.1:Nat):Int))]) (fun g=>f.switches.l.length - g.1) (⟨0,by omega,fun j hj=>by omega⟩) ?_;rintro ⟨k,hk,hal⟩ junk;try dsimp only
 apply (Xak);refine q_c ?_ ?_<;>intro hc1;·
  have hg:=Jw (l:=f.switches.l) (k:=k) default za;apply (qbb);refine Jx zB rfl ?_;apply (Xdg);intro b6;apply Xay∘qaa∘Xaa∘Xbm;refine q_c ?_ ?_<;>intro hc2;·apply Xbe∘qbt;refine q_b L R ?_;exact ⟨by rw [decide_eq_false (fun h=>by have:=h.2 _ (yj hg);omega)],rfl,rfl⟩
  exact uaL
 apply qbk∘Xa2;refine q_b L R ?_;refine ⟨by rw [decide_eq_true (p:=V7a f.switches.l t)];refine ⟨by omega,fun x hx=>?_⟩;obtain ⟨j,hj,rfl⟩:=yMa hx;have:=hal j za;rwa [yh,yC hj] at this,rfl,rfl⟩
def Yeb (f:XFeeder) (s t:Int) (L:LB) (R:LS) (hf:FeederR f R):
 Tri Tryz.prog 150 [f.val,.int .i64 s,.int .i64 t].toArray L R (fun v M U=>v=.int .i64 (Jxc f.switches.l f.zones.l f.reply s t)∧L=M∧R=U):=by
 refine Jj 26 Tryz.call150 Tryz.func150 rfl rfl rfl ?_;apply (Xaf);intro b3;apply Xap∘Zcd;refine q_l rfl (Vg f _ _ hf) ?_;apply (Xba);refine q_c ?_ ?_<;>intro hc0;·apply (Xdl);refine q_i L R ?_;exact ⟨by rw [Jxc,if_pos hc0],rfl,rfl⟩
 apply Xcq∘Xav;apply J9 (G:=[_,_,_,_,_]) (j:=2) (cj:=15) rfl rfl zb rfl zfb rfl;·exact zbe
 intro junk3;apply (qaf);refine q_c ?_ ?_<;>intro hc1;·apply (Xa6);refine q_i L R ?_;exact ⟨by rw [Jxc,if_neg za,if_pos za],rfl,rfl⟩
 apply qbo∘Zcd∘qaa;refine q_l rfl (J5c f t _ _ hf) ?_;apply (Xbb);refine q_c ?_ ?_<;>intro hc2;·apply (Xa6);refine q_i L R ?_;exact ⟨by rw [Jxc,if_neg za,if_neg za,if_neg zK],rfl,rfl⟩
 apply (Xcf);refine q_i L R ?_;exact ⟨by rw [Jxc,if_neg za,if_neg za,if_pos zK],rfl,rfl⟩
def Jub (f:XFeeder) (L:LB) (R:LS) (hf:FeederR f R) (hn:f.switches.l.length≤1000∧f.zones.l.length≤1000):
 Tri Tryz.prog 151 [f.val].toArray L R (fun v M U=>∃(p:OwL XSwitch) (q:OwL Int),v=.agg #[p.val,q.val,.int .i64 f.reply]∧(p.ok 5 XSwitch.cells∧q.ok 1 Jo)∧p.l=f.switches.l∧q.l=f.zones.l∧q.L 3 Jo ++ (p.L 76 XSwitch.cells ++ L)=M∧R=U):=by have hsR:=hf.sw;have hzR:=hf.zn;refine Jj 12 Tryz.call151 Tryz.func151 rfl rfl rfl ?_;apply (Xaf);intro b1;apply (qaq);intro b2;apply (Xcj);refine Jqa zfc rfl ?_;rintro v M U ⟨o5,rfl,hok5,rfl,rfl⟩;apply Xbn∘Xcj;refine Jqa zrc rfl ?_;rintro v M U ⟨o9,rfl,hok9,rfl,rfl⟩;apply Xbn∘qam∘Zcd∘Xbr;refine q_r ((⟨o9,f.zones.l⟩:OwL Int).L 3 Jo ++ ((⟨o5,f.switches.l⟩:OwL XSwitch).L 76 XSwitch.cells ++ L)) R (Yc rfl zmb) ?_;exact ⟨⟨o5,f.switches.l⟩,⟨o9,f.zones.l⟩,rfl,⟨hok5,hok9⟩,rfl,rfl,rfl,rfl⟩
def Usa (sw:List XSwitch) (zn:List Int) (rp s t:Int):Int:=
 if Jxc sw zn rp s t≠0 then Jxc sw zn rp s t
 else if (sw.getD s.toNat default).shown≠-1∨(0≤(sw.getD s.toNat default).above∧(sw.getD (sw.getD s.toNat default).above.toNat default).shown≠1) then 10 else 0
def K4b (sw:List XSwitch) (s t:Int):List XSwitch:=sw.set s.toNat ⟨(sw.getD s.toNat default).above,t,0,true,false⟩
def U9c (f:XFeeder) (s t:Int) (L:LB) (R:LS) (hf:FeederR f R):
 Tri Tryz.prog 166 [f.val,.int .i64 s,.int .i64 t].toArray L R (fun v M U=>∃(p:OwL XSwitch) (q:OwL Int) (r:Int),v=.tuple #[.agg #[p.val,q.val,.int .i64 r],.int .i64 (Usa f.switches.l f.zones.l f.reply s t)]∧(p.ok 5 XSwitch.cells∧q.ok 1 Jo)∧
  (Usa f.switches.l f.zones.l f.reply s t=0→p.l=K4b f.switches.l s t∧q.l=f.zones.l∧r=f.reply)∧q.L 3 Jo ++ (p.L 76 XSwitch.cells ++ L)=M∧R=U):=by
 have hsR:=hf.sw;refine Jj 54 Tryz.call166 Tryz.func166 rfl rfl rfl ?_;apply (Xaf);intro b3;apply (qaq);intro b6;apply Xap∘Zcd∘Xbg;refine q_l rfl (Yeb f s t _ _ hf) ?_;apply (Xba);refine q_c ?_ ?_<;>intro hc0;·
  apply (qae);refine Jx zKb rfl ?_;apply (Xbz);refine q_r L R zPc ?_;have he:Usa f.switches.l f.zones.l f.reply s t=Jxc f.switches.l f.zones.l f.reply s t:=by rw [Usa,if_pos hc0]
  exact Vxf
 have hcan:Jxc f.switches.l f.zones.l f.reply s t=0:=by omega
 have hfe:feedE f.switches.l f.zones.l f.reply=0:=by rw [Jxc] at hcan;split at hcan <;> omega
 have hok:=Vq hfe;have hsn:=hok.sn;have hzl:=hok.zl;have hsr:0≤s∧s < f.switches.l.length:=by rw [Jxc,if_neg za] at hcan;split at hcan <;> omega
 have hg:=Jw (l:=f.switches.l) (k:=s.toNat) default za;have hup:=hok.up s.toNat za;obtain ⟨x,hx⟩:∃x,x=f.switches.l.getD s.toNat default:=⟨_,rfl⟩;rw [← hx] at hg hup;apply qbv∘Xam;refine Jx zIa rfl ?_;apply (Xdg);intro b9;apply Xa8∘Xaa∘Xbu;apply J9 (G:=[_,_,_,_,_,_,_,_,_,_,_,_,_]) (j:=3) (cj:=27) rfl rfl zb rfl zfb rfl;·
  intro hg4;replace hg4:=qb hg4;apply Xaa∘qbz∘qah;apply Ui (G:=[_,_,_,_,_,_,_,_]) (j:=7) (cj:=31) rfl rfl zb rfl zfb rfl;·intro hg8;replace hg8:=qb hg8;have hga:=Jw (l:=f.switches.l) (k:=x.above.toNat) default za;apply (Xbq);refine Jx (by first | exact Jf tb rfl rfl rfl rfl zt (i:=x.above.toNat) zk za | exact Jl tb rfl rfl rfl rfl (i:=x.above.toNat) zk za) rfl ?_;exact (Xbv) zhd
  intro junk8;exact qai
 intro junk4;apply (qaf);refine q_c ?_ ?_<;>intro hc1;·
  apply (qae);refine Jx zKb rfl ?_;apply (Xaz);refine q_r L R zPc ?_;have he:Usa f.switches.l f.zones.l f.reply s t=10:=by rw [Usa,if_neg za,← hx,if_pos za]
  exact Vxf
 have he:Usa f.switches.l f.zones.l f.reply s t=0:=by rw [Usa,if_neg za,← hx,if_neg za]
 apply qbv∘Zcd;refine Jy rfl (Jub f _ _ hf za) rfl ?_;rintro v M U ⟨p,q,rfl,⟨hpk,hqk⟩,hpl,hql,rfl,rfl⟩;apply (qaq);intro b10;apply (Xc3);have hpg:p.l[s.toNat]?=some x:=by rw [hpl];exact hg
 have hpn:p.l.length=f.switches.l.length:=by rw [hpl]
 apply qay∘Xam∘Xam;refine Jx (Kf (qs:=[(0,(Value.int _ _).cells.toList),(1,(Value.int _ _).cells.toList),(3,(Value.bool _).cells.toList)]) (out:=[_,_,_,_,_]) tb rfl rfl rfl rfl) rfl ?_;refine Jx zYb rfl ?_;refine Ym (U2 tb (p) (⟨x.above,t,0,true,false⟩) rfl rfl rfl rfl zj zg yf zg (yQ rfl) zb zb) ?_;rintro v M U ⟨rfl,rfl⟩;apply (qa4);have hpk2:=OwL.set_ok (f:=XSwitch.cells) (wd:=5) (p:=p) (i:=s.toNat) (x:=⟨x.above,t,0,true,false⟩) yf hpk;apply qay∘Zcd∘Xbl;refine q_r (q.L 3 Jo ++ ((⟨p.o,p.l.set s.toNat ⟨x.above,t,0,true,false⟩⟩:OwL XSwitch).L 76 XSwitch.cells ++ L)) R zPc ?_;exact ⟨⟨p.o,p.l.set s.toNat ⟨x.above,t,0,true,false⟩⟩,q,f.reply,by simp only [he,OwL.val,yy],⟨hpk2,hqk⟩,fun _=>⟨by rw [K4b,← hx,hpl],hql,rfl⟩,rfl,rfl⟩
end
section
attribute [local irreducible] CJ LJ DJ Tri YV Gives U0 J3 Kj Uz RV J5 OwL.L
def Us (sw:List XSwitch) (zn:List Int) (rp s t:Int):Int:=
 if feedE sw zn rp≠0 then feedE sw zn rp else if s < 0∨(sw.length:Int)≤s then 16 else if t≠1∧t≠-1 then 10 else 0
def Ud (sw:List XSwitch) (s t:Int):List XSwitch:=
 sw.set s.toNat ⟨(sw.getD s.toNat default).above,(sw.getD s.toNat default).since,t,(sw.getD s.toNat default).closed,if t= -1 then false else (sw.getD s.toNat default).late⟩
def J9e {sw:List XSwitch} (h:V6e sw):∀(n:Nat) (s:Int),s < sw.length→(s + 1).toNat≤n→∀x∈U7a sw s,0≤x∧x≤s:=by
 intro n;induction n with
 | zero=>intro s _ hn;rw [Kua za];intro x hx;cases hx
 | succ n ih=>
  intro s hs hn x hx;by_cases h0:s < 0;·rw [Kua h0] at hx;cases hx
  ·
   have ha := h s.toNat za;rw [Kqa h za hs,yaa] at hx;rcases hx with rfl | hx;·omega
   ·have := ih _ za za x hx;omega
def V7b {sw:List XSwitch} {zn:List Int} {rp s:Int} {x:Int} (hx:x∈Kma sw zn rp s):0≤x∧x≤s∧s < sw.length:=by
 rw [Kma] at hx;split at hx;·cases hx
 ·have hok := Vq (sw := sw) (zn := zn) (rp := rp) za;have:=J9e hok.up _ s za (yl _) x hx;omega
def V0c {sw:List XSwitch} {zn:List Int} {rp s:Int}:(Kma sw zn rp s).length≤32:=by
 rw [Kma];split;·simp
 ·have hok := Vq (sw := sw) (zn := zn) (rp := rp) za;have h1:=hok.sn;have:=Ydc hok.up _ s za (yl _);omega
end
end Go.Proofs.YtchfclmokpbldaaGreat
