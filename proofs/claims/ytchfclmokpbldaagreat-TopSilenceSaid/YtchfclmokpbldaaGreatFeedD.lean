/-
  Merged texts. By an AI agent.
-/
import Derived.Test.YtchfclmokpbldaaGreatRoundA
import Derived.OwnWalkIn
import Derived.LoopNIn
import Derived.Test.YtchfclmokpbldaaGreatFits
import Derived.Test.YtchfclmokpbldaaGreatDrawR
import Derived.Laws.StructEq
import Derived.Test.YtchfclmokpbldaaGreatDraws
set_option linter.all false
set_option maxHeartbeats 4000000
set_option maxRecDepth 20000
namespace Go.Proofs.YtchfclmokpbldaaGreat
open Go.Aw Go
section
attribute [local irreducible] CJ LJ DJ Tri YV Gives Uq J2 Km Ur RV J4 OwL.L
def upF (sw : List XSwitch) : Nat → Int → List Int
 | 0,_=>[]
 | n + 1,s=>if s < 0 then [] else s :: upF sw n (sw.getD s.toNat default).above
def Zsa (sw:List XSwitch) (s:Int):List Int:=upF sw (s + 1).toNat s
def Uif (sw:List XSwitch):Prop:=∀i:Nat,i < sw.length→-1≤(sw.getD i default).above∧(sw.getD i default).above < i
def J9f {sw:List XSwitch} (h:Uif sw):∀(n:Nat) (s:Int),s < sw.length→(s + 1).toNat≤n→upF sw n s=Zsa sw s:=by
 intro n;induction n using Nat.strongRecOn with
 | _ n ih=>
  intro s hs hn;by_cases h0:s < 0;·
   rw [Zsa, show (s + 1).toNat = 0 by omega];cases n with
   | zero=>rfl
   | succ n=>show (if s < 0 then [] else _)=([]:List Int);rw [if_pos h0]
  ·obtain ⟨k, rfl⟩ : ∃ k, n = k + 1 := ⟨n - 1, by omega⟩;have ha:=h s.toNat za;rw [Zsa,show (s + 1).toNat=s.toNat + 1 by omega,upF,upF,if_neg za,if_neg za,ih k za _ za za,ih s.toNat za _ za za]
def Y1a {sw:List XSwitch} {s:Int} (h:s < 0):Zsa sw s=[]:=by rw [Zsa,show (s + 1).toNat=0 by omega];rfl
def Zpa {sw:List XSwitch} (h:Uif sw) {s:Int} (h0:0≤s) (h1:s < sw.length):Zsa sw s=s :: Zsa sw (sw.getD s.toNat default).above:=by have ha:=h s.toNat za;rw [Zsa,show (s + 1).toNat=s.toNat + 1 by omega,upF,if_neg za,J9f h _ _ za za]
def Ysc {sw:List XSwitch} (h:Uif sw):∀(n:Nat) (s:Int),s < sw.length→(s + 1).toNat≤n→(Zsa sw s).length≤n:=by
 intro n;induction n with
 | zero=>intro s _ hn;rw [Y1a za];exact ym _
 | succ n ih=>
  intro s hs hn;by_cases h0:s < 0;·rw [Y1a h0];simp
  ·have ha := h s.toNat za;rw [Zpa h za hs,yw];have:=ih (sw.getD s.toNat default).above za za;omega
def Vef (c:Code):Code:=match c with
 | .seq _ (.seq (.seq _ (.block _ (.rangeFunc _ _ x _))) _)=>x
 | _=>.skip
def Vie (c:Code):Code:=match c with
 | .seq _ (.seq (.seq _ (.block _ (.rangeFunc _ _ _ x))) _)=>x
 | _=>.skip
def Zpc (sv x:Value) (B:Nat):Array Value:=#[.slice none 0 0,sv,.pointer (some ⟨B,0,none⟩),undef,.slice none 0 0,undef,sv,x,undef,undef,undef,undef,undef]
def Uac (cd:Code) (fn:FuncId) (sv:Value) (B:Nat) (st:LoopState):Loop:={ state:=st,pending:=none,fn,tmps:=Zpc sv undef B,params:=#[7],assign:=Vef cd,body:=Vie cd,defers:=B + 1 }
def Vxc (cd:Code) (fn:FuncId) (sv:Value) (B:Nat) (st:LoopState):Obj:=.loop (Uac cd fn sv B st)
def Kca {cd fn sv B st}:NoCells (Vxc cd fn sv B st):=⟨fun c t f h=>zI,fun es ck h=>zI⟩
def Jnf:Obj:=.deferred (some [])
def K8b:NoCells Jnf:=⟨fun c t f h=>zI,fun es ck h=>zI⟩
def Umf (t:Array Value) (n:Nat) (h:t.size=n):Fr n (fun k=>t.getD k undef) { tmps:=t,defers:=[] }:=⟨rfl,h,fun _=>rfl⟩
def Upg (o:Oper):Bool:=match o.op with
 | .defer _=>true
 | _=>false
def K9g {ops:List Oper} (h:ops.any Upg=false):∀o∈ops,∀c,o.op≠.defer c:=fun o ho c e=>by
 have:=List.any_eq_false.1 h o ho
 rw [Upg,e] at this
 exact this rfl
section
variable {w0:World} {Lc:LB} {G:Nat→Prop} {R:LS} (hh:Holds Lc G R w0)
include hh
def Zee {fn:FuncId} {sv:Value} {m:Nat} {Lf:LB} {p:OwL Int} (hok:p.ok 1 Jk) (hlen:p.l.length≤1000000) (x:Int) {W:World} (h:At2 w0 Lc G R (w0.heap.size + 1) Jnf (Vxc (Tryz.f170.body.getD .skip) fn sv w0.heap.size .ready) (⟨w0.heap.size,[p.val],40⟩ :: (p.L 3 Jk ++ Lf)) W):
 YieldAt Fence.wide m Tryz.prog (w0.heap.size + 1 + 1) #[.int .i64 x] W fun e W'=>e=.returned (.bool true)∧∃o,(⟨o,p.l ++ [x]⟩:OwL Int).ok 1 Jk∧At2 w0 Lc G R (w0.heap.size + 1) Jnf (Vxc (Tryz.f170.body.getD .skip) fn sv w0.heap.size .ready) (⟨w0.heap.size,[(⟨o,p.l ++ [x]⟩:OwL Int).val],40⟩ :: ((⟨o,p.l ++ [x]⟩:OwL Int).L 3 Jk ++ Lf)) W':=by
 refine ⟨fn,Zpc sv (.int .i64 x) w0.heap.size,(Vef (Tryz.f170.body.getD .skip)),(Vie (Tryz.f170.body.getD .skip)),(by have:=run_yield (P:=Tryz.prog) (args:=#[.int .i64 x]) (r:=Uac (Tryz.f170.body.getD .skip) fn sv w0.heap.size .ready) h.lp rfl;simpa [Uac,Zpc] using this),roundIn_of_wpIn trivial ?_⟩;refine At2.round hh K8b Kca h (t:=fun k=>(Zpc sv (.int .i64 x) w0.heap.size).getD k undef) (Q:=fun e t M U=>e=.normal∧(t 5=.int .i64 x∧t 2=.pointer (some ⟨w0.heap.size,0,none⟩))∧M=(⟨w0.heap.size,[p.val],40⟩ :: (p.L 3 Jk ++ Lf))∧U=R) (Umf _ 13 rfl) (K9g rfl) ?_ (fun _ _ _ h=>by cases h.1) ?_;·refine Jy (Ud znb) rfl ?_;exact J7 ⟨rfl,⟨rfl,rfl⟩,rfl,rfl⟩
 rintro e a1 W1 t1 L1 R1 ⟨rfl,⟨ht5,ht2⟩,rfl,rfl⟩ hf1 h1;refine ⟨_,run_beginRound h1.lp rfl,?_⟩;have h2:=At2.put hh za Kca (Kca (cd:=(Tryz.f170.body.getD .skip)) (fn:=fn) (sv:=sv) (B:=w0.heap.size) (st:=.busy)) h1;show (Code.block _ _).wpIn _ _ _ _ _ _;refine wpIn_block ?_;refine At2.round hh K8b Kca h2 (Q:=fun e t M U=>e=.normal∧∃o,(⟨o,p.l ++ [x]⟩:OwL Int).ok 1 Jk∧(⟨w0.heap.size,[(⟨o,p.l ++ [x]⟩:OwL Int).val],40⟩ :: ((⟨o,p.l ++ [x]⟩:OwL Int).L 3 Jk ++ Lf)).Sublist M) hf1 (K9g rfl) ?_ (fun _ _ _ h=>by cases h.1) ?_;·refine Jy (K2 tb ht2 rfl rfl zf zb) rfl ?_;refine Jy (Jx (v:=.int .i64 x) ht5) rfl ?_;apply (qcx);rintro v M U ⟨b88,rfl,rfl,hR88⟩;replace hR88:=hR88.symm;subst hR88;refine Y3 (Jv (f:=Jk) (a:=x) tb rfl rfl rfl rfl hok zj zwb rfl za) rfl ?_;rintro v M U ⟨o,rfl,hok89,rfl,rfl⟩;refine Uha (v:=Value.slice _ _ _) tb rfl ht2 rfl rfl zB rfl rfl zb ?_;exact J7 ⟨rfl,o,hok89,yza _ _⟩
 rintro e a3 W3 t3 L3 R3 ⟨rfl,o,hok3,hsub⟩ hf3 h3;have h4:At2 _ _ _ _ _ _ _ _ _:=⟨h3.st.weak hsub zBb,h3.df,h3.lp⟩;exact ⟨_,_,run_endRound none h4.lp,rfl,o,hok3,At2.put hh za Kca Kca h4⟩
def Voe (w:World) (b:Nat):Int:=match w.cell? ⟨b,0,none⟩ with
 | some (.int _ n)=>n
 | _=>-1
def V9g {fn : FuncId} {sv : Value} {m : Nat} {f : XFeeder} {bs bf : Nat} {L : LB} (hsR : InR (Jdc f.switches) R) (hu : Uif f.switches.l) (hn : f.switches.l.length ≤ 1000) {cur : Int} (hc : cur < f.switches.l.length) {W : World} {p : OwL Int} (hk : p.ok 1 Jk) (hpl : p.l = [])
 (h:At2 w0 Lc G R (w0.heap.size + 1) Jnf (Vxc (Tryz.f170.body.getD .skip) fn sv w0.heap.size .ready) (⟨w0.heap.size,[p.val],40⟩ :: (p.L 3 Jk ++ (⟨bs,[.int .i64 cur],3⟩ :: ⟨bf,f.cells,42⟩ :: L))) W):
 CallsIn Fence.wide m Tryz.prog 171 #[.func (.yield (w0.heap.size + 1 + 1)) #[] #[],.pointer (some ⟨bs,0,none⟩),.pointer (some ⟨bf,0,none⟩)] W fun e W'=>(∃v,e=.returned v)∧∃(q:OwL Int) (c':Int),q.ok 1 Jk∧q.l=Zsa f.switches.l cur∧
  At2 w0 Lc G R (w0.heap.size + 1) Jnf (Vxc (Tryz.f170.body.getD .skip) fn sv w0.heap.size .ready) (⟨w0.heap.size,[q.val],40⟩ :: (q.L 3 Jk ++ (⟨bs,[.int .i64 c'],3⟩ :: ⟨bf,f.cells,42⟩ :: L))) W':=by
 refine callsIn_of_wp Tryz.func171 rfl trivial ?_ rfl;simp only [Tryz.ntmps171,yhc,yw,yM,Nat.reduceAdd,Nat.reduceSub,Array.replicate_succ,Array.replicate_zero,List.push_toArray,List.append_toArray,yx,yu];refine wpIn_block ?_;refine wpIn_loop (fun a w=>∃(t:Nat→Value) (q:OwL Int) (c':Int),Fr 16 t a∧(t 0=.func (.yield (w0.heap.size + 1 + 1)) #[] #[]∧t 1=.pointer (some ⟨bs,0,none⟩)∧t 2=.pointer (some ⟨bf,0,none⟩))∧q.ok 1 Jk∧(-1≤c'∨True)∧c' < f.switches.l.length∧Zsa f.switches.l cur=q.l ++ Zsa f.switches.l c'∧
  At2 w0 Lc G R (w0.heap.size + 1) Jnf (Vxc (Tryz.f170.body.getD .skip) fn sv w0.heap.size .ready) (⟨w0.heap.size,[q.val],40⟩ :: (q.L 3 Jk ++ (⟨bs,[.int .i64 c'],3⟩ :: ⟨bf,f.cells,42⟩ :: L))) w) (fun _ w=>(Voe w bs + 1).toNat) ?_ ?_
 ·exact ⟨_,p,cur,Umf _ 16 rfl,⟨rfl,rfl,rfl⟩,hk,.inr trivial,hc,by rw [hpl];rfl,h⟩
 rintro a w ⟨t,q,c',hf,⟨t0,t1,t2⟩,hk,_,hc',hp,h⟩;have hnum:Voe w bs=c':=by have:=J6a (b:=bs) (cs:=[.int .i64 c']) (T:=3) h.st (yY _ (yk _ yVa)) 0;rw [Voe,this];rfl
 refine wpIn_seq (wpIn_seq ?_);refine At2.plain hh K8b Kca h (Q:=fun e t' M U=>e=.normal∧((t' 0=.func (.yield (w0.heap.size + 1 + 1)) #[] #[]∧t' 1=.pointer (some ⟨bs,0,none⟩)∧t' 2=.pointer (some ⟨bf,0,none⟩))∧t' 5=.bool (decide (0≤c')))∧(⟨w0.heap.size,[q.val],40⟩ :: (q.L 3 Jk ++ (⟨bs,[.int .i64 c'],3⟩ :: ⟨bf,f.cells,42⟩ :: L)))=M) hf ?_ ?_;·refine Jh ?_;refine Jy (K2 tb t1 rfl rfl zf zb) rfl ?_;apply (qbz);exact J7 ⟨rfl,⟨⟨t0,t1,t2⟩,rfl⟩,rfl⟩
 rintro e a1 w1 t' L1 R1 ⟨rfl,⟨⟨t0,t1,t2⟩,t5⟩,rfl⟩ hf1 h1;refine wpIn_cond (t:=decide (0≤c')) (by rw [hf1.eval];exact t5) ?_;by_cases h0:0≤c';·
  rw [decide_eq_true h0, if_pos rfl];refine wpIn_skip ?_;refine wpIn_seq (wpIn_block (wpIn_seq ?_));refine wpIn_region_lit ?_;refine Ybg hf1 h1.st (Jx (v:=.func (.yield (w0.heap.size + 1 + 1)) #[] #[]) t0) rfl fun a2 hf2=>?_;refine Ybg hf2 h1.st (K2 tb t1 rfl rfl zf zb) rfl fun a3 hf3=>?_;have hpl2:q.l.length≤1000000:=by have:=Ysc hu _ cur hc (ym _);rw [hp,yj] at this;omega
  refine Z0e (v:=.int .i64 c') hf3 rfl rfl rfl (Zee hh hk hpl2 c' h1) fun a4 w4 hf4 ⟨o,hok4,h4⟩=>?_;refine Ybg hf4 h4.st (Kab rfl) rfl fun a5 hf5=>?_;show Exit.then _ _ Exit.normal _ _;refine wpIn_cond (t:=false) (by rw [hf5.eval];rfl) ?_;rw [if_neg zo];refine wpIn_skip ?_;have hg:=Jt (l:=f.switches.l) (k:=c'.toNat) default za;have ha:=hu c'.toNat za;refine At2.plain hh K8b Kca h4 (Q:=fun e t' M U=>e=.normal∧(t' 0=.func (.yield (w0.heap.size + 1 + 1)) #[] #[]∧t' 1=.pointer (some ⟨bs,0,none⟩)∧t' 2=.pointer (some ⟨bf,0,none⟩))∧
   ⟨w0.heap.size,[(⟨o,q.l ++ [c']⟩:OwL Int).val],40⟩ :: ((⟨o,q.l ++ [c']⟩:OwL Int).L 3 Jk ++ (⟨bs,[.int .i64 (f.switches.l.getD c'.toNat default).above],3⟩ :: ⟨bf,f.cells,42⟩ :: L))=M) hf5 ?_ ?_
  ·refine Jh ?_;refine Jy (Ul tb rfl (show _=Value.pointer (some ⟨bf,0,none⟩) from t2) rfl) rfl ?_;apply (qac);refine Jy (K2 tb (show _=Value.pointer (some ⟨bs,0,none⟩) from t1) rfl rfl zf zb) rfl ?_;refine Jy (Je tb rfl rfl rfl rfl hsR (i:=c'.toNat) za za) rfl ?_;apply (qb0);refine Jy (J3a tb rfl rfl rfl hsR hg rfl) rfl ?_;refine Uha (v:=Value.int _ _) tb rfl (show _=Value.pointer (some ⟨bs,0,none⟩) from t1) rfl rfl zB rfl rfl zb ?_;exact J7 ⟨rfl,⟨t0,t1,t2⟩,rfl⟩
  rintro e a6 w6 t6 L6 R6 ⟨rfl,ht6,rfl⟩ hf6 h6;have hnum6:Voe w6 bs=(f.switches.l.getD c'.toNat default).above:=by have:=J6a (b:=bs) (cs:=[.int .i64 (f.switches.l.getD c'.toNat default).above]) (T:=3) h6.st (yY _ (yk _ yVa)) 0;rw [Voe,this];rfl
  refine ⟨⟨t6,⟨o,q.l ++ [c']⟩,_,hf6,ht6,hok4,.inr trivial,by omega,?_,h6⟩,?_⟩;·rw [hp,Zpa hu h0 hc',yo];rfl
  ·rw [hnum,hnum6];omega
 ·rw [decide_eq_false h0, if_neg zo];refine wpIn_exit ?_;simp only [Exit.then,Exit.inBlock,if_true];refine ⟨hf1.defers,_,results_none rfl _ _ _,⟨_,rfl⟩,q,c',hk,?_,h1⟩;rw [hp,Y1a za,yca]
end
def V5c (f:XFeeder) (s:Int) (bs bf:Nat) (L:LB) (R:LS) (hsR:InR (Jdc f.switches) R) (hu:Uif f.switches.l) (hn:f.switches.l.length≤1000) (hc:s < f.switches.l.length):
 Tri Tryz.prog 170 [.slice none 0 0, .func (.func 171) #[] #[.pointer (some ⟨bs, 0, none⟩), .pointer (some ⟨bf, 0, none⟩)]].toArray (⟨bs, [.int .i64 s], 3⟩ :: ⟨bf, f.cells, 42⟩ :: L) R
  (fun v M U=>∃(q:OwL Int) (c':Int),v=q.val∧q.ok 1 Jk∧q.l=Zsa f.switches.l s∧q.L 3 Jk ++ (⟨bs,[.int .i64 c'],3⟩ :: ⟨bf,f.cells,42⟩ :: L)=M∧R=U):=by
 refine Tri.raw Tryz.call170 fun w G hh=>(callsIn_wide (n:=5)).1 ?_;refine callsIn_of_wp_marks Tryz.func170 rfl trivial ?_ rfl;simp only [Tryz.ntmps170,yhc,yw,yM,Nat.reduceAdd,Nat.reduceSub,Array.replicate_succ,Array.replicate_zero,List.push_toArray,List.append_toArray,yx,yu]
 gi_wp2
 refine wpIn_rangeFunc ?_;intro fn hfn;obtain ⟨sv,hsv⟩:∃sv:Value,sv=.func (.func 171) #[] #[.pointer (some ⟨bs,0,none⟩),.pointer (some ⟨bf,0,none⟩)]:=⟨_,rfl⟩;obtain ⟨W0,hW0⟩:∃W0,w.alloc (.cells #[.slice none 0 0] 40)=W0:=⟨_,rfl⟩;have hs0:W0.heap.size=w.heap.size + 1:=by rw [← hW0];simp
 have st0:St ⟨w,inL (⟨bs,[.int .i64 s],3⟩ :: ⟨bf,f.cells,42⟩ :: L),G⟩ (⟨w.heap.size,[.slice none 0 0],40⟩ :: ⟨bs,[.int .i64 s],3⟩ :: ⟨bf,f.cells,42⟩ :: L) R W0:=by rw [← hW0];exact (St.init hh).alloc #[.slice none 0 0] 40
 rw [hW0];obtain ⟨W1,hW1⟩:∃W1,(W0.alloc Jnf).alloc (Vxc (Tryz.f170.body.getD .skip) fn sv w.heap.size .ready)=W1:=⟨_,rfl⟩;have hA:At2 w (⟨bs,[.int .i64 s],3⟩ :: ⟨bf,f.cells,42⟩ :: L) G R (w.heap.size + 1) Jnf (Vxc (Tryz.f170.body.getD .skip) fn sv w.heap.size .ready) (⟨w.heap.size,[(OwL.nil:OwL Int).val],40⟩ :: ((OwL.nil:OwL Int).L 3 Jk ++ (⟨bs,[.int .i64 s],3⟩ :: ⟨bf,f.cells,42⟩ :: L))) W1:=by
  rw [← hW1];refine ⟨(by rw [Kj,yx];exact (st0.allocO K8b).allocO Kca),?_,?_⟩;·rw [← hs0];exact (Zze _ _ _ zo).trans (World.alloc_heap_new W0 _)
  ·have := World.alloc_heap_new (W0.alloc Jnf) (Vxc (Tryz.f170.body.getD .skip) fn sv w.heap.size .ready);rwa [World.size_alloc,hs0] at this
 refine ⟨w.heap.size + 1 + 1,[{ target:=.collected (w.heap.size + 1),args:=#[] }],W1,{ target:=.fn (.func 171) #[.pointer (some ⟨bs,0,none⟩),.pointer (some ⟨bf,0,none⟩)],args:=#[.func (.yield (w.heap.size + 1 + 1)) #[] #[]] },W1,171,
  #[.func (.yield (w.heap.size + 1 + 1)) #[] #[],.pointer (some ⟨bs,0,none⟩),.pointer (some ⟨bf,0,none⟩)],W1,?_,?_,fun _ _=>trivial,?_,fun h=>zI,?_⟩
 ·have := run_enterLoop_outer (P := Tryz.prog) (w := W0) fn (Zpc sv undef w.heap.size) #[7] (Vef (Tryz.f170.body.getD .skip)) (Vie (Tryz.f170.body.getD .skip));rw [hs0] at this;rw [← hW1,hsv];rw [hsv] at this;exact this
 ·simp [resolve,go_sem]
 ·simp [invoke,go_sem,Tryz.call171]
 ·
  refine (V9g hh hsR hu hn hc OwL.nil_ok rfl hA).mono ?_;rintro e W2 ⟨⟨v0,rfl⟩,q,c',hk,hq,h2⟩;have hend:=run_endLoop (P:=Tryz.prog) h2.lp (by simp [Uac]);have h3:=At2.put hh za Kca (ol':=.loop { Uac (Tryz.f170.body.getD .skip) fn sv w.heap.size .ready with state:=.exhausted }) ⟨fun c t f h=>zI,fun es ck h=>zI⟩ h2;obtain ⟨W3,hW3⟩:∃W3,W2.putObj (w.heap.size + 1 + 1) (.loop { Uac (Tryz.f170.body.getD .skip) fn sv w.heap.size .ready with state:=.exhausted })=W3:=⟨_,rfl⟩;rw [hW3] at hend h3;have hc3:W3.cell? ⟨w.heap.size,0,none⟩=some q.val:=J6a (b:=w.heap.size) (cs:=[q.val]) (T:=40) h3.st yVa 0;have hd3:=h3.df;have st3:=h3.st;clear hW3 h3 h2 hA hW1 st0 hW0;refine ⟨none,W3,hend,?_⟩
  gi_wp2
  have st4:=(st3.put hh hd3 K8b (o':=.deferred none) ⟨fun c t f h=>zI,fun es ck h=>zI⟩ za).weak (yza _ _) zBb;refine ⟨by simp,.inl ⟨_,_,rfl,run_takeDeferred hd3,?_⟩⟩;exact ⟨_,results_tmp rfl _ _ _,q.val,_,_,rfl,⟨q,c',rfl,hk,hq,rfl,rfl⟩,st4⟩
end
section
attribute [local irreducible] CJ LJ DJ Tri YV Gives Uq J2 Km Ur RV J4 OwL.L
section
variable {A B:Prop}
def Jxg(h:A→B:=by exact Jy zrb rfl):=h
end
structure FeedOk (sw:List XSwitch) (zn:List Int) (rp:Int):Prop where
 sn:sw.length≤32
 zl:zn.length≤16
 up:Uif sw
 since:∀i:Nat,i < sw.length→0≤(sw.getD i default).since∧(sw.getD i default).since≤2147483648
 shown:∀i:Nat,i < sw.length→-1≤(sw.getD i default).shown∧(sw.getD i default).shown≤1
 zr:∀i:Nat,i < zn.length→0≤zn.getD i 0∧zn.getD i 0 < sw.length
 zd:∀i j:Nat,j < i→i < zn.length→zn.getD j 0≠zn.getD i 0
 rp:1≤rp∧rp≤100000
def Udb {β:Type} {f:Nat→Option β} {n:Nat} (h:(List.range n).findSome? f=none) {i:Nat} (hi:i < n):f i=none:=by rw [yH] at h;exact h i (List.mem_range.2 hi)
def Yed {l:List XSwitch} {i:Nat}:U2a l i≠some 0:=by
 rw [U2a];repeat' split
 all_goals (intro h;first | cases h | (injection h with h;omega))
def Jef {n:Nat} {l:List Int} {i:Nat}:Zva n l i≠some 0:=by
 rw [Zva];repeat' split
 all_goals (intro h;first | cases h | (injection h with h;omega))
def Uzc {f:Nat→Option Int} {n:Nat} {e:Int} (hf:∀i,f i≠some 0) (h:(List.range n).findSome? f=some e):e≠0:=by obtain ⟨i,_,hi⟩:=yy h;rintro rfl;exact hf _ hi
def Yd {sw:List XSwitch} {zn:List Int} {rp:Int} (h:feedE sw zn rp=0):FeedOk sw zn rp:=by
 by_cases h0:32 < sw.length∨16 < zn.length;·rw [feedE,if_pos h0] at h;omega
 cases h1:(List.range sw.length).findSome? (U2a sw) with
 | some e=>rw [Kub h0 h1] at h;exact absurd h (Uzc (fun _=>Yed) h1)
 | none=>
  cases h2:(List.range zn.length).findSome? (Zva sw.length zn) with
  | some e=>rw [Vbc h0 h1 h2] at h;exact absurd h (Uzc (fun _=>Jef) h2)
  | none=>
   rw [Klb h0 h1 h2] at h;have hs:∀i:Nat,i < sw.length→(-1≤(sw.getD i default).above∧(sw.getD i default).above < i)∧(0≤(sw.getD i default).since∧(sw.getD i default).since≤2147483648)∧(-1≤(sw.getD i default).shown∧(sw.getD i default).shown≤1):=fun i hi=>by
    have:=Udb h1 hi;rw [U2a] at this;split at this;·cases this
    split at this;·cases this
    split at this;·cases this
    rename_i k1 k2 k3;rw [not_or] at k3;omega
   have hz:∀i:Nat,i < zn.length→(0≤zn.getD i 0∧zn.getD i 0 < sw.length)∧∀j:Nat,j < i→zn.getD j 0≠zn.getD i 0:=fun i hi=>by
    have:=Udb h2 hi;rw [Zva] at this;split at this;·cases this
    split at this;·cases this
    rename_i k1 k2;exact ⟨by omega,fun j hj hh=>k2 ⟨j,hj,hh⟩⟩
   refine ⟨by omega,by omega,fun i hi=>(hs i hi).1,fun i hi=>(hs i hi).2.1,fun i hi=>(hs i hi).2.2,fun i hi=>(hz i hi).1,fun i j hj hi=>(hz i hi).2 j hj,?_⟩;by_cases hr:rp < 1∨100000 < rp;·rw [if_pos hr] at h;omega
   ·omega
def Zaa (sw:List XSwitch) (zn:List Int) (rp:Int) (s:Int):List Int:=if feedE sw zn rp≠0∨s < 0∨(sw.length:Int)≤s then [] else Zsa sw s
def Z4d (f:XFeeder) (s:Int) (L:LB) (R:LS):
 Tri Tryz.prog 90 [f.val,.int .i64 s].toArray L R (fun v M U=>∃bs bf,v=.func (.func 171) #[] #[.pointer (some ⟨bs,0,none⟩),.pointer (some ⟨bf,0,none⟩)]∧(⟨bs,[.int .i64 s],3⟩ :: ⟨bf,f.cells,42⟩ :: L)=M∧R=U):=by refine Jd 6 Tryz.call90 Tryz.func90 rfl rfl rfl ?_;apply (Xaf);intro b2;refine Uvd (v:=Value.int _ _) rfl rfl rfl ?_;intro b3;refine Jy (Ud rfl) rfl ?_;apply (qam);refine Jy (Uwc rfl) rfl ?_;refine Jy (Ud rfl) rfl ?_;apply (qa0);refine q_r (⟨b3,[.int .i64 s],3⟩ :: ⟨b2,f.cells,42⟩ :: L) R (Va rfl (Jg rfl)) ?_;exact ⟨b3,b2,rfl,rfl,rfl⟩
def Uud (f:XFeeder) (s:Int) (bs bf:Nat) (L:LB) (R:LS) (hsR:InR (Jdc f.switches) R) (hu:Uif f.switches.l) (hn:f.switches.l.length≤1000) (hc:s < f.switches.l.length):
 Tri Tryz.prog 89 [.func (.func 171) #[] #[.pointer (some ⟨bs, 0, none⟩), .pointer (some ⟨bf, 0, none⟩)]].toArray (⟨bs, [.int .i64 s], 3⟩ :: ⟨bf, f.cells, 42⟩ :: L) R
  (fun v M U=>∃(q:OwL Int) (c':Int),v=q.val∧q.ok 1 Jk∧q.l=Zsa f.switches.l s∧q.L 3 Jk ++ (⟨bs,[.int .i64 c'],3⟩ :: ⟨bf,f.cells,42⟩ :: L)=M∧R=U):=by refine Jd 5 Tryz.call89 Tryz.func89 rfl rfl rfl ?_;apply Xcu∘qam;refine Jy zPb rfl ?_;refine Jo rfl (V5c f s bs bf L R hsR hu hn hc) rfl ?_;rintro v M U ⟨q,c',rfl,hk,hq,rfl,rfl⟩;apply (Xcn);refine q_r (q.L 3 Jk ++ (⟨bs,[.int .i64 c'],3⟩ :: ⟨bf,f.cells,42⟩ :: L)) R zkd ?_;exact ⟨q,c',rfl,hk,hq,rfl,rfl⟩
def Vqc (f:XFeeder) (s:Int) (L:LB) (R:LS) (hf:FeederR f R):
 Tri Tryz.prog 26 [f.val,.int .i64 s].toArray L R (fun v M U=>∃q:OwL Int,v=q.val∧q.ok 1 Jk∧q.l=Zaa f.switches.l f.zones.l f.reply s∧q.L 3 Jk ++ L=M∧R=U):=by
 refine Jd 23 Tryz.call26 Tryz.func26 rfl rfl rfl ?_;apply (Xaf);intro b2;apply Xbz∘Jxg;refine q_l rfl (Vz f _ _ hf) ?_;apply (Xb3);apply Kd (G:=[_,_]) (j:=3) (cj:=8) rfl rfl zb rfl zmb rfl;·intro hg4;replace hg4:=qb hg4;exact (qaa) zJd
 intro junk4;apply (qah);apply Kd (G:=[_,_,_,_,_]) (j:=7) (cj:=12) rfl rfl zb rfl zmb rfl;·intro hg8;replace hg8:=qb hg8;exact (Xec) zAd
 intro junk8;apply (qaf);refine q_c ?_ ?_<;>intro hc0;·apply Xcu∘qbh;refine q_r L R zkd ?_;exact ⟨.nil,rfl,OwL.nil_ok,by rw [Zaa,if_pos za],by rw [Kj];rfl,rfl⟩
 have hok:=Yd (sw:=f.switches.l) (zn:=f.zones.l) (rp:=f.reply) za;have hsn:=hok.sn;apply qbv∘Jxg∘qaa;refine Jo rfl (Z4d f s _ _) rfl ?_;rintro v M U ⟨bs,bf,rfl,rfl,rfl⟩;refine Jo rfl (Uud f s bs bf _ _ hf.sw hok.up za za) rfl ?_;rintro v M U ⟨q,c',rfl,hk,hq,rfl,rfl⟩;apply (Xcn);refine q_r (q.L 3 Jk ++ L) R zkd ?_;exact ⟨q,rfl,hk,by rw [Zaa,if_neg za];exact hq,rfl,rfl⟩
end
section
inductive KC where
 | i
 | b
section
variable {P:Program}
end
section
variable {P:Program} {ρ:Operand→Value} {L:LB} {R:LS} {dst:Option Tmp} {ty:TypeId} {pos:String} {after:Array Edge} {guard:Option (Nat×Bool)} {T T2:TypeId} {x y:Operand} {ks:List KC} {xs ys:List Value}
end
end
section
attribute [local irreducible] CJ LJ DJ Tri YV Gives Uq J2 Km Ur RV J4 OwL.L
section
variable {A B:Prop}
def Kne(h:A→B:=by exact Jy zrb rfl):=h
def V0g(h:B:=by exact ⟨.nil,.nil,0,by rw [he];rfl,⟨OwL.nil_ok,OwL.nil_ok⟩,fun h=>by omega,by rw [Kj,Kj];rfl,rfl⟩):=h
end
def Yia (sw:List XSwitch) (t:Int):Prop:=(0≤t∧t≤2147483648)∧∀x∈sw,x.since≤t
instance (sw:List XSwitch) (t:Int):Decidable (Yia sw t):=by unfold Yia;infer_instance
def Vtc (sw:List XSwitch) (zn:List Int) (rp s t:Int):Int:=if feedE sw zn rp≠0 then feedE sw zn rp else if s < 0∨(sw.length:Int)≤s then 16 else if Yia sw t then 0 else 8
def Khc (f:XFeeder) (t:Int) (L:LB) (R:LS) (hf:FeederR f R):
 Tri Tryz.prog 227 [f.val,.int .i64 t].toArray L R (fun v M U=>v=.bool (decide (Yia f.switches.l t))∧L=M∧R=U):=by
 have hsR:=hf.sw;refine Jpb Tryz.call227 hsR fun hcap=>?_;refine Jd 25 Tryz.call227 Tryz.func227 rfl rfl rfl ?_;apply (Xaf);intro b2;apply qaz∘qaw∘Xcv;apply Kd (G:=[_,_]) (j:=2) (cj:=9) rfl rfl zb rfl zmb rfl;·exact zwd
 intro junk3;apply (qaf);refine q_c ?_ ?_<;>intro hc0;·apply (Xdm);refine q_b L R ?_;exact ⟨by rw [decide_eq_false (fun h=>by have:=h.1;omega)],rfl,rfl⟩
 apply (Xc4);refine Jl [(1,.int _ _),(14,.slice _ _ _),(15,.int _ _),(16,.int _ _)] zh fun tq0=>?_;refine q_s ([4,6]++rg 16 9) (fun g:{k:Nat // k≤f.switches.l.length∧∀j:Nat,j < k→(f.switches.l.getD j default).since≤t}=>[(16,.int .i64 ((g.1:Nat):Int))]) (fun g=>f.switches.l.length - g.1) (⟨0,by omega,fun j hj=>by omega⟩) ?_;rintro ⟨k,hk,hal⟩ junk;try dsimp only
 apply (Xan);refine q_c ?_ ?_<;>intro hc1;·
  have hg:=Jt (l:=f.switches.l) (k:=k) default za;apply (qbb);refine Jy zC rfl ?_;apply qdw∘qaq;intro b6;apply Xa0∘qaa∘Xaa∘Xbb;refine q_c ?_ ?_<;>intro hc2;·apply Xbh∘qbt;refine q_b L R ?_;exact ⟨by rw [decide_eq_false (fun h=>by have:=h.2 _ (yi hg);omega)],rfl,rfl⟩
  exact uaP
 apply qbk∘Xbk;refine q_b L R ?_;refine ⟨by rw [decide_eq_true (p:=Yia f.switches.l t)];refine ⟨by omega,fun x hx=>?_⟩;obtain ⟨j,hj,rfl⟩:=yAa hx;have:=hal j za;rwa [yh,yC hj] at this,rfl,rfl⟩
def Yzb (f:XFeeder) (s t:Int) (L:LB) (R:LS) (hf:FeederR f R):
 Tri Tryz.prog 150 [f.val,.int .i64 s,.int .i64 t].toArray L R (fun v M U=>v=.int .i64 (Vtc f.switches.l f.zones.l f.reply s t)∧L=M∧R=U):=by
 refine Jd 26 Tryz.call150 Tryz.func150 rfl rfl rfl ?_;apply (Xaf);intro b3;apply Xap∘Kne;refine q_l rfl (Vz f _ _ hf) ?_;apply (Xbi);refine q_c ?_ ?_<;>intro hc0;·apply (Xd6);refine q_i L R ?_;exact ⟨by rw [Vtc,if_pos hc0],rfl,rfl⟩
 apply qbo∘Xcv;apply Kd (G:=[_,_,_,_,_]) (j:=2) (cj:=15) rfl rfl zb rfl zmb rfl;·exact zse
 intro junk3;apply (qaf);refine q_c ?_ ?_<;>intro hc1;·apply (Xa7);refine q_i L R ?_;exact ⟨by rw [Vtc,if_neg za,if_pos za],rfl,rfl⟩
 apply qbo∘Kne∘qaa;refine q_l rfl (Khc f t _ _ hf) ?_;apply (Xbl);refine q_c ?_ ?_<;>intro hc2;·apply (Xa7);refine q_i L R ?_;exact ⟨by rw [Vtc,if_neg za,if_neg za,if_neg zO],rfl,rfl⟩
 apply (Xc3);refine q_i L R ?_;exact ⟨by rw [Vtc,if_neg za,if_neg za,if_pos zO],rfl,rfl⟩
def Kkb (f:XFeeder) (L:LB) (R:LS) (hf:FeederR f R) (hn:f.switches.l.length≤1000∧f.zones.l.length≤1000):
 Tri Tryz.prog 151 [f.val].toArray L R (fun v M U=>∃(p:OwL XSwitch) (q:OwL Int),v=.agg #[p.val,q.val,.int .i64 f.reply]∧(p.ok 5 XSwitch.cells∧q.ok 1 Jk)∧p.l=f.switches.l∧q.l=f.zones.l∧q.L 3 Jk ++ (p.L 76 XSwitch.cells ++ L)=M∧R=U):=by have hsR:=hf.sw;have hzR:=hf.zn;refine Jd 12 Tryz.call151 Tryz.func151 rfl rfl rfl ?_;apply (Xaf);intro b1;apply (qaq);intro b2;apply (Xcz);refine Y3 zvc rfl ?_;rintro v M U ⟨o5,rfl,hok5,rfl,rfl⟩;apply Xbf∘Xcz;refine Y3 zKc rfl ?_;rintro v M U ⟨o9,rfl,hok9,rfl,rfl⟩;apply Xbf∘qam∘Kne∘Xbd;refine q_r ((⟨o9,f.zones.l⟩:OwL Int).L 3 Jk ++ ((⟨o5,f.switches.l⟩:OwL XSwitch).L 76 XSwitch.cells ++ L)) R (Va rfl zsb) ?_;exact ⟨⟨o5,f.switches.l⟩,⟨o9,f.zones.l⟩,rfl,⟨hok5,hok9⟩,rfl,rfl,rfl,rfl⟩
def Y9a (sw:List XSwitch) (zn:List Int) (rp s t:Int):Int:=
 if Vtc sw zn rp s t≠0 then Vtc sw zn rp s t
 else if (sw.getD s.toNat default).shown≠-1∨(0≤(sw.getD s.toNat default).above∧(sw.getD (sw.getD s.toNat default).above.toNat default).shown≠1) then 10 else 0
def U6d (sw:List XSwitch) (s t:Int):List XSwitch:=sw.set s.toNat ⟨(sw.getD s.toNat default).above,t,0,true,false⟩
def Vec (f:XFeeder) (s t:Int) (L:LB) (R:LS) (hf:FeederR f R):
 Tri Tryz.prog 166 [f.val,.int .i64 s,.int .i64 t].toArray L R (fun v M U=>∃(p:OwL XSwitch) (q:OwL Int) (r:Int),v=.tuple #[.agg #[p.val,q.val,.int .i64 r],.int .i64 (Y9a f.switches.l f.zones.l f.reply s t)]∧(p.ok 5 XSwitch.cells∧q.ok 1 Jk)∧
  (Y9a f.switches.l f.zones.l f.reply s t=0→p.l=U6d f.switches.l s t∧q.l=f.zones.l∧r=f.reply)∧q.L 3 Jk ++ (p.L 76 XSwitch.cells ++ L)=M∧R=U):=by
 have hsR:=hf.sw;refine Jd 54 Tryz.call166 Tryz.func166 rfl rfl rfl ?_;apply (Xaf);intro b3;apply (qaq);intro b6;apply Xap∘Kne∘Xcd;refine q_l rfl (Yzb f s t _ _ hf) ?_;apply (Xbi);refine q_c ?_ ?_<;>intro hc0;·
  apply (qae);refine Jy zYb rfl ?_;apply (Xci);refine q_r L R zhd ?_;have he:Y9a f.switches.l f.zones.l f.reply s t=Vtc f.switches.l f.zones.l f.reply s t:=by rw [Y9a,if_pos hc0]
  exact V0g
 have hcan:Vtc f.switches.l f.zones.l f.reply s t=0:=by omega
 have hfe:feedE f.switches.l f.zones.l f.reply=0:=by rw [Vtc] at hcan;split at hcan <;> omega
 have hok:=Yd hfe;have hsn:=hok.sn;have hzl:=hok.zl;have hsr:0≤s∧s < f.switches.l.length:=by rw [Vtc,if_neg za] at hcan;split at hcan <;> omega
 have hg:=Jt (l:=f.switches.l) (k:=s.toNat) default za;have hup:=hok.up s.toNat za;obtain ⟨x,hx⟩:∃x,x=f.switches.l.getD s.toNat default:=⟨_,rfl⟩;rw [← hx] at hg hup;apply qbv∘Xah;refine Jy zLa rfl ?_;apply qdw∘qaq;intro b9;apply Xdl∘Xb3;apply Kd (G:=[_,_,_,_,_,_,_,_,_,_,_,_,_]) (j:=3) (cj:=27) rfl rfl zb rfl zmb rfl;·
  intro hg4;replace hg4:=qb hg4;apply Xaa∘qbz∘qah;apply Uy (G:=[_,_,_,_,_,_,_,_]) (j:=7) (cj:=31) rfl rfl zb rfl zmb rfl;·intro hg8;replace hg8:=qb hg8;have hga:=Jt (l:=f.switches.l) (k:=x.above.toNat) default za;apply (Xbe);refine Jy (by first | exact Je tb rfl rfl rfl rfl zy (i:=x.above.toNat) zk za | exact Jn tb rfl rfl rfl rfl (i:=x.above.toNat) zk za) rfl ?_;exact (Xbx) zzd
  intro junk8;exact qai
 intro junk4;apply (qaf);refine q_c ?_ ?_<;>intro hc1;·
  apply (qae);refine Jy zYb rfl ?_;apply (Xa3);refine q_r L R zhd ?_;have he:Y9a f.switches.l f.zones.l f.reply s t=10:=by rw [Y9a,if_neg za,← hx,if_pos za]
  exact V0g
 have he:Y9a f.switches.l f.zones.l f.reply s t=0:=by rw [Y9a,if_neg za,← hx,if_neg za]
 apply qbv∘Kne;refine Jo rfl (Kkb f _ _ hf za) rfl ?_;rintro v M U ⟨p,q,rfl,⟨hpk,hqk⟩,hpl,hql,rfl,rfl⟩;apply (qaq);intro b10;apply (Xc1);have hpg:p.l[s.toNat]?=some x:=by rw [hpl];exact hg
 have hpn:p.l.length=f.switches.l.length:=by rw [hpl]
 apply qay∘Xah∘Xah;refine Jy (J8 (qs:=[(0,(Value.int _ _).cells.toList),(1,(Value.int _ _).cells.toList),(3,(Value.bool _).cells.toList)]) (out:=[_,_,_,_,_]) tb rfl rfl rfl rfl) rfl ?_;refine Jy zoc rfl ?_;refine Ye (Uv tb (p) (⟨x.above,t,0,true,false⟩) rfl rfl rfl rfl zj zi yf zi (yW rfl) zb zb) ?_;rintro v M U ⟨rfl,rfl⟩;apply (qa4);have hpk2:=OwL.set_ok (f:=XSwitch.cells) (wd:=5) (p:=p) (i:=s.toNat) (x:=⟨x.above,t,0,true,false⟩) yf hpk;apply qay∘Kne∘Xb0;refine q_r (q.L 3 Jk ++ ((⟨p.o,p.l.set s.toNat ⟨x.above,t,0,true,false⟩⟩:OwL XSwitch).L 76 XSwitch.cells ++ L)) R zhd ?_;exact ⟨⟨p.o,p.l.set s.toNat ⟨x.above,t,0,true,false⟩⟩,q,f.reply,by simp only [he,OwL.val,yE],⟨hpk2,hqk⟩,fun _=>⟨by rw [U6d,← hx,hpl],hql,rfl⟩,rfl,rfl⟩
end
section
attribute [local irreducible] CJ LJ DJ Tri YV Gives Uq J2 Km Ur RV J4 OwL.L
def V7 (sw:List XSwitch) (zn:List Int) (rp s t:Int):Int:=
 if feedE sw zn rp≠0 then feedE sw zn rp else if s < 0∨(sw.length:Int)≤s then 16 else if t≠1∧t≠-1 then 10 else 0
def Z1 (sw:List XSwitch) (s t:Int):List XSwitch:=
 sw.set s.toNat ⟨(sw.getD s.toNat default).above,(sw.getD s.toNat default).since,t,(sw.getD s.toNat default).closed,if t= -1 then false else (sw.getD s.toNat default).late⟩
def U5e {sw:List XSwitch} (h:Uif sw):∀(n:Nat) (s:Int),s < sw.length→(s + 1).toNat≤n→∀x∈Zsa sw s,0≤x∧x≤s:=by
 intro n;induction n with
 | zero=>intro s _ hn;rw [Y1a za];intro x hx;cases hx
 | succ n ih=>
  intro s hs hn x hx;by_cases h0:s < 0;·rw [Y1a h0] at hx;cases hx
  ·
   have ha := h s.toNat za;rw [Zpa h za hs,yS] at hx;rcases hx with rfl | hx;·omega
   ·have := ih _ za za x hx;omega
def Y4b {sw:List XSwitch} {zn:List Int} {rp s:Int} {x:Int} (hx:x∈Zaa sw zn rp s):0≤x∧x≤s∧s < sw.length:=by
 rw [Zaa] at hx;split at hx;·cases hx
 ·have hok := Yd (sw := sw) (zn := zn) (rp := rp) za;have:=U5e hok.up _ s za (ym _) x hx;omega
def Zac {sw:List XSwitch} {zn:List Int} {rp s:Int}:(Zaa sw zn rp s).length≤32:=by
 rw [Zaa];split;·simp
 ·have hok := Yd (sw := sw) (zn := zn) (rp := rp) za;have h1:=hok.sn;have:=Ysc hok.up _ s za (ym _);omega
end
end Go.Proofs.YtchfclmokpbldaaGreat
