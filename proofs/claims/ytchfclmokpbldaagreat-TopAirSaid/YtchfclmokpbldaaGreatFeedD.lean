/-
  Merged texts. By an AI agent.
-/
import Derived.Test.YtchfclmokpbldaaGreatRoundA
import Derived.OwnWalkIn
import Derived.LoopNIn
import Derived.Test.YtchfclmokpbldaaGreatFits
import Derived.Test.YtchfclmokpbldaaGreatSiteD
import Derived.Laws.StructEq
import Derived.Test.YtchfclmokpbldaaGreatDraws
set_option linter.all false
set_option maxHeartbeats 4000000
set_option maxRecDepth 20000
namespace Go.Proofs.YtchfclmokpbldaaGreat
open Go.Aw Go
section
attribute [local irreducible] CJ LJ DJ Tri YV Gives U5 J2 Kn U6 RV J4 OwL.L
def upF (sw : List XSwitch) : Nat → Int → List Int
 | 0,_=>[]
 | n + 1,s=>if s < 0 then [] else s :: upF sw n (sw.getD s.toNat default).above
def Jbb (sw:List XSwitch) (s:Int):List Int:=upF sw (s + 1).toNat s
def Uif (sw:List XSwitch):Prop:=∀i:Nat,i < sw.length→-1≤(sw.getD i default).above∧(sw.getD i default).above < i
def Jff {sw:List XSwitch} (h:Uif sw):∀(n:Nat) (s:Int),s < sw.length→(s + 1).toNat≤n→upF sw n s=Jbb sw s:=by
 intro n;induction n using Nat.strongRecOn with
 | _ n ih=>
  intro s hs hn;by_cases h0:s < 0;·
   rw [Jbb, show (s + 1).toNat = 0 by omega];cases n with
   | zero=>rfl
   | succ n=>show (if s < 0 then [] else _)=([]:List Int);rw [if_pos h0]
  ·obtain ⟨k, rfl⟩ : ∃ k, n = k + 1 := ⟨n - 1, by omega⟩;have ha:=h s.toNat za;rw [Jbb,show (s + 1).toNat=s.toNat + 1 by omega,upF,upF,if_neg za,if_neg za,ih k za _ za za,ih s.toNat za _ za za]
def Y4a {sw:List XSwitch} {s:Int} (h:s < 0):Jbb sw s=[]:=by rw [Jbb,show (s + 1).toNat=0 by omega];rfl
def Zwa {sw:List XSwitch} (h:Uif sw) {s:Int} (h0:0≤s) (h1:s < sw.length):Jbb sw s=s :: Jbb sw (sw.getD s.toNat default).above:=by have ha:=h s.toNat za;rw [Jbb,show (s + 1).toNat=s.toNat + 1 by omega,upF,if_neg za,Jff h _ _ za za]
def J6d {sw:List XSwitch} (h:Uif sw):∀(n:Nat) (s:Int),s < sw.length→(s + 1).toNat≤n→(Jbb sw s).length≤n:=by
 intro n;induction n with
 | zero=>intro s _ hn;rw [Y4a za];exact ym _
 | succ n ih=>
  intro s hs hn;by_cases h0:s < 0;·rw [Y4a h0];simp
  ·have ha := h s.toNat za;rw [Zwa h za hs,yA];have:=ih (sw.getD s.toNat default).above za za;omega
def Zkf (c:Code):Code:=match c with
 | .seq _ (.seq (.seq _ (.block _ (.rangeFunc _ _ x _))) _)=>x
 | _=>.skip
def U9e (c:Code):Code:=match c with
 | .seq _ (.seq (.seq _ (.block _ (.rangeFunc _ _ _ x))) _)=>x
 | _=>.skip
def Jkd (sv x:Value) (B:Nat):Array Value:=#[.slice none 0 0,sv,.pointer (some ⟨B,0,none⟩),undef,.slice none 0 0,undef,sv,x,undef,undef,undef,undef,undef]
def Udc (cd:Code) (fn:FuncId) (sv:Value) (B:Nat) (st:LoopState):Loop:={ state:=st,pending:=none,fn,tmps:=Jkd sv undef B,params:=#[7],assign:=Zkf cd,body:=U9e cd,defers:=B + 1 }
def V9c (cd:Code) (fn:FuncId) (sv:Value) (B:Nat) (st:LoopState):Obj:=.loop (Udc cd fn sv B st)
def J7a {cd fn sv B st}:NoCells (V9c cd fn sv B st):=⟨fun c t f h=>zE,fun es ck h=>zE⟩
def Kzf:Obj:=.deferred (some [])
def U4b:NoCells Kzf:=⟨fun c t f h=>zE,fun es ck h=>zE⟩
def Utf (t:Array Value) (n:Nat) (h:t.size=n):Fr n (fun k=>t.getD k undef) { tmps:=t,defers:=[] }:=⟨rfl,h,fun _=>rfl⟩
def Vag (o:Oper):Bool:=match o.op with
 | .defer _=>true
 | _=>false
def Uog {ops:List Oper} (h:ops.any Vag=false):∀o∈ops,∀c,o.op≠.defer c:=fun o ho c e=>by
 have:=List.any_eq_false.1 h o ho
 rw [Vag,e] at this
 exact this rfl
section
variable {w0:World} {Lc:LB} {G:Nat→Prop} {R:LS} (hh:Holds Lc G R w0)
include hh
def Zme {fn:FuncId} {sv:Value} {m:Nat} {Lf:LB} {p:OwL Int} (hok:p.ok 1 Jk) (hlen:p.l.length≤1000000) (x:Int) {W:World} (h:At2 w0 Lc G R (w0.heap.size + 1) Kzf (V9c (Tryz.f170.body.getD .skip) fn sv w0.heap.size .ready) (⟨w0.heap.size,[p.val],40⟩ :: (p.L 3 Jk ++ Lf)) W):
 YieldAt Fence.wide m Tryz.prog (w0.heap.size + 1 + 1) #[.int .i64 x] W fun e W'=>e=.returned (.bool true)∧∃o,(⟨o,p.l ++ [x]⟩:OwL Int).ok 1 Jk∧At2 w0 Lc G R (w0.heap.size + 1) Kzf (V9c (Tryz.f170.body.getD .skip) fn sv w0.heap.size .ready) (⟨w0.heap.size,[(⟨o,p.l ++ [x]⟩:OwL Int).val],40⟩ :: ((⟨o,p.l ++ [x]⟩:OwL Int).L 3 Jk ++ Lf)) W':=by
 refine ⟨fn,Jkd sv (.int .i64 x) w0.heap.size,(Zkf (Tryz.f170.body.getD .skip)),(U9e (Tryz.f170.body.getD .skip)),(by have:=run_yield (P:=Tryz.prog) (args:=#[.int .i64 x]) (r:=Udc (Tryz.f170.body.getD .skip) fn sv w0.heap.size .ready) h.lp rfl;simpa [Udc,Jkd] using this),roundIn_of_wpIn trivial ?_⟩;refine At2.round hh U4b J7a h (t:=fun k=>(Jkd sv (.int .i64 x) w0.heap.size).getD k undef) (Q:=fun e t U J=>e=.normal∧(t 5=.int .i64 x∧t 2=.pointer (some ⟨w0.heap.size,0,none⟩))∧U=(⟨w0.heap.size,[p.val],40⟩ :: (p.L 3 Jk ++ Lf))∧J=R) (Utf _ 13 rfl) (Uog rfl) ?_ (fun _ _ _ h=>by cases h.1) ?_;·refine Jy (Uo ztb) rfl ?_;exact Kc ⟨rfl,⟨rfl,rfl⟩,rfl,rfl⟩
 rintro e a1 W1 t1 L1 R1 ⟨rfl,⟨ht5,ht2⟩,rfl,rfl⟩ hf1 h1;refine ⟨_,run_beginRound h1.lp rfl,?_⟩;have h2:=At2.put hh za J7a (J7a (cd:=(Tryz.f170.body.getD .skip)) (fn:=fn) (sv:=sv) (B:=w0.heap.size) (st:=.busy)) h1;show (Code.block _ _).wpIn _ _ _ _ _ _;refine wpIn_block ?_;refine At2.round hh U4b J7a h2 (Q:=fun e t U J=>e=.normal∧∃o,(⟨o,p.l ++ [x]⟩:OwL Int).ok 1 Jk∧(⟨w0.heap.size,[(⟨o,p.l ++ [x]⟩:OwL Int).val],40⟩ :: ((⟨o,p.l ++ [x]⟩:OwL Int).L 3 Jk ++ Lf)).Sublist U) hf1 (Uog rfl) ?_ (fun _ _ _ h=>by cases h.1) ?_;·refine Jy (Ku tb ht2 rfl rfl zf zb) rfl ?_;refine Jy (Jr (v:=.int .i64 x) ht5) rfl ?_;apply (qcx);rintro v U J ⟨b88,rfl,rfl,hR88⟩;replace hR88:=hR88.symm;subst hR88;refine Yv (Jx (f:=Jk) (a:=x) tb rfl rfl rfl rfl hok zj zDb rfl za) rfl ?_;rintro v U J ⟨o,rfl,hok89,rfl,rfl⟩;refine Vja (v:=Value.slice _ _ _) tb rfl ht2 rfl rfl zB rfl rfl zb ?_;exact Kc ⟨rfl,o,hok89,yBa _ _⟩
 rintro e a3 W3 t3 L3 R3 ⟨rfl,o,hok3,hsub⟩ hf3 h3;have h4:At2 _ _ _ _ _ _ _ _ _:=⟨h3.st.weak hsub zLb,h3.df,h3.lp⟩;exact ⟨_,_,run_endRound none h4.lp,rfl,o,hok3,At2.put hh za J7a J7a h4⟩
def Uoe (w:World) (b:Nat):Int:=match w.cell? ⟨b,0,none⟩ with
 | some (.int _ n)=>n
 | _=>-1
def V7g {fn : FuncId} {sv : Value} {m : Nat} {f : XFeeder} {bs bf : Nat} {L : LB} (hsR : InR (Y1b f.switches) R) (hu : Uif f.switches.l) (hn : f.switches.l.length ≤ 1000) {cur : Int} (hc : cur < f.switches.l.length) {W : World} {p : OwL Int} (hk : p.ok 1 Jk) (hpl : p.l = [])
 (h:At2 w0 Lc G R (w0.heap.size + 1) Kzf (V9c (Tryz.f170.body.getD .skip) fn sv w0.heap.size .ready) (⟨w0.heap.size,[p.val],40⟩ :: (p.L 3 Jk ++ (⟨bs,[.int .i64 cur],3⟩ :: ⟨bf,f.cells,42⟩ :: L))) W):
 CallsIn Fence.wide m Tryz.prog 171 #[.func (.yield (w0.heap.size + 1 + 1)) #[] #[],.pointer (some ⟨bs,0,none⟩),.pointer (some ⟨bf,0,none⟩)] W fun e W'=>(∃v,e=.returned v)∧∃(q:OwL Int) (c':Int),q.ok 1 Jk∧q.l=Jbb f.switches.l cur∧
  At2 w0 Lc G R (w0.heap.size + 1) Kzf (V9c (Tryz.f170.body.getD .skip) fn sv w0.heap.size .ready) (⟨w0.heap.size,[q.val],40⟩ :: (q.L 3 Jk ++ (⟨bs,[.int .i64 c'],3⟩ :: ⟨bf,f.cells,42⟩ :: L))) W':=by
 refine callsIn_of_wp Tryz.func171 rfl trivial ?_ rfl;simp only [Tryz.ntmps171,yec,yA,yfa,Nat.reduceAdd,Nat.reduceSub,Array.replicate_succ,Array.replicate_zero,List.push_toArray,List.append_toArray,yv,yq];refine wpIn_block ?_;refine wpIn_loop (fun a w=>∃(t:Nat→Value) (q:OwL Int) (c':Int),Fr 16 t a∧(t 0=.func (.yield (w0.heap.size + 1 + 1)) #[] #[]∧t 1=.pointer (some ⟨bs,0,none⟩)∧t 2=.pointer (some ⟨bf,0,none⟩))∧q.ok 1 Jk∧(-1≤c'∨True)∧c' < f.switches.l.length∧Jbb f.switches.l cur=q.l ++ Jbb f.switches.l c'∧
  At2 w0 Lc G R (w0.heap.size + 1) Kzf (V9c (Tryz.f170.body.getD .skip) fn sv w0.heap.size .ready) (⟨w0.heap.size,[q.val],40⟩ :: (q.L 3 Jk ++ (⟨bs,[.int .i64 c'],3⟩ :: ⟨bf,f.cells,42⟩ :: L))) w) (fun _ w=>(Uoe w bs + 1).toNat) ?_ ?_
 ·exact ⟨_,p,cur,Utf _ 16 rfl,⟨rfl,rfl,rfl⟩,hk,.inr trivial,hc,by rw [hpl];rfl,h⟩
 rintro a w ⟨t,q,c',hf,⟨t0,t1,t2⟩,hk,_,hc',hp,h⟩;have hnum:Uoe w bs=c':=by have:=Kxa (b:=bs) (cs:=[.int .i64 c']) (T:=3) h.st (yW _ (yj _ yZa)) 0;rw [Uoe,this];rfl
 refine wpIn_seq (wpIn_seq ?_);refine At2.plain hh U4b J7a h (Q:=fun e t' U J=>e=.normal∧((t' 0=.func (.yield (w0.heap.size + 1 + 1)) #[] #[]∧t' 1=.pointer (some ⟨bs,0,none⟩)∧t' 2=.pointer (some ⟨bf,0,none⟩))∧t' 5=.bool (decide (0≤c')))∧(⟨w0.heap.size,[q.val],40⟩ :: (q.L 3 Jk ++ (⟨bs,[.int .i64 c'],3⟩ :: ⟨bf,f.cells,42⟩ :: L)))=U) hf ?_ ?_;·refine Jh ?_;refine Jy (Ku tb t1 rfl rfl zf zb) rfl ?_;apply (qbz);exact Kc ⟨rfl,⟨⟨t0,t1,t2⟩,rfl⟩,rfl⟩
 rintro e a1 w1 t' L1 R1 ⟨rfl,⟨⟨t0,t1,t2⟩,t5⟩,rfl⟩ hf1 h1;refine wpIn_cond (t:=decide (0≤c')) (by rw [hf1.eval];exact t5) ?_;by_cases h0:0≤c';·
  rw [decide_eq_true h0, if_pos rfl];refine wpIn_skip ?_;refine wpIn_seq (wpIn_block (wpIn_seq ?_));refine wpIn_region_lit ?_;refine V1g hf1 h1.st (Jr (v:=.func (.yield (w0.heap.size + 1 + 1)) #[] #[]) t0) rfl fun a2 hf2=>?_;refine V1g hf2 h1.st (Ku tb t1 rfl rfl zf zb) rfl fun a3 hf3=>?_;have hpl2:q.l.length≤1000000:=by have:=J6d hu _ cur hc (ym _);rw [hp,yl] at this;omega
  refine Zne (v:=.int .i64 c') hf3 rfl rfl rfl (Zme hh hk hpl2 c' h1) fun a4 w4 hf4 ⟨o,hok4,h4⟩=>?_;refine V1g hf4 h4.st (Ywa rfl) rfl fun a5 hf5=>?_;show Exit.then _ _ Exit.normal _ _;refine wpIn_cond (t:=false) (by rw [hf5.eval];rfl) ?_;rw [if_neg zo];refine wpIn_skip ?_;have hg:=Jn (l:=f.switches.l) (k:=c'.toNat) default za;have ha:=hu c'.toNat za;refine At2.plain hh U4b J7a h4 (Q:=fun e t' U J=>e=.normal∧(t' 0=.func (.yield (w0.heap.size + 1 + 1)) #[] #[]∧t' 1=.pointer (some ⟨bs,0,none⟩)∧t' 2=.pointer (some ⟨bf,0,none⟩))∧
   ⟨w0.heap.size,[(⟨o,q.l ++ [c']⟩:OwL Int).val],40⟩ :: ((⟨o,q.l ++ [c']⟩:OwL Int).L 3 Jk ++ (⟨bs,[.int .i64 (f.switches.l.getD c'.toNat default).above],3⟩ :: ⟨bf,f.cells,42⟩ :: L))=U) hf5 ?_ ?_
  ·refine Jh ?_;refine Jy (K4 tb rfl (show _=Value.pointer (some ⟨bf,0,none⟩) from t2) rfl) rfl ?_;apply (qac);refine Jy (Ku tb (show _=Value.pointer (some ⟨bs,0,none⟩) from t1) rfl rfl zf zb) rfl ?_;refine Jy (Jd tb rfl rfl rfl rfl hsR (i:=c'.toNat) za za) rfl ?_;apply (qb0);refine Jy (Zv tb rfl rfl rfl hsR hg rfl) rfl ?_;refine Vja (v:=Value.int _ _) tb rfl (show _=Value.pointer (some ⟨bs,0,none⟩) from t1) rfl rfl zB rfl rfl zb ?_;exact Kc ⟨rfl,⟨t0,t1,t2⟩,rfl⟩
  rintro e a6 w6 t6 L6 R6 ⟨rfl,ht6,rfl⟩ hf6 h6;have hnum6:Uoe w6 bs=(f.switches.l.getD c'.toNat default).above:=by have:=Kxa (b:=bs) (cs:=[.int .i64 (f.switches.l.getD c'.toNat default).above]) (T:=3) h6.st (yW _ (yj _ yZa)) 0;rw [Uoe,this];rfl
  refine ⟨⟨t6,⟨o,q.l ++ [c']⟩,_,hf6,ht6,hok4,.inr trivial,by omega,?_,h6⟩,?_⟩;·rw [hp,Zwa hu h0 hc',yn];rfl
  ·rw [hnum,hnum6];omega
 ·rw [decide_eq_false h0, if_neg zo];refine wpIn_exit ?_;simp only [Exit.then,Exit.inBlock,if_true];refine ⟨hf1.defers,_,results_none rfl _ _ _,⟨_,rfl⟩,q,c',hk,?_,h1⟩;rw [hp,Y4a za,yX]
end
def V5c (f:XFeeder) (s:Int) (bs bf:Nat) (L:LB) (R:LS) (hsR:InR (Y1b f.switches) R) (hu:Uif f.switches.l) (hn:f.switches.l.length≤1000) (hc:s < f.switches.l.length):
 Tri Tryz.prog 170 [.slice none 0 0, .func (.func 171) #[] #[.pointer (some ⟨bs, 0, none⟩), .pointer (some ⟨bf, 0, none⟩)]].toArray (⟨bs, [.int .i64 s], 3⟩ :: ⟨bf, f.cells, 42⟩ :: L) R
  (fun v U J=>∃(q:OwL Int) (c':Int),v=q.val∧q.ok 1 Jk∧q.l=Jbb f.switches.l s∧q.L 3 Jk ++ (⟨bs,[.int .i64 c'],3⟩ :: ⟨bf,f.cells,42⟩ :: L)=U∧R=J):=by
 refine Tri.raw Tryz.call170 fun w G hh=>(callsIn_wide (n:=5)).1 ?_;refine callsIn_of_wp_marks Tryz.func170 rfl trivial ?_ rfl;simp only [Tryz.ntmps170,yec,yA,yfa,Nat.reduceAdd,Nat.reduceSub,Array.replicate_succ,Array.replicate_zero,List.push_toArray,List.append_toArray,yv,yq]
 gi_wp2
 refine wpIn_rangeFunc ?_;intro fn hfn;obtain ⟨sv,hsv⟩:∃sv:Value,sv=.func (.func 171) #[] #[.pointer (some ⟨bs,0,none⟩),.pointer (some ⟨bf,0,none⟩)]:=⟨_,rfl⟩;obtain ⟨W0,hW0⟩:∃W0,w.alloc (.cells #[.slice none 0 0] 40)=W0:=⟨_,rfl⟩;have hs0:W0.heap.size=w.heap.size + 1:=by rw [← hW0];simp
 have st0:St ⟨w,inL (⟨bs,[.int .i64 s],3⟩ :: ⟨bf,f.cells,42⟩ :: L),G⟩ (⟨w.heap.size,[.slice none 0 0],40⟩ :: ⟨bs,[.int .i64 s],3⟩ :: ⟨bf,f.cells,42⟩ :: L) R W0:=by rw [← hW0];exact (St.init hh).alloc #[.slice none 0 0] 40
 rw [hW0];obtain ⟨W1,hW1⟩:∃W1,(W0.alloc Kzf).alloc (V9c (Tryz.f170.body.getD .skip) fn sv w.heap.size .ready)=W1:=⟨_,rfl⟩;have hA:At2 w (⟨bs,[.int .i64 s],3⟩ :: ⟨bf,f.cells,42⟩ :: L) G R (w.heap.size + 1) Kzf (V9c (Tryz.f170.body.getD .skip) fn sv w.heap.size .ready) (⟨w.heap.size,[(OwL.nil:OwL Int).val],40⟩ :: ((OwL.nil:OwL Int).L 3 Jk ++ (⟨bs,[.int .i64 s],3⟩ :: ⟨bf,f.cells,42⟩ :: L))) W1:=by
  rw [← hW1];refine ⟨(by rw [Km,yv];exact (st0.allocO U4b).allocO J7a),?_,?_⟩;·rw [← hs0];exact (Kif _ _ _ zo).trans (World.alloc_heap_new W0 _)
  ·have := World.alloc_heap_new (W0.alloc Kzf) (V9c (Tryz.f170.body.getD .skip) fn sv w.heap.size .ready);rwa [World.size_alloc,hs0] at this
 refine ⟨w.heap.size + 1 + 1,[{ target:=.collected (w.heap.size + 1),args:=#[] }],W1,{ target:=.fn (.func 171) #[.pointer (some ⟨bs,0,none⟩),.pointer (some ⟨bf,0,none⟩)],args:=#[.func (.yield (w.heap.size + 1 + 1)) #[] #[]] },W1,171,
  #[.func (.yield (w.heap.size + 1 + 1)) #[] #[],.pointer (some ⟨bs,0,none⟩),.pointer (some ⟨bf,0,none⟩)],W1,?_,?_,fun _ _=>trivial,?_,fun h=>zE,?_⟩
 ·have := run_enterLoop_outer (P := Tryz.prog) (w := W0) fn (Jkd sv undef w.heap.size) #[7] (Zkf (Tryz.f170.body.getD .skip)) (U9e (Tryz.f170.body.getD .skip));rw [hs0] at this;rw [← hW1,hsv];rw [hsv] at this;exact this
 ·simp [resolve,go_sem]
 ·simp [invoke,go_sem,Tryz.call171]
 ·
  refine (V7g hh hsR hu hn hc OwL.nil_ok rfl hA).mono ?_;rintro e W2 ⟨⟨v0,rfl⟩,q,c',hk,hq,h2⟩;have hend:=run_endLoop (P:=Tryz.prog) h2.lp (by simp [Udc]);have h3:=At2.put hh za J7a (ol':=.loop { Udc (Tryz.f170.body.getD .skip) fn sv w.heap.size .ready with state:=.exhausted }) ⟨fun c t f h=>zE,fun es ck h=>zE⟩ h2;obtain ⟨W3,hW3⟩:∃W3,W2.putObj (w.heap.size + 1 + 1) (.loop { Udc (Tryz.f170.body.getD .skip) fn sv w.heap.size .ready with state:=.exhausted })=W3:=⟨_,rfl⟩;rw [hW3] at hend h3;have hc3:W3.cell? ⟨w.heap.size,0,none⟩=some q.val:=Kxa (b:=w.heap.size) (cs:=[q.val]) (T:=40) h3.st yZa 0;have hd3:=h3.df;have st3:=h3.st;clear hW3 h3 h2 hA hW1 st0 hW0;refine ⟨none,W3,hend,?_⟩
  gi_wp2
  have st4:=(st3.put hh hd3 U4b (o':=.deferred none) ⟨fun c t f h=>zE,fun es ck h=>zE⟩ za).weak (yBa _ _) zLb;refine ⟨by simp,.inl ⟨_,_,rfl,run_takeDeferred hd3,?_⟩⟩;exact ⟨_,results_tmp rfl _ _ _,q.val,_,_,rfl,⟨q,c',rfl,hk,hq,rfl,rfl⟩,st4⟩
end
section
attribute [local irreducible] CJ LJ DJ Tri YV Gives U5 J2 Kn U6 RV J4 OwL.L
section
variable {A B:Prop}
def J4g(h:A→B:=by exact Jy zxb rfl):=h
end
structure FeedOk (sw:List XSwitch) (zn:List Int) (rp:Int):Prop where
 sn:sw.length≤32
 zl:zn.length≤16
 up:Uif sw
 since:∀i:Nat,i < sw.length→0≤(sw.getD i default).since∧(sw.getD i default).since≤2147483648
 shown:∀i:Nat,i < sw.length→-1≤(sw.getD i default).shown∧(sw.getD i default).shown≤1
 zr:∀i:Nat,i < zn.length→0≤zn.getD i 0∧zn.getD i 0 < sw.length
 zd:∀i j:Nat,j < i→i < zn.length→zn.getD j 0≠zn.getD i 0
 rp:1≤rp∧rp≤100000
def Vcb {β:Type} {f:Nat→Option β} {n:Nat} (h:(List.range n).findSome? f=none) {i:Nat} (hi:i < n):f i=none:=by rw [yK] at h;exact h i (List.mem_range.2 hi)
def Zgd {l:List XSwitch} {i:Nat}:Vca l i≠some 0:=by
 rw [Vca];repeat' split
 all_goals (intro h;first | cases h | (injection h with h;omega))
def Jnf {n:Nat} {l:List Int} {i:Nat}:Jdb n l i≠some 0:=by
 rw [Jdb];repeat' split
 all_goals (intro h;first | cases h | (injection h with h;omega))
def Vhc {f:Nat→Option Int} {n:Nat} {e:Int} (hf:∀i,f i≠some 0) (h:(List.range n).findSome? f=some e):e≠0:=by obtain ⟨i,_,hi⟩:=yw h;rintro rfl;exact hf _ hi
def Ys {sw:List XSwitch} {zn:List Int} {rp:Int} (h:feedE sw zn rp=0):FeedOk sw zn rp:=by
 by_cases h0:32 < sw.length∨16 < zn.length;·rw [feedE,if_pos h0] at h;omega
 cases h1:(List.range sw.length).findSome? (Vca sw) with
 | some e=>rw [Krb h0 h1] at h;exact absurd h (Vhc (fun _=>Zgd) h1)
 | none=>
  cases h2:(List.range zn.length).findSome? (Jdb sw.length zn) with
  | some e=>rw [Ylc h0 h1 h2] at h;exact absurd h (Vhc (fun _=>Jnf) h2)
  | none=>
   rw [Yvb h0 h1 h2] at h;have hs:∀i:Nat,i < sw.length→(-1≤(sw.getD i default).above∧(sw.getD i default).above < i)∧(0≤(sw.getD i default).since∧(sw.getD i default).since≤2147483648)∧(-1≤(sw.getD i default).shown∧(sw.getD i default).shown≤1):=fun i hi=>by
    have:=Vcb h1 hi;rw [Vca] at this;split at this;·cases this
    split at this;·cases this
    split at this;·cases this
    rename_i k1 k2 k3;rw [not_or] at k3;omega
   have hz:∀i:Nat,i < zn.length→(0≤zn.getD i 0∧zn.getD i 0 < sw.length)∧∀j:Nat,j < i→zn.getD j 0≠zn.getD i 0:=fun i hi=>by
    have:=Vcb h2 hi;rw [Jdb] at this;split at this;·cases this
    split at this;·cases this
    rename_i k1 k2;exact ⟨by omega,fun j hj hh=>k2 ⟨j,hj,hh⟩⟩
   refine ⟨by omega,by omega,fun i hi=>(hs i hi).1,fun i hi=>(hs i hi).2.1,fun i hi=>(hs i hi).2.2,fun i hi=>(hz i hi).1,fun i j hj hi=>(hz i hi).2 j hj,?_⟩;by_cases hr:rp < 1∨100000 < rp;·rw [if_pos hr] at h;omega
   ·omega
def Zba (sw:List XSwitch) (zn:List Int) (rp:Int) (s:Int):List Int:=if feedE sw zn rp≠0∨s < 0∨(sw.length:Int)≤s then [] else Jbb sw s
def Jae (f:XFeeder) (s:Int) (L:LB) (R:LS):
 Tri Tryz.prog 90 [f.val,.int .i64 s].toArray L R (fun v U J=>∃bs bf,v=.func (.func 171) #[] #[.pointer (some ⟨bs,0,none⟩),.pointer (some ⟨bf,0,none⟩)]∧(⟨bs,[.int .i64 s],3⟩ :: ⟨bf,f.cells,42⟩ :: L)=U∧R=J):=by refine Je 6 Tryz.call90 Tryz.func90 rfl rfl rfl ?_;apply (Xaf);intro b2;refine Utd (v:=Value.int _ _) rfl rfl rfl ?_;intro b3;refine Jy (Uo rfl) rfl ?_;apply (qam);refine Jy (Yuc rfl) rfl ?_;refine Jy (Uo rfl) rfl ?_;apply (qa0);refine q_r (⟨b3,[.int .i64 s],3⟩ :: ⟨b2,f.cells,42⟩ :: L) R (Vu rfl (Jf rfl)) ?_;exact ⟨b3,b2,rfl,rfl,rfl⟩
def U5d (f:XFeeder) (s:Int) (bs bf:Nat) (L:LB) (R:LS) (hsR:InR (Y1b f.switches) R) (hu:Uif f.switches.l) (hn:f.switches.l.length≤1000) (hc:s < f.switches.l.length):
 Tri Tryz.prog 89 [.func (.func 171) #[] #[.pointer (some ⟨bs, 0, none⟩), .pointer (some ⟨bf, 0, none⟩)]].toArray (⟨bs, [.int .i64 s], 3⟩ :: ⟨bf, f.cells, 42⟩ :: L) R
  (fun v U J=>∃(q:OwL Int) (c':Int),v=q.val∧q.ok 1 Jk∧q.l=Jbb f.switches.l s∧q.L 3 Jk ++ (⟨bs,[.int .i64 c'],3⟩ :: ⟨bf,f.cells,42⟩ :: L)=U∧R=J):=by refine Je 5 Tryz.call89 Tryz.func89 rfl rfl rfl ?_;apply qae∘Xcb;refine Jy zSb rfl ?_;refine Jw rfl (V5c f s bs bf L R hsR hu hn hc) rfl ?_;rintro v U J ⟨q,c',rfl,hk,hq,rfl,rfl⟩;apply (Xci);refine q_r (q.L 3 Jk ++ (⟨bs,[.int .i64 c'],3⟩ :: ⟨bf,f.cells,42⟩ :: L)) R zxd ?_;exact ⟨q,c',rfl,hk,hq,rfl,rfl⟩
def Yec (f:XFeeder) (s:Int) (L:LB) (R:LS) (hf:FeederR f R):
 Tri Tryz.prog 26 [f.val,.int .i64 s].toArray L R (fun v U J=>∃q:OwL Int,v=q.val∧q.ok 1 Jk∧q.l=Zba f.switches.l f.zones.l f.reply s∧q.L 3 Jk ++ L=U∧R=J):=by
 refine Je 23 Tryz.call26 Tryz.func26 rfl rfl rfl ?_;apply (Xaf);intro b2;apply Xbr∘J4g;refine q_l rfl (Yo f _ _ hf) ?_;apply (Xb7);apply J6 (G:=[_,_]) (j:=3) (cj:=8) rfl rfl zb rfl zsb rfl;·intro hg4;replace hg4:=qb hg4;exact (qaa) zme
 intro junk4;apply (qah);apply J6 (G:=[_,_,_,_,_]) (j:=7) (cj:=12) rfl rfl zb rfl zsb rfl;·intro hg8;replace hg8:=qb hg8;exact (qaa∘Xed) qai
 intro junk8;apply (qaf);refine q_c ?_ ?_<;>intro hc0;·apply Xea∘qbh;refine q_r L R zxd ?_;exact ⟨.nil,rfl,OwL.nil_ok,by rw [Zba,if_pos za],by rw [Km];rfl,rfl⟩
 have hok:=Ys (sw:=f.switches.l) (zn:=f.zones.l) (rp:=f.reply) za;have hsn:=hok.sn;apply qbv∘J4g∘qaa;refine Jw rfl (Jae f s _ _) rfl ?_;rintro v U J ⟨bs,bf,rfl,rfl,rfl⟩;refine Jw rfl (U5d f s bs bf _ _ hf.sw hok.up za za) rfl ?_;rintro v U J ⟨q,c',rfl,hk,hq,rfl,rfl⟩;apply (Xci);refine q_r (q.L 3 Jk ++ L) R zxd ?_;exact ⟨q,rfl,hk,by rw [Zba,if_neg za];exact hq,rfl,rfl⟩
end
section
inductive KC where
 | i
 | b
section
variable {P:Program}
end
section
variable {P:Program} {ρ:Operand→Value} {L:LB} {R:LS} {dst:Option Tmp} {ty:TypeId} {pos:String} {after:Array Edge} {guard:Option (Nat×Bool)} {T T2:TypeId} {x y:Operand} {ks:List KC} {xs ys:List Value}
end
end
section
attribute [local irreducible] CJ LJ DJ Tri YV Gives U5 J2 Kn U6 RV J4 OwL.L
section
variable {A B:Prop}
def Zwd(h:A→B:=by exact Jy zxb rfl):=h
def Ukg(h:B:=by exact ⟨.nil,.nil,0,by rw [he];rfl,⟨OwL.nil_ok,OwL.nil_ok⟩,fun h=>by omega,by rw [Km,Km];rfl,rfl⟩):=h
end
def Yya (sw:List XSwitch) (t:Int):Prop:=(0≤t∧t≤2147483648)∧∀x∈sw,x.since≤t
instance (sw:List XSwitch) (t:Int):Decidable (Yya sw t):=by unfold Yya;infer_instance
def Y2c (sw:List XSwitch) (zn:List Int) (rp s t:Int):Int:=if feedE sw zn rp≠0 then feedE sw zn rp else if s < 0∨(sw.length:Int)≤s then 16 else if Yya sw t then 0 else 8
def U3c (f:XFeeder) (t:Int) (L:LB) (R:LS) (hf:FeederR f R):
 Tri Tryz.prog 227 [f.val,.int .i64 t].toArray L R (fun v U J=>v=.bool (decide (Yya f.switches.l t))∧L=U∧R=J):=by
 have hsR:=hf.sw;refine J0b Tryz.call227 hsR fun hcap=>?_;refine Je 25 Tryz.call227 Tryz.func227 rfl rfl rfl ?_;apply (Xaf);intro b2;apply Xdv∘qaa∘Xav;apply J6 (G:=[_,_]) (j:=2) (cj:=9) rfl rfl zb rfl zsb rfl;·exact zKd
 intro junk3;apply (qaf);refine q_c ?_ ?_<;>intro hc0;·apply Xcc∘qbh;refine q_b L R ?_;exact ⟨by rw [decide_eq_false (fun h=>by have:=h.1;omega)],rfl,rfl⟩
 apply (Xc3);refine Jm [(1,.int _ _),(14,.slice _ _ _),(15,.int _ _),(16,.int _ _)] zh fun tq0=>?_;refine q_s ([4,6]++rg 16 9) (fun g:{k:Nat // k≤f.switches.l.length∧∀j:Nat,j < k→(f.switches.l.getD j default).since≤t}=>[(16,.int .i64 ((g.1:Nat):Int))]) (fun g=>f.switches.l.length - g.1) (⟨0,by omega,fun j hj=>by omega⟩) ?_;rintro ⟨k,hk,hal⟩ junk;try dsimp only
 apply (Xam);refine q_c ?_ ?_<;>intro hc1;·
  have hg:=Jn (l:=f.switches.l) (k:=k) default za;apply (qbb);refine Jy zC rfl ?_;apply qdw∘qaq;intro b6;apply Xaz∘qaa∘Xaa∘Xa5;refine q_c ?_ ?_<;>intro hc2;·apply Xcc∘qbt;refine q_b L R ?_;exact ⟨by rw [decide_eq_false (fun h=>by have:=h.2 _ (yi hg);omega)],rfl,rfl⟩
  exact uaV
 apply qbk∘Xbb;refine q_b L R ?_;refine ⟨by rw [decide_eq_true (p:=Yya f.switches.l t)];refine ⟨by omega,fun x hx=>?_⟩;obtain ⟨j,hj,rfl⟩:=yWa hx;have:=hal j za;rwa [yh,yC hj] at this,rfl,rfl⟩
def Jdc (f:XFeeder) (s t:Int) (L:LB) (R:LS) (hf:FeederR f R):
 Tri Tryz.prog 150 [f.val,.int .i64 s,.int .i64 t].toArray L R (fun v U J=>v=.int .i64 (Y2c f.switches.l f.zones.l f.reply s t)∧L=U∧R=J):=by
 refine Je 26 Tryz.call150 Tryz.func150 rfl rfl rfl ?_;apply (Xaf);intro b3;apply Xar∘Zwd;refine q_l rfl (Yo f _ _ hf) ?_;apply (Xbh);refine q_c ?_ ?_<;>intro hc0;·apply (Xdm);refine q_i L R ?_;exact ⟨by rw [Y2c,if_pos hc0],rfl,rfl⟩
 apply Xc4∘Xav;apply J6 (G:=[_,_,_,_,_]) (j:=2) (cj:=15) rfl rfl zb rfl zsb rfl;·exact zie
 intro junk3;apply (qaf);refine q_c ?_ ?_<;>intro hc1;·apply (Xba);refine q_i L R ?_;exact ⟨by rw [Y2c,if_neg za,if_pos za],rfl,rfl⟩
 apply qbo∘Zwd∘qaa;refine q_l rfl (U3c f t _ _ hf) ?_;apply (Xbl);refine q_c ?_ ?_<;>intro hc2;·apply (Xba);refine q_i L R ?_;exact ⟨by rw [Y2c,if_neg za,if_neg za,if_neg zO],rfl,rfl⟩
 apply (Xc2);refine q_i L R ?_;exact ⟨by rw [Y2c,if_neg za,if_neg za,if_pos zO],rfl,rfl⟩
def Khb (f:XFeeder) (L:LB) (R:LS) (hf:FeederR f R) (hn:f.switches.l.length≤1000∧f.zones.l.length≤1000):
 Tri Tryz.prog 151 [f.val].toArray L R (fun v U J=>∃(p:OwL XSwitch) (q:OwL Int),v=.agg #[p.val,q.val,.int .i64 f.reply]∧(p.ok 5 XSwitch.cells∧q.ok 1 Jk)∧p.l=f.switches.l∧q.l=f.zones.l∧q.L 3 Jk ++ (p.L 76 XSwitch.cells ++ L)=U∧R=J):=by have hsR:=hf.sw;have hzR:=hf.zn;refine Je 12 Tryz.call151 Tryz.func151 rfl rfl rfl ?_;apply (Xaf);intro b1;apply (qaq);intro b2;apply (Xd8);refine Yv zIc rfl ?_;rintro v U J ⟨o5,rfl,hok5,rfl,rfl⟩;apply Xbt∘Xd8;refine Yv zVc rfl ?_;rintro v U J ⟨o9,rfl,hok9,rfl,rfl⟩;apply Xbt∘qam∘Zwd∘Xbp;refine q_r ((⟨o9,f.zones.l⟩:OwL Int).L 3 Jk ++ ((⟨o5,f.switches.l⟩:OwL XSwitch).L 76 XSwitch.cells ++ L)) R (Vu rfl zyb) ?_;exact ⟨⟨o5,f.switches.l⟩,⟨o9,f.zones.l⟩,rfl,⟨hok5,hok9⟩,rfl,rfl,rfl,rfl⟩
def Zca (sw:List XSwitch) (zn:List Int) (rp s t:Int):Int:=
 if Y2c sw zn rp s t≠0 then Y2c sw zn rp s t
 else if (sw.getD s.toNat default).shown≠-1∨(0≤(sw.getD s.toNat default).above∧(sw.getD (sw.getD s.toNat default).above.toNat default).shown≠1) then 10 else 0
def U0d (sw:List XSwitch) (s t:Int):List XSwitch:=sw.set s.toNat ⟨(sw.getD s.toNat default).above,t,0,true,false⟩
def Ycc (f:XFeeder) (s t:Int) (L:LB) (R:LS) (hf:FeederR f R):
 Tri Tryz.prog 166 [f.val,.int .i64 s,.int .i64 t].toArray L R (fun v U J=>∃(p:OwL XSwitch) (q:OwL Int) (r:Int),v=.tuple #[.agg #[p.val,q.val,.int .i64 r],.int .i64 (Zca f.switches.l f.zones.l f.reply s t)]∧(p.ok 5 XSwitch.cells∧q.ok 1 Jk)∧
  (Zca f.switches.l f.zones.l f.reply s t=0→p.l=U0d f.switches.l s t∧q.l=f.zones.l∧r=f.reply)∧q.L 3 Jk ++ (p.L 76 XSwitch.cells ++ L)=U∧R=J):=by
 have hsR:=hf.sw;refine Je 54 Tryz.call166 Tryz.func166 rfl rfl rfl ?_;apply (Xaf);intro b3;apply (qaq);intro b6;apply Xar∘Zwd∘Xbw;refine q_l rfl (Jdc f s t _ _ hf) ?_;apply (Xbh);refine q_c ?_ ?_<;>intro hc0;·
  apply (qae);refine Jy zcc rfl ?_;apply (Xcl);refine q_r L R ztd ?_;have he:Zca f.switches.l f.zones.l f.reply s t=Y2c f.switches.l f.zones.l f.reply s t:=by rw [Zca,if_pos hc0]
  exact Ukg
 have hcan:Y2c f.switches.l f.zones.l f.reply s t=0:=by omega
 have hfe:feedE f.switches.l f.zones.l f.reply=0:=by rw [Y2c] at hcan;split at hcan <;> omega
 have hok:=Ys hfe;have hsn:=hok.sn;have hzl:=hok.zl;have hsr:0≤s∧s < f.switches.l.length:=by rw [Y2c,if_neg za] at hcan;split at hcan <;> omega
 have hg:=Jn (l:=f.switches.l) (k:=s.toNat) default za;have hup:=hok.up s.toNat za;obtain ⟨x,hx⟩:∃x,x=f.switches.l.getD s.toNat default:=⟨_,rfl⟩;rw [← hx] at hg hup;apply qbv∘Xah;refine Jy zNa rfl ?_;apply qdw∘qaq;intro b9;apply Xbe∘Xaa∘Xb7;apply J6 (G:=[_,_,_,_,_,_,_,_,_,_,_,_,_]) (j:=3) (cj:=27) rfl rfl zb rfl zsb rfl;·
  intro hg4;replace hg4:=qb hg4;apply Xaa∘qbz∘qah;apply K9 (G:=[_,_,_,_,_,_,_,_]) (j:=7) (cj:=31) rfl rfl zb rfl zsb rfl;·intro hg8;replace hg8:=qb hg8;have hga:=Jn (l:=f.switches.l) (k:=x.above.toNat) default za;apply (Xa2);refine Jy (by first | exact Jd tb rfl rfl rfl rfl zu (i:=x.above.toNat) zk za | exact Jl tb rfl rfl rfl rfl (i:=x.above.toNat) zk za) rfl ?_;exact (Xa9) zNd
  intro junk8;exact qai
 intro junk4;apply (qaf);refine q_c ?_ ?_<;>intro hc1;·
  apply (qae);refine Jy zcc rfl ?_;apply (Xa4);refine q_r L R ztd ?_;have he:Zca f.switches.l f.zones.l f.reply s t=10:=by rw [Zca,if_neg za,← hx,if_pos za]
  exact Ukg
 have he:Zca f.switches.l f.zones.l f.reply s t=0:=by rw [Zca,if_neg za,← hx,if_neg za]
 apply qbv∘Zwd;refine Jw rfl (Khb f _ _ hf za) rfl ?_;rintro v U J ⟨p,q,rfl,⟨hpk,hqk⟩,hpl,hql,rfl,rfl⟩;apply (qaq);intro b10;apply (Xct);have hpg:p.l[s.toNat]?=some x:=by rw [hpl];exact hg
 have hpn:p.l.length=f.switches.l.length:=by rw [hpl]
 apply qay∘Xah∘Xah;refine Jy (Ka (qs:=[(0,(Value.int _ _).cells.toList),(1,(Value.int _ _).cells.toList),(3,(Value.bool _).cells.toList)]) (out:=[_,_,_,_,_]) tb rfl rfl rfl rfl) rfl ?_;refine Jy zzc rfl ?_;refine V6 (Uj tb (p) (⟨x.above,t,0,true,false⟩) rfl rfl rfl rfl zj zg yf zg (yQ rfl) zb zb) ?_;rintro v U J ⟨rfl,rfl⟩;apply (qa4);have hpk2:=OwL.set_ok (f:=XSwitch.cells) (wd:=5) (p:=p) (i:=s.toNat) (x:=⟨x.above,t,0,true,false⟩) yf hpk;apply qay∘Zwd∘Xb3;refine q_r (q.L 3 Jk ++ ((⟨p.o,p.l.set s.toNat ⟨x.above,t,0,true,false⟩⟩:OwL XSwitch).L 76 XSwitch.cells ++ L)) R ztd ?_;exact ⟨⟨p.o,p.l.set s.toNat ⟨x.above,t,0,true,false⟩⟩,q,f.reply,by simp only [he,OwL.val,yL],⟨hpk2,hqk⟩,fun _=>⟨by rw [U0d,← hx,hpl],hql,rfl⟩,rfl,rfl⟩
end
section
attribute [local irreducible] CJ LJ DJ Tri YV Gives U5 J2 Kn U6 RV J4 OwL.L
def Yf (sw:List XSwitch) (zn:List Int) (rp s t:Int):Int:=
 if feedE sw zn rp≠0 then feedE sw zn rp else if s < 0∨(sw.length:Int)≤s then 16 else if t≠1∧t≠-1 then 10 else 0
def J8a (sw:List XSwitch) (s t:Int):List XSwitch:=
 sw.set s.toNat ⟨(sw.getD s.toNat default).above,(sw.getD s.toNat default).since,t,(sw.getD s.toNat default).closed,if t= -1 then false else (sw.getD s.toNat default).late⟩
def Use {sw:List XSwitch} (h:Uif sw):∀(n:Nat) (s:Int),s < sw.length→(s + 1).toNat≤n→∀x∈Jbb sw s,0≤x∧x≤s:=by
 intro n;induction n with
 | zero=>intro s _ hn;rw [Y4a za];intro x hx;cases hx
 | succ n ih=>
  intro s hs hn x hx;by_cases h0:s < 0;·rw [Y4a h0] at hx;cases hx
  ·
   have ha := h s.toNat za;rw [Zwa h za hs,yR] at hx;rcases hx with rfl | hx;·omega
   ·have := ih _ za za x hx;omega
def Z9b {sw:List XSwitch} {zn:List Int} {rp s:Int} {x:Int} (hx:x∈Zba sw zn rp s):0≤x∧x≤s∧s < sw.length:=by
 rw [Zba] at hx;split at hx;·cases hx
 ·have hok := Ys (sw := sw) (zn := zn) (rp := rp) za;have:=Use hok.up _ s za (ym _) x hx;omega
def Zdc {sw:List XSwitch} {zn:List Int} {rp s:Int}:(Zba sw zn rp s).length≤32:=by
 rw [Zba];split;·simp
 ·have hok := Ys (sw := sw) (zn := zn) (rp := rp) za;have h1:=hok.sn;have:=J6d hok.up _ s za (ym _);omega
end
end Go.Proofs.YtchfclmokpbldaaGreat
