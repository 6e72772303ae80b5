/-
  Power networks: feeder.Live, feeder.Failed. By an AI agent; no person has read it.
-/
import Derived.Test.YtchfclmokpbldaaGreatFeedD
import Derived.Test.YtchfclmokpbldaaGreatRoundB
set_option linter.all false
set_option maxHeartbeats 4000000
namespace Go.Proofs.YtchfclmokpbldaaGreat
open Go.Aw Go
set_option maxRecDepth 20000
attribute [local irreducible] CJ LJ DJ Tri YV Gives U0 J3 Kj Uz RV J5 OwL.L
def Jee (c:Code):Code:=match c with
 | .seq _ (.seq _ (.seq _ (.seq (.seq _ (.block _ x)) _)))=>x
 | _=>.skip
def rfA (c:Code):Code:=match c with
 | .rangeFunc _ _ x _=>x
 | _=>.skip
def rfB (c:Code):Code:=match c with
 | .rangeFunc _ _ _ x=>x
 | _=>.skip
def Klc (cd:Code) (fn:FuncId) (T:Array Value) (D:Nat) (st:LoopState):Loop:={ state:=st,pending:=none,fn,tmps:=T,params:=#[28],assign:=rfA cd,body:=rfB cd,defers:=D }
def Jmd (cd:Code) (fn:FuncId) (T:Array Value) (D:Nat) (st:LoopState):Obj:=.loop (Klc cd fn T D st)
def Jua {cd fn T D st}:NoCells (Jmd cd fn T D st):=⟨fun c t f h=>zC,fun es ck h=>zC⟩
def Ktb {T:Array Value} {i k:Nat} {v:Value} (h:i < T.size):(T.setIfInBounds i v).getD k undef=if i=k then v else T.getD k undef:=by
 simp only [yKa,Array.getElem?_setIfInBounds];split;·rename_i e;subst e;simp [h]
 ·rfl
def Kbg (sw:List XSwitch) (q:List Int) (o:Int):Prop:=o≤1∧∀x∈q,o≤(sw.getD x.toNat default).shown
section
variable {w0:World} {Lc:LB} {G:Nat→Prop} {R:LS} (hh:Holds Lc G R w0)
include hh
def Zwe {fn : FuncId} {T : Array Value} {m : Nat} {Lf : LB} {f : XFeeder} {bo b2 : Nat} {o x : Int} (hT : T.size = 38) (h5 : T.getD 5 undef = .pointer (some ⟨bo, 0, none⟩)) (h2 : T.getD 2 undef = .pointer (some ⟨b2, 0, none⟩)) (hsR : InR (Vcb f.switches) R) (hx : 0 ≤ x ∧ x < f.switches.l.length) {W : World}
 (h:At2 w0 Lc G R w0.heap.size K9d (Jmd (Jee (Tryz.f27.body.getD .skip)) fn T w0.heap.size .ready) (⟨bo,[.int .i64 o],3⟩ :: ⟨b2,f.cells,42⟩ :: Lf) W):
 YieldAt Fence.wide m Tryz.prog (w0.heap.size + 1) #[.int .i64 x] W fun e W'=>e=.returned (.bool true)∧At2 w0 Lc G R w0.heap.size K9d (Jmd (Jee (Tryz.f27.body.getD .skip)) fn T w0.heap.size .ready) (⟨bo,[.int .i64 (min o (f.switches.l.getD x.toNat default).shown)],3⟩ :: ⟨b2,f.cells,42⟩ :: Lf) W':=by
 have hg:=Jw (l:=f.switches.l) (k:=x.toNat) default za;obtain ⟨T2,hT2⟩:∃T2,T2=T.setIfInBounds 28 (.int .i64 x):=⟨_,rfl⟩;have hs2:T2.size=38:=by rw [hT2,Array.size_setIfInBounds];exact hT
 have g28:T2.getD 28 undef=.int .i64 x:=by rw [hT2,Ktb za,if_pos rfl]
 have g5:T2.getD 5 undef=.pointer (some ⟨bo,0,none⟩):=by rw [hT2,Ktb za,if_neg ze];exact h5
 have g2:T2.getD 2 undef=.pointer (some ⟨b2,0,none⟩):=by rw [hT2,Ktb za,if_neg ze];exact h2
 refine ⟨fn,T2,rfA (Jee (Tryz.f27.body.getD .skip)),rfB (Jee (Tryz.f27.body.getD .skip)),(by have:=run_yield (P:=Tryz.prog) (args:=#[.int .i64 x]) (r:=Klc (Jee (Tryz.f27.body.getD .skip)) fn T w0.heap.size .ready) h.lp rfl;rw [hT2];simpa [Klc] using this),roundIn_of_wpIn trivial ?_⟩;refine At2.round hh J8a Jua h (t:=fun k=>T2.getD k undef) (Q:=fun e t M U=>e=.normal∧(t 6=.int .i64 x∧t 5=.pointer (some ⟨bo,0,none⟩)∧t 2=.pointer (some ⟨b2,0,none⟩))∧M=(⟨bo,[.int .i64 o],3⟩ :: ⟨b2,f.cells,42⟩ :: Lf)∧U=R) (Zhc _ 38 hs2) (Z9e rfl) ?_ (fun _ _ _ h=>by cases h.1) ?_;·refine Jx (Uc (show _=Value.int _ _ from g28)) rfl ?_;exact J6 ⟨rfl,⟨rfl,g5,g2⟩,rfl,rfl⟩
 rintro e a1 W1 t1 L1 R1 ⟨rfl,⟨ht6,ht5,ht2⟩,rfl,rfl⟩ hf1 h1;refine ⟨_,run_beginRound h1.lp rfl,?_⟩;have h2:=At2.put hh za Jua (Jua (cd:=(Jee (Tryz.f27.body.getD .skip))) (fn:=fn) (T:=T) (D:=w0.heap.size) (st:=.busy)) h1;show (Code.block _ _).wpIn _ _ _ _ _ _;refine wpIn_block ?_;refine At2.roundD hh J8a Jua h2 tb (Q:=fun e t M U=>e=.normal∧(⟨bo,[.int .i64 (min o (f.switches.l.getD x.toNat default).shown)],3⟩ :: ⟨b2,f.cells,42⟩ :: Lf).Sublist M) hf1 (Z9e rfl) [] [0,1,2,3,4,5,6,7] [8] [⟨bo,[.int .i64 o],3⟩,⟨b2,f.cells,42⟩] [] K3 zc (List.Sublist.cons_cons _ (List.Sublist.cons_cons _ yd)) yd ?_ (fun _ _ _ h=>by cases h.1) ?_;·refine Ku (Kv tb ht5 rfl rfl zf zb) rfl rfl rfl rfl ?_;refine Ku (K7 tb rfl (show _=Value.pointer (some ⟨b2,0,none⟩) from ht2) rfl) rfl rfl rfl rfl ?_;apply (qau);refine Ku (Jt (v:=.int .i64 x) ht6) rfl rfl rfl rfl ?_;refine Ku (Jf tb rfl rfl rfl rfl hsR (i:=x.toNat) za za) rfl rfl rfl rfl ?_;apply (qcv);refine Ku (Yv tb rfl rfl rfl hsR hg rfl) rfl rfl rfl rfl ?_;refine Ku (Zib rfl rfl) rfl rfl rfl rfl ?_;apply (qba);refine Zi (v:=Value.int _ _) rfl (show _=Value.pointer (some ⟨bo,0,none⟩) from ht5) rfl rfl zy rfl rfl zb yd ?_;exact Jz ⟨rfl,yx _⟩
 rintro e a3 W3 t3 L3 R3 ⟨rfl,hsub⟩ hf3 h3;have h4:At2 _ _ _ _ _ _ _ _ _:=⟨h3.st.weak hsub ztb,h3.df,h3.lp⟩;exact ⟨_,_,run_endRound none h4.lp,rfl,At2.put hh za Jua Jua h4⟩
def Vzf {fn : FuncId} {T : Array Value} {m : Nat} {f : XFeeder} {bo b2 bs bf : Nat} {L : LB} (hT : T.size = 38) (h5 : T.getD 5 undef = .pointer (some ⟨bo, 0, none⟩)) (h2 : T.getD 2 undef = .pointer (some ⟨b2, 0, none⟩)) (hsR : InR (Vcb f.switches) R) (hu : V6e f.switches.l) {cur : Int} (hc : cur < f.switches.l.length) {W : World}
 (h:At2 w0 Lc G R w0.heap.size K9d (Jmd (Jee (Tryz.f27.body.getD .skip)) fn T w0.heap.size .ready) (⟨bo,[.int .i64 1],3⟩ :: ⟨b2,f.cells,42⟩ :: ⟨bs,[.int .i64 cur],3⟩ :: ⟨bf,f.cells,42⟩ :: L) W):
 CallsIn Fence.wide m Tryz.prog 171 #[.func (.yield (w0.heap.size + 1)) #[] #[],.pointer (some ⟨bs,0,none⟩),.pointer (some ⟨bf,0,none⟩)] W fun e W'=>(∃v,e=.returned v)∧∃(o' c':Int),Kbg f.switches.l (U7a f.switches.l cur) o'∧At2 w0 Lc G R w0.heap.size K9d (Jmd (Jee (Tryz.f27.body.getD .skip)) fn T w0.heap.size .ready) (⟨bo,[.int .i64 o'],3⟩ :: ⟨b2,f.cells,42⟩ :: ⟨bs,[.int .i64 c'],3⟩ :: ⟨bf,f.cells,42⟩ :: L) W':=by
 refine callsIn_of_wp Tryz.func171 rfl trivial ?_ rfl;simp only [Tryz.ntmps171,ygb,yw,yea,Nat.reduceAdd,Nat.reduceSub,yib,yjb,ywb,ynb,yv,yp];refine wpIn_block ?_;refine wpIn_loop (fun a w=>∃(t:Nat→Value) (q:List Int) (o' c':Int),Fr 16 t a∧(t 0=.func (.yield (w0.heap.size + 1)) #[] #[]∧t 1=.pointer (some ⟨bs,0,none⟩)∧t 2=.pointer (some ⟨bf,0,none⟩))∧Kbg f.switches.l q o'∧c' < f.switches.l.length∧U7a f.switches.l cur=q ++ U7a f.switches.l c'∧
  At2 w0 Lc G R w0.heap.size K9d (Jmd (Jee (Tryz.f27.body.getD .skip)) fn T w0.heap.size .ready) (⟨bo,[.int .i64 o'],3⟩ :: ⟨b2,f.cells,42⟩ :: ⟨bs,[.int .i64 c'],3⟩ :: ⟨bf,f.cells,42⟩ :: L) w) (fun _ w=>(Jec w bs + 1).toNat) ?_ ?_
 ·exact ⟨_,[],1,cur,Zhc _ 16 rfl,⟨rfl,rfl,rfl⟩,⟨by decide,fun x hx=>by cases hx⟩,hc,rfl,h⟩
 rintro a w ⟨t,q,o',c',hf,⟨t0,t1,t2⟩,hq,hc',hp,h⟩;have hnum:Jec w bs=c':=by have:=Z4 (b:=bs) (cs:=[.int .i64 c']) (T:=3) h.st (.tail _ (.tail _ (.head _))) 0;rw [Jec,this];rfl
 refine wpIn_seq (wpIn_seq ?_);refine At2.plain hh J8a Jua h (Q:=fun e t' M U=>e=.normal∧((t' 0=.func (.yield (w0.heap.size + 1)) #[] #[]∧t' 1=.pointer (some ⟨bs,0,none⟩)∧t' 2=.pointer (some ⟨bf,0,none⟩))∧t' 5=.bool (decide (0≤c')))∧(⟨bo,[.int .i64 o'],3⟩ :: ⟨b2,f.cells,42⟩ :: ⟨bs,[.int .i64 c'],3⟩ :: ⟨bf,f.cells,42⟩ :: L)=M) hf ?_ ?_;·exact ua7
 rintro e a1 w1 t' L1 R1 ⟨rfl,⟨⟨t0,t1,t2⟩,t5⟩,rfl⟩ hf1 h1;refine wpIn_cond (t:=decide (0≤c')) (by rw [hf1.eval];exact t5) ?_;by_cases h0:0≤c';·
  rw [decide_eq_true h0, if_pos rfl];refine wpIn_skip ?_;refine wpIn_seq (wpIn_block (wpIn_seq ?_));refine wpIn_region_lit ?_;refine Vuf hf1 h1.st (Jt (v:=.func (.yield (w0.heap.size + 1)) #[] #[]) t0) rfl fun a2 hf2=>?_;refine Vuf hf2 h1.st zzc rfl fun a3 hf3=>?_;refine Vrd (v:=.int .i64 c') hf3 rfl rfl rfl (Zwe hh hT h5 h2 hsR ⟨h0,hc'⟩ h1) fun a4 w4 hf4 h4=>?_;refine Vuf hf4 h4.st (V8a rfl) rfl fun a5 hf5=>?_;show Exit.then _ _ Exit.normal _ _;refine wpIn_cond (t:=false) (by rw [hf5.eval];rfl) ?_;rw [if_neg zo];refine wpIn_skip ?_;have hg:=Jw (l:=f.switches.l) (k:=c'.toNat) default za;have ha:=hu c'.toNat za;refine At2.plain hh J8a Jua h4 (Q:=fun e t' M U=>e=.normal∧(t' 0=.func (.yield (w0.heap.size + 1)) #[] #[]∧t' 1=.pointer (some ⟨bs,0,none⟩)∧t' 2=.pointer (some ⟨bf,0,none⟩))∧
   ⟨bo,[.int .i64 (min o' (f.switches.l.getD c'.toNat default).shown)],3⟩ :: ⟨b2,f.cells,42⟩ :: ⟨bs,[.int .i64 (f.switches.l.getD c'.toNat default).above],3⟩ :: ⟨bf,f.cells,42⟩ :: L=M) hf5 ?_ ?_
  ·refine Jh ?_;exact zkd
  rintro e a6 w6 t6 L6 R6 ⟨rfl,ht6,rfl⟩ hf6 h6;have hnum6:Jec w6 bs=(f.switches.l.getD c'.toNat default).above:=by have:=Z4 (b:=bs) (cs:=[.int .i64 (f.switches.l.getD c'.toNat default).above]) (T:=3) h6.st (.tail _ (.tail _ (.head _))) 0;rw [Jec,this];rfl
  refine ⟨⟨t6,q ++ [c'],_,_,hf6,ht6,⟨by have:=hq.1;omega,fun x hx=>?_⟩,by omega,?_,h6⟩,?_⟩;·
   rcases List.mem_append.1 hx with hx | hx;·have:=hq.2 x hx;omega
   ·rw [List.mem_singleton.1 hx];omega
  ·rw [hp,Kqa hu h0 hc',yq];rfl
  ·rw [hnum,hnum6];omega
 ·rw [decide_eq_false h0, if_neg zo];refine wpIn_exit ?_;simp only [Exit.then,Exit.inBlock,if_true];refine ⟨hf1.defers,_,results_none rfl _ _ _,⟨_,rfl⟩,o',c',?_,h1⟩;rw [hp,Kua za,yZ];exact hq
end
def Zje (f:XFeeder) (z:Int) (L:LB) (R:LS) (hf:FeederR f R):
 Tri Tryz.prog 27 [f.val,.int .i64 z].toArray L R (fun v M U=>∃a:Int,v=.int .i64 a∧(feedE f.switches.l f.zones.l f.reply=0→0≤z∧z < f.zones.l.length→Kbg f.switches.l (Kma f.switches.l f.zones.l f.reply (f.zones.l.getD z.toNat 0)) a)∧L=M∧R=U):=by
 refine Tri.raw Tryz.call27 fun w G hh=>(callsIn_wide (n:=5)).1 ?_;refine callsIn_of_wp_marks Tryz.func27 rfl trivial ?_ rfl;simp only [Tryz.ntmps27,ygb,yw,yea,Nat.reduceAdd,Nat.reduceSub,yib,yjb,ywb,ynb,yv,yp];refine wpIn_seq ?_;refine K3e (Zhc _ 38 rfl) (St.init hh) (Q:=fun e t' M U=>e=.normal∧∃b2,(t' 2=.pointer (some ⟨b2,0,none⟩)∧t' 1=.int .i64 z)∧⟨b2,f.cells,42⟩ :: L=M∧U=R) ?_ ?_;·refine Jh ?_;apply (qax);intro b2;apply (qad);exact J6 ⟨rfl,b2,⟨rfl,rfl⟩,rfl,rfl⟩
 rintro e a1 w1 t1 L1 R1 ⟨rfl,b2,⟨g2,g1⟩,rfl,hR1⟩ hf1 hs1;rw [hR1] at hs1;refine wpIn_seq (wpIn_seq ?_);refine K3e hf1 hs1 (Q:=fun e t' M U=>e=.normal∧∃c:Bool,(t' 20=.bool c∧(c=false→feedE f.switches.l f.zones.l f.reply=0∧0≤z∧z < f.zones.l.length)∧(c=true→¬ (feedE f.switches.l f.zones.l f.reply=0∧0≤z∧z < f.zones.l.length)))∧(t' 2=.pointer (some ⟨b2,0,none⟩)∧t' 1=.int .i64 z)∧⟨b2,f.cells,42⟩ :: L=M∧U=R) ?_ ?_;·
  refine Jh ?_;refine Jx (Jm (row:=[_,_,_]) tb g2 rfl rfl zf zb zb) rfl ?_;refine q_l rfl (Vg f _ _ hf) ?_;apply (Xbu);apply J9 (G:=[_,_]) (j:=3) (cj:=10) rfl rfl zb rfl zfb rfl;·intro hg4;replace hg4:=qb hg4;refine Jx (Jt (show _=Value.int _ _ from g1)) rfl ?_;exact zyd
  intro junk4;apply (qah);apply J9 (G:=[_,_,_,_,_]) (j:=7) (cj:=14) rfl rfl zb rfl zfb rfl;·intro hg8;replace hg8:=qb hg8;refine Jx (Jt (show _=Value.int _ _ from g1)) rfl ?_;refine Jx (K7 tb rfl (show _=Value.pointer (some ⟨b2,0,none⟩) from g2) rfl) rfl ?_;exact (Xcz) zjd
  intro junk8;refine J6 ⟨rfl,_,⟨rfl,?_,?_⟩,⟨g2,g1⟩,rfl,rfl⟩;·intro h;simp at h;omega
  ·intro h;simp at h;omega
 rintro e a2 w2 t2 L2 R2 ⟨rfl,cb,⟨g20,hcf,hct⟩,⟨k2,k1⟩,rfl,hR2⟩ hf2 hs2;rw [hR2] at hs2;refine wpIn_cond (t:=cb) (by rw [hf2.eval];exact g20) ?_;cases cb with
 | true=>
  rw [if_pos rfl];refine K3e hf2 hs2 (Q:=fun e t' M U=>e=.ret∧t' 4=.int .i64 0∧⟨b2,f.cells,42⟩ :: L=M∧U=R) ?_ ?_;·refine Jr (Jh ?_);apply (qad);exact J6 (Jc (U4 ⟨rfl,rfl,rfl,rfl⟩))
  rintro e a3 w3 t3 L3 R3 ⟨rfl,h4,rfl,hR3⟩ hf3 hs3;rw [hR3] at hs3;have hs3:=hs3.weak (yja _ _) ztb;show LeavesInM _ _ _ _ _ _ a3.defers _ _;rw [hf3.defers];refine ⟨_,results_tmp rfl _ _ _,?_⟩;rw [hf3.val,h4];exact ⟨_,_,_,rfl,⟨0,rfl,fun h1 h2=>absurd ⟨h1,h2⟩ (hct rfl),rfl,rfl⟩,hs3⟩
 | false=>
  obtain ⟨hfe,hz⟩:=hcf rfl;have hok:=Vq hfe;have hzR:=hf.zn;rw [if_neg ze];refine wpIn_skip ?_;refine wpIn_seq ?_;refine K3e hf2 hs2 (Q:=fun e t' M U=>e=.normal∧∃bo,(t' 5=.pointer (some ⟨bo,0,none⟩)∧t' 2=.pointer (some ⟨b2,0,none⟩)∧t' 1=.int .i64 z)∧⟨bo,[.int .i64 1],3⟩ :: ⟨b2,f.cells,42⟩ :: L=M∧U=R) ?_ ?_;·refine Jh ?_;apply (qaq);intro b5;apply (qcn);exact J6 ⟨rfl,b5,⟨rfl,k2,k1⟩,rfl,rfl⟩
  rintro e a3 w3 t3 L3 R3 ⟨rfl,bo,⟨j5,j2,j1⟩,rfl,hR3⟩ hf3 hs3;rw [hR3] at hs3;refine wpIn_seq (wpIn_seq ?_);refine K3e hf3 hs3 (Q:=fun e t' M U=>e=.normal∧∃bs bf,(t' 27=.func (.func 171) #[] #[.pointer (some ⟨bs,0,none⟩),.pointer (some ⟨bf,0,none⟩)]∧t' 5=.pointer (some ⟨bo,0,none⟩)∧t' 2=.pointer (some ⟨b2,0,none⟩))∧⟨bs,[.int .i64 (f.zones.l.getD z.toNat 0)],3⟩ :: ⟨bf,f.cells,42⟩ :: ⟨bo,[.int .i64 1],3⟩ :: ⟨b2,f.cells,42⟩ :: L=M∧U=R) ?_ ?_;·refine Kp tb [0,1,2,3,4,5,6] _ K3 zc ye ?_;have hzg:=Jw (l:=f.zones.l) (k:=z.toNat) 0 za;refine K2 (Jm (row:=[_,_,_]) tb j2 rfl rfl zf zb zb) rfl rfl rfl ?_;refine K2 (K7 tb rfl (show _=Value.pointer (some ⟨b2,0,none⟩) from j2) rfl) rfl rfl rfl ?_;apply (qat);refine K2 (Jt (show _=Value.int _ _ from j1)) rfl rfl rfl ?_;refine K2 (Jf tb rfl rfl rfl rfl hzR (i:=z.toNat) za za) rfl rfl rfl ?_;apply (qbl);refine Yj rfl (Kuc f _ _ _) rfl rfl ?_;rintro v M U ⟨bs,bf,rfl,rfl,rfl⟩;apply (qa1);exact Jz ⟨rfl,bs,bf,⟨rfl,j5,j2⟩,rfl,rfl⟩
  rintro e a4 w4 t4 L4 R4 ⟨rfl,bs,bf,⟨i27,i5,i2⟩,rfl,hR4⟩ hf4 hs4;rw [hR4] at hs4;refine wpIn_block (wpIn_rangeFunc ?_);intro fn hfn;obtain ⟨T,hT⟩:∃T,T=a4.tmps:=⟨_,rfl⟩;have hTs:T.size=38:=by rw [hT];exact hf4.size
  have hT5:T.getD 5 undef=.pointer (some ⟨bo,0,none⟩):=by rw [hT,hf4.val];exact i5
  have hT2:T.getD 2 undef=.pointer (some ⟨b2,0,none⟩):=by rw [hT,hf4.val];exact i2
  obtain ⟨G4,hh4,hg4⟩:=hs4.G;obtain ⟨W5,hW5⟩:∃W5,(w4.alloc K9d).alloc (Jmd (Jee (Tryz.f27.body.getD .skip)) fn T w4.heap.size .ready)=W5:=⟨_,rfl⟩;have hA:=At2.of hh4 (M:=⟨bo,[.int .i64 1],3⟩ :: ⟨b2,f.cells,42⟩ :: ⟨bs,[.int .i64 (f.zones.l.getD z.toNat 0)],3⟩ :: ⟨bf,f.cells,42⟩ :: L) (by have:=(yAa (l₁:=([⟨bs,[.int .i64 (f.zones.l.getD z.toNat 0)],3⟩,⟨bf,f.cells,42⟩]:LB)) (l₂:=([⟨bo,[.int .i64 1],3⟩,⟨b2,f.cells,42⟩]:LB))).append_right L;exact this) J8a (Jua (cd:=(Jee (Tryz.f27.body.getD .skip))) (fn:=fn) (T:=T) (D:=w4.heap.size) (st:=.ready));rw [hW5] at hA;have hzl:=hok.zr z.toNat za;refine ⟨w4.heap.size + 1,[{ target:=.collected w4.heap.size,args:=#[] }],W5,{ target:=.fn (.func 171) #[.pointer (some ⟨bs,0,none⟩),.pointer (some ⟨bf,0,none⟩)],args:=#[.func (.yield (w4.heap.size + 1)) #[] #[]] },W5,171,
   #[.func (.yield (w4.heap.size + 1)) #[] #[],.pointer (some ⟨bs,0,none⟩),.pointer (some ⟨bf,0,none⟩)],W5,?_,?_,fun _ _=>trivial,?_,fun h=>zC,?_⟩
  ·rw [← hT,← hW5];exact run_enterLoop_outer fn T #[28] _ _
  ·rw [hf4.eval];simp [resolve,go_sem,ev,i27]
  ·simp [invoke,go_sem,Tryz.call171]
  ·refine (Vzf hh4 hTs hT5 hT2 hf.sw hok.up za hA).mono ?_;rintro e W2 ⟨⟨v0,rfl⟩,o',c',hlv,h2⟩;have hend:=run_endLoop (P:=Tryz.prog) h2.lp (by simp [Klc]);have h3:=At2.put hh4 (yl _) Jua (ol':=.loop { Klc (Jee (Tryz.f27.body.getD .skip)) fn T w4.heap.size .ready with state:=.exhausted }) ⟨fun c t f h=>zC,fun es ck h=>zC⟩ h2;obtain ⟨W3,hW3⟩:∃W3,W2.putObj (w4.heap.size + 1) (.loop { Klc (Jee (Tryz.f27.body.getD .skip)) fn T w4.heap.size .ready with state:=.exhausted })=W3:=⟨_,rfl⟩;rw [hW3] at hend h3;have hd3:=h3.df;have st3:=h3.st;refine ⟨none,W3,hend,?_⟩;refine wpIn_seq ?_;refine wpIn_region_lit ?_;refine Z6f (t:=t4) hf4.eval st3 (Kv tb i5 rfl rfl zf zb) ?_;have hf5:=hf4.put (d:=some 37) zb (Value.int .i64 o');refine Z6f (t:=upd t4 37 (.int .i64 o')) hf5.eval st3 (Uc zgb) ?_;have hf6:=hf5.put (d:=some 4) zb (Value.int .i64 o');refine wpListIn_nil (wpIn_ret ?_);have st4:=(st3.put hh4 hd3 J8a (o':=.deferred none) ⟨fun c t f h=>zC,fun es ck h=>zC⟩ (yl _)).weak (M:=L) (.cons _ (.cons _ (.cons _ (yja _ _)))) ztb;refine ⟨by simp,.inl ⟨_,_,rfl,run_takeDeferred hd3,?_⟩⟩;rw [hf4.defers];refine ⟨_,results_tmp rfl _ _ _,?_⟩;have hv:=hf6.val 4;refine ⟨_,L,R,congrArg Ending.returned hv,⟨o',rfl,fun _ _=>?_,rfl,rfl⟩,hs4.trans hg4 st4⟩;rw [Kma,if_neg za];exact hlv
def Jbc (sw : List XSwitch) : Nat → Nat
 | 0=>0
 | k + 1=>if (sw.getD k default).above < 0∧(sw.getD k default).late=true then Jbc sw k + 1 else Jbc sw k
def Ykd (sw : List XSwitch) : ∀ k, Jbc sw k ≤ k
 | 0=>yl _
 | k + 1=>by have:=Ykd sw k;rw [Jbc];split <;> omega
def Zwd (f:XFeeder) (L:LB) (R:LS) (hf:FeederR f R):
 Tri Tryz.prog 28 [f.val].toArray L R (fun v M U=>∃p:OwL Int,v=p.val∧p.ok 1 Jo∧(feedE f.switches.l f.zones.l f.reply=0→p.l.length=Jbc f.switches.l f.switches.l.length)∧p.L 3 Jo ++ L=M∧R=U):=by
 have hsR:=hf.sw;refine Zba Tryz.call28 hsR fun hcap=>?_;refine Jj 30 Tryz.call28 Tryz.func28 rfl rfl rfl ?_;apply (Xaf);intro b1;apply (Xb0);refine Jx zkb rfl ?_;refine q_l rfl (Vg f _ _ hf) ?_;apply (Xao);refine q_c ?_ ?_<;>intro hc0;·apply Xck∘qbh;refine q_r L R zUc ?_;exact ⟨.nil,rfl,OwL.nil_ok,fun h=>absurd h hc0,by rw [Ki];rfl,rfl⟩
 have hok:=Vq (sw:=f.switches.l) (zn:=f.zones.l) (rp:=f.reply) za;have hsn:=hok.sn;apply qbv∘Xb0∘Xaw;refine Jp [(3,.slice _ _ _),(10,.slice _ _ _),(11,.int _ _),(12,.int _ _)] zh fun tq0=>?_;refine Vx ([3,4,5]++rg 12 17) ((⟨fun g=>[(12,.int .i64 ((g.1.1:Nat):Int)),(3,g.1.2.val)],fun g=>g.1.2.L 3 Jo ++ (⟨b1,f.cells,42⟩ :: L),fun _=>R,fun g=>f.switches.l.length - g.1.1⟩:Head {g:Nat×OwL Int // g.1≤f.switches.l.length∧g.2.ok 1 Jo∧g.2.l.length=Jbc f.switches.l g.1})) (⟨(0,OwL.nil),yT _,OwL.nil_ok,rfl⟩) zh zla ztb ?_;rintro ⟨⟨k,q⟩,hk,hqk,hql⟩ junk;try dsimp only
 dsimp only at hk hqk hql;have hfl:=Ykd f.switches.l k;apply (Xak);refine q_c ?_ ?_<;>intro hc1;·
  have hg:=Jw (l:=f.switches.l) (k:=k) default za;apply (Xa0);refine Jx zB rfl ?_;apply (Xdg);intro b5;apply qad∘Xay∘Xbc;apply Ui (G:=[_,_]) (j:=3) (cj:=20) rfl rfl zb rfl zfb rfl;·intro hg4;replace hg4:=qb hg4;exact (Xaa) qai
  intro junk4;apply (qaf);refine q_c ?_ ?_<;>intro hc2;·apply Xb3∘qcx;rintro v M U ⟨b26,rfl,rfl,hR26⟩;replace hR26:=hR26.symm;subst hR26;refine Jqa (Kb (f:=Jo) (p:=q) (a:=(k:Int)) tb rfl rfl rfl rfl (hqk) zj zxb rfl zA) rfl ?_;rintro v M U ⟨o27,rfl,hok27,rfl,rfl⟩;apply qc4∘Xa7;exact q_k ⟨(k + 1,⟨_,_⟩),by dsimp only;omega,by assumption,by dsimp only;rw [yo,Jbc,if_pos hc2,hql];rfl⟩
  apply (Xax);exact q_k ⟨(k + 1,q),by dsimp only;omega,hqk,by dsimp only;rw [Jbc,if_neg (by first | exact hc2 | (intro h;rcases hc2 with h2 | h2;exact h2 h.1;rw [h.2] at h2;cases h2)),hql]⟩
 obtain rfl:k=f.switches.l.length:=by omega
 apply Xcs∘Xcl;refine q_r (q.L 3 Jo ++ L) R zUc ?_;exact ⟨q,rfl,hqk,fun _=>hql,rfl,rfl⟩
end Go.Proofs.YtchfclmokpbldaaGreat
