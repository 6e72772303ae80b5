/-
  Merged texts. By an AI agent.
-/
import Derived.Test.YtchfclmokpbldaaGreatRoundA
import Derived.OwnWalkIn
import Derived.LoopNIn
import Derived.Test.YtchfclmokpbldaaGreatFits
set_option linter.all false
set_option maxHeartbeats 4000000
set_option maxRecDepth 20000
variable{A B:Prop}
namespace Go.Proofs.YtchfclmokpbldaaGreat
open Go.Aw Go Go.Proofs.Tryz
section
attribute [local irreducible] cQ dF dV aM cP eC e5 e1 e2 e6 eX e4 J.L
def Ng(Y:List bS):Nat->Int->List Int
 |0,_=>[]
 |n+1,s=>if s<0 then[]else s::Ng Y n (Y.getD s.toNat default).bG
def CY(Y:List bS)(s:Int):List Int:=Ng Y (s+1).toNat s
def ZA(Y:List bS):Prop:=∀i:Nat,i<Y.length->-1<=(Y.getD i default).bG/\(Y.getD i default).bG<i
def aWt{Y:List bS}(h:ZA Y):∀(n:Nat) (s:Int),s<Y.length->(s+1).toNat<=n->Ng Y n s=CY Y s:=by
 intro n;induction n using Nat.strongRecOn with
 |_ n c6=>
  intro s aH b1;by_cases b2:s<0;·
   rw[CY,show(s+1).toNat=0 by omega];cases n with
   |zero=>rfl
   |succ n=>show(if s<0 then[]else _)=([]:List Int);rw[if_pos b2]
  ·obtain⟨k,rfl⟩: ∃k,n=k+1:=⟨n-1,by omega⟩;have bT:=h s.toNat D;rw[CY,show(s+1).toNat=s.toNat+1 by omega,Ng,Ng,if_neg D,if_neg D,c6 k D _ D D,c6 s.toNat D _ D D]
def Kp{Y:List bS}{s:Int}(h:s<0):CY Y s=[]:=by rw[CY,show(s+1).toNat=0 by omega];rfl
def Jq{Y:List bS}(h:ZA Y){s:Int}(b2:0<=s)(O:s<Y.length):CY Y s=s::CY Y (Y.getD s.toNat default).bG:=by have bT:=h s.toNat D;rw[CY,show(s+1).toNat=s.toNat+1 by omega,Ng,if_neg D,aWt h _ _ D D]
def a56{Y:List bS}(h:ZA Y):∀(n:Nat) (s:Int),s<Y.length->(s+1).toNat<=n->(CY Y s).length<=n:=by
 intro n;induction n with
 |zero=>intro s _ b1;rw[Kp D];exact iK _
 |succ n c6=>
  intro s aH b1;by_cases b2:s<0;·rw[Kp b2];simp
  ·have bT:=h s.toNat D;rw[Jq h D aH,wD];have:=c6 (Y.getD s.toNat default).bG D D;omega
def a5E(c:Code):Code:=match c with
 | .seq _ (.seq (.seq _ (.block _ (.rangeFunc _ _ x _))) _)=>x
 |_=>.skip
def a6W(c:Code):Code:=match c with
 | .seq _ (.seq (.seq _ (.block _ (.rangeFunc _ _ _ x))) _)=>x
 |_=>.skip
def Ps(tH x:Value)(B:Nat):Array Value:=#[.slice none 0 0,tH,.pointer (some ⟨B,0,none⟩),undef,.slice none 0 0,undef,tH,x,undef,undef,undef,undef,undef]
def Js(SZ:Code)(fn:FuncId)(tH:Value)(B:Nat)(hZ:LoopState):Loop:={state:=hZ,pending:=none,fn,tmps:=Ps tH undef B,params:=#[7],assign:=a5E SZ,body:=a6W SZ,defers:=B+1}
def V4(SZ:Code)(fn:FuncId)(tH:Value)(B:Nat)(hZ:LoopState):Obj:=.loop (Js SZ fn tH B hZ)
def RS{SZ fn tH B hZ}:D2 (V4 SZ fn tH B hZ):=⟨λc t f h=>MJ,λC4 h7 h=>MJ⟩
def VC:Obj:=.deferred (some [])
def Kq:D2 VC:=⟨λc t f h=>MJ,λC4 h7 h=>MJ⟩
def aJU(t:Array Value)(n:Nat)(h:t.size=n):mS n (λk=>t.getD k undef) {tmps:=t,defers:=[]}:=⟨rfl,h,λ_=>rfl⟩
def aE1(o:Oper):Bool:=match o.op with
 | .defer _=>true
 |_=>false
def aG3{ops:List Oper}(h:ops.any aE1=false):∀o∈ops,∀c,o.op≠.defer c:=λo dG c e=>by
 have:=List.any_eq_false.1 h o dG
 rw[aE1,e]at this
 exact this rfl
section
variable{gV:World}{cW:aR}{Z:Nat->Prop}{R:aO}(b4:sZ cW Z R gV)
include b4
def aY5{fn:FuncId}{tH:Value}{m:Nat}{Zj:aR}{p:J Int}(bH:p.ok 1 a1)(vN:p.l.length<=1000000)(x:Int){jI:World}(h:u3 gV cW Z R (gV.heap.size+1) VC (V4 (f170.body.getD .skip) fn tH gV.heap.size .ready) (⟨gV.heap.size,[p.val],40⟩::(p.L 3 a1++Zj)) jI):
 YieldAt Fence.wide m prog (gV.heap.size+1+1) #[.int .i64 x] jI λe yV=>e=.returned (.bool true)/\∃o,(⟨o,p.l++[x]⟩:J Int).ok 1 a1/\u3 gV cW Z R (gV.heap.size+1) VC (V4 (f170.body.getD .skip) fn tH gV.heap.size .ready) (⟨gV.heap.size,[(⟨o,p.l++[x]⟩:J Int).val],40⟩::((⟨o,p.l++[x]⟩:J Int).L 3 a1++Zj)) yV:=by
 refine⟨fn,Ps tH (.int .i64 x) gV.heap.size,(a5E (f170.body.getD .skip)),(a6W (f170.body.getD .skip)),(by have:=run_yield (P:=prog) (args:=#[.int .i64 x]) (r:=Js (f170.body.getD .skip) fn tH gV.heap.size .ready) h.T0 rfl;simpa[Js,Ps]using this),roundIn_of_wpIn trivial ?_⟩;refine u3.round b4 Kq RS h (t:=λk=>(Ps tH (.int .i64 x) gV.heap.size).getD k undef) (Q:=λe t E G=>e=.normal/\(t 5=.int .i64 x/\t 2=.pointer (some ⟨gV.heap.size,0,none⟩))/\E=(⟨gV.heap.size,[p.val],40⟩::(p.L 3 a1++Zj))/\G=R) (aJU _ 13 rfl) (aG3 rfl) ?_ (λ_ _ _ h=>by cases h.1) ?_;·refine aI (FB Ie) rfl ?_;exact eZ ⟨rfl,⟨rfl,rfl⟩,rfl,rfl⟩
 rintro e k7 Dm Bn U6 gS ⟨rfl,⟨b5y,aNh⟩,rfl,rfl⟩ C8 O;refine⟨_,run_beginRound O.T0 rfl,?_⟩;have X:=u3.put b4 D RS (RS (SZ:=(f170.body.getD .skip)) (fn:=fn) (tH:=tH) (B:=gV.heap.size) (hZ:=.busy)) O;show(Code.block _ _).wpIn _ _ _ _ _ _;refine wpIn_block ?_;refine u3.round b4 Kq RS X (Q:=λe t E G=>e=.normal/\∃o,(⟨o,p.l++[x]⟩:J Int).ok 1 a1/\(⟨gV.heap.size,[(⟨o,p.l++[x]⟩:J Int).val],40⟩::((⟨o,p.l++[x]⟩:J Int).L 3 a1++Zj)).Sublist E) C8 (aG3 rfl) ?_ (λ_ _ _ h=>by cases h.1) ?_;·refine aI (MS N aNh rfl rfl n0 aB) rfl ?_;refine aI (CH (v:=.int .i64 x) b5y) rfl ?_;apply(GU);rintro v E G ⟨a1G,rfl,rfl,B0⟩;replace B0:=B0.symm;subst B0;refine hT (pO (f:=a1) (a:=x) N rfl rfl rfl rfl bH cF p2 rfl D) rfl ?_;rintro v E G ⟨o,rfl,Uc,rfl,rfl⟩;refine Rm (v:=Value.slice _ _ _) N rfl aNh rfl rfl sX rfl rfl aB ?_;exact eZ ⟨rfl,o,Uc,a3n _ _⟩
 rintro e m4 Qv bAV b8x oV ⟨rfl,o,b4w,lU⟩ Z1 aU;have cK:u3 _ _ _ _ _ _ _ _ _:=⟨aU.hZ.tI lU eN,aU.Lh,aU.T0⟩;exact⟨_,_,run_endRound none cK.T0,rfl,o,b4w,u3.put b4 D RS RS cK⟩
def Ry(w:World)(b:Nat):Int:=match w.cell? ⟨b,0,none⟩with
 |some (.int _ n)=>n
 |_=>-1
def aWA{fn:FuncId}{tH:Value}{m:Nat}{f:hJ}{nV rA:Nat}{L:aR}(jB:aL (s4 f.aZ) R)(dL:ZA f.aZ.l)(b1:f.aZ.l.length<=1000){Lg:Int}(cG:Lg<f.aZ.l.length){jI:World}{p:J Int}(aG:p.ok 1 a1)(eI:p.l=[])
 (h:u3 gV cW Z R (gV.heap.size+1) VC (V4 (f170.body.getD .skip) fn tH gV.heap.size .ready) (⟨gV.heap.size,[p.val],40⟩::(p.L 3 a1++(⟨nV,[.int .i64 Lg],3⟩::⟨rA,f.cells,42⟩::L))) jI):
 CallsIn Fence.wide m prog 171 #[.func (.yield (gV.heap.size+1+1)) #[] #[],.pointer (some ⟨nV,0,none⟩),.pointer (some ⟨rA,0,none⟩)] jI λe yV=>(∃v,e=.returned v)/\∃(q:J Int) (pT:Int),q.ok 1 a1/\q.l=CY f.aZ.l Lg/\
  u3 gV cW Z R (gV.heap.size+1) VC (V4 (f170.body.getD .skip) fn tH gV.heap.size .ready) (⟨gV.heap.size,[q.val],40⟩::(q.L 3 a1++(⟨nV,[.int .i64 pT],3⟩::⟨rA,f.cells,42⟩::L))) yV:=by
 refine callsIn_of_wp func171 rfl trivial ?_ rfl;simp only[ntmps171,aCz,wD,UH,Nat.reduceAdd,Nat.reduceSub,Array.replicate_succ,Array.replicate_zero,List.push_toArray,List.append_toArray,nN,pK];refine wpIn_block ?_;refine wpIn_loop (λa w=>∃(t:Nat->Value) (q:J Int) (pT:Int),mS 16 t a/\(t 0=.func (.yield (gV.heap.size+1+1)) #[] #[]/\t 1=.pointer (some ⟨nV,0,none⟩)/\t 2=.pointer (some ⟨rA,0,none⟩))/\q.ok 1 a1/\(-1<=pT\/True)/\pT<f.aZ.l.length/\CY f.aZ.l Lg=q.l++CY f.aZ.l pT/\
  u3 gV cW Z R (gV.heap.size+1) VC (V4 (f170.body.getD .skip) fn tH gV.heap.size .ready) (⟨gV.heap.size,[q.val],40⟩::(q.L 3 a1++(⟨nV,[.int .i64 pT],3⟩::⟨rA,f.cells,42⟩::L))) w) (λ_ w=>(Ry w nV+1).toNat) ?_ ?_
 ·exact⟨_,p,Lg,aJU _ 16 rfl,⟨rfl,rfl,rfl⟩,aG,.inr trivial,cG,by rw[eI];rfl,h⟩
 rintro a w ⟨t,q,pT,aF,⟨kZ,Bn,a27⟩,aG,_,ZY,aP,h⟩;have a2j:Ry w nV=pT:=by have:=VD (b:=nV) (cs:=[.int .i64 pT]) (T:=3) h.hZ (OV _ (lZ _ Ht)) 0;rw[Ry,this];rfl
 refine wpIn_seq (wpIn_seq ?_);refine u3.plain b4 Kq RS h (Q:=λe t' E G=>e=.normal/\((t' 0=.func (.yield (gV.heap.size+1+1)) #[] #[]/\t' 1=.pointer (some ⟨nV,0,none⟩)/\t' 2=.pointer (some ⟨rA,0,none⟩))/\t' 5=.bool (decide (0<=pT)))/\(⟨gV.heap.size,[q.val],40⟩::(q.L 3 a1++(⟨nV,[.int .i64 pT],3⟩::⟨rA,f.cells,42⟩::L)))=E) aF ?_ ?_;·refine c2 ?_;refine aI (MS N Bn rfl rfl n0 aB) rfl ?_;apply(GQ);exact eZ ⟨rfl,⟨⟨kZ,Bn,a27⟩,rfl⟩,rfl⟩
 rintro e k7 rG t' U6 gS ⟨rfl,⟨⟨kZ,Bn,a27⟩,b68⟩,rfl⟩ C8 O;refine wpIn_cond (t:=decide (0<=pT)) (by rw[C8.eval];exact b68) ?_;by_cases b2:0<=pT;·
  rw[decide_eq_true b2,if_pos rfl];refine wpIn_skip ?_;refine wpIn_seq (wpIn_block (wpIn_seq ?_));refine wpIn_region_lit ?_;refine a5T C8 O.hZ (CH (v:=.func (.yield (gV.heap.size+1+1)) #[] #[]) kZ) rfl λlJ vL=>?_;refine a5T vL O.hZ (MS N Bn rfl rfl n0 aB) rfl λm4 Z1=>?_;have aMY:q.l.length<=1000000:=by have:=a56 dL _ Lg cG (iK _);rw[aP,l9]at this;omega
  refine aYe (v:=.int .i64 pT) Z1 rfl rfl rfl (aY5 b4 aG aMY pT O) λvG KM b3o ⟨o,aAf,cK⟩=>?_;refine a5T b3o cK.hZ (NQ rfl) rfl λJW Z2=>?_;show Exit.then _ _ Exit.normal _ _;refine wpIn_cond (t:=false) (by rw[Z2.eval];rfl) ?_;rw[if_neg g2];refine wpIn_skip ?_;have b7:=bJ (l:=f.aZ.l) (k:=pT.toNat) default D;have bT:=dL pT.toNat D;refine u3.plain b4 Kq RS cK (Q:=λe t' E G=>e=.normal/\(t' 0=.func (.yield (gV.heap.size+1+1)) #[] #[]/\t' 1=.pointer (some ⟨nV,0,none⟩)/\t' 2=.pointer (some ⟨rA,0,none⟩))/\
   ⟨gV.heap.size,[(⟨o,q.l++[pT]⟩:J Int).val],40⟩::((⟨o,q.l++[pT]⟩:J Int).L 3 a1++(⟨nV,[.int .i64 (f.aZ.l.getD pT.toNat default).bG],3⟩::⟨rA,f.cells,42⟩::L))=E) Z2 ?_ ?_
  ·refine c2 ?_;refine aI (a5Q N rfl (show _=Value.pointer (some ⟨rA,0,none⟩)from a27) rfl) rfl ?_;apply(kP);refine aI (MS N (show _=Value.pointer (some ⟨nV,0,none⟩)from Bn) rfl rfl n0 aB) rfl ?_;refine aI (j4 N rfl rfl rfl rfl jB (i:=pT.toNat) D D) rfl ?_;apply(l6);refine aI (aKY N rfl rfl rfl jB b7 rfl) rfl ?_;refine Rm (v:=Value.int _ _) N rfl (show _=Value.pointer (some ⟨nV,0,none⟩)from Bn) rfl rfl sX rfl rfl aB ?_;exact eZ ⟨rfl,⟨kZ,Bn,a27⟩,rfl⟩
  rintro e b8A Nh b69 b8y b8z ⟨rfl,b5z,rfl⟩ b3p i7;have b4l:Ry Nh nV=(f.aZ.l.getD pT.toNat default).bG:=by have:=VD (b:=nV) (cs:=[.int .i64 (f.aZ.l.getD pT.toNat default).bG]) (T:=3) i7.hZ (OV _ (lZ _ Ht)) 0;rw[Ry,this];rfl
  refine⟨⟨b69,⟨o,q.l++[pT]⟩,_,b3p,b5z,aAf,.inr trivial,by omega,?_,i7⟩,?_⟩;·rw[aP,Jq dL b2 ZY,oB];rfl
  ·rw[a2j,b4l];omega
 ·rw[decide_eq_false b2,if_neg g2];refine wpIn_exit ?_;simp only[Exit.then,Exit.inBlock,if_true];refine⟨C8.defers,_,results_none rfl _ _ _,⟨_,rfl⟩,q,pT,aG,?_,O⟩;rw[aP,Kp D,GZ]
end
def aUd(f:hJ)(s:Int)(nV rA:Nat)(L:aR)(R:aO)(jB:aL (s4 f.aZ) R)(dL:ZA f.aZ.l)(b1:f.aZ.l.length<=1000)(cG:s<f.aZ.l.length):
 aM prog 170 [.slice none 0 0,.func (.func 171) #[] #[.pointer (some ⟨nV,0,none⟩),.pointer (some ⟨rA,0,none⟩)]].toArray (⟨nV,[.int .i64 s],3⟩::⟨rA,f.cells,42⟩::L) R
  (λv E G=>∃(q:J Int) (pT:Int),v=q.val/\q.ok 1 a1/\q.l=CY f.aZ.l s/\q.L 3 a1++(⟨nV,[.int .i64 pT],3⟩::⟨rA,f.cells,42⟩::L)=E/\R=G):=by
 refine aM.p0 call170 λw Z b4=>(callsIn_wide (n:=5)).1 ?_;refine callsIn_of_wp_marks func170 rfl trivial ?_ rfl;simp only[ntmps170,aCz,wD,UH,Nat.reduceAdd,Nat.reduceSub,Array.replicate_succ,Array.replicate_zero,List.push_toArray,List.append_toArray,nN,pK]
 gi_wp2
 refine wpIn_rangeFunc ?_;intro fn AP;obtain⟨tH,AX⟩:∃tH:Value,tH=.func (.func 171) #[] #[.pointer (some ⟨nV,0,none⟩),.pointer (some ⟨rA,0,none⟩)]:=⟨_,rfl⟩;obtain⟨Y1,Lp⟩:∃Y1,w.alloc (.cells #[.slice none 0 0] 40)=Y1:=⟨_,rfl⟩;have Mg:Y1.heap.size=w.heap.size+1:=by rw[<-Lp];simp
 have aOw:dQ ⟨w,zF (⟨nV,[.int .i64 s],3⟩::⟨rA,f.cells,42⟩::L),Z⟩ (⟨w.heap.size,[.slice none 0 0],40⟩::⟨nV,[.int .i64 s],3⟩::⟨rA,f.cells,42⟩::L) R Y1:=by rw[<-Lp];exact(dQ.XB b4).alloc #[.slice none 0 0] 40
 rw[Lp];obtain⟨Dm,a9c⟩:∃Dm,(Y1.alloc VC).alloc (V4 (f170.body.getD .skip) fn tH w.heap.size .ready)=Dm:=⟨_,rfl⟩;have gE:u3 w (⟨nV,[.int .i64 s],3⟩::⟨rA,f.cells,42⟩::L) Z R (w.heap.size+1) VC (V4 (f170.body.getD .skip) fn tH w.heap.size .ready) (⟨w.heap.size,[(J.nil:J Int).val],40⟩::((J.nil:J Int).L 3 a1++(⟨nV,[.int .i64 s],3⟩::⟨rA,f.cells,42⟩::L))) Dm:=by
  rw[<-a9c];refine⟨(by rw[mE,nN];exact(aOw.aLp Kq).aLp RS),?_,?_⟩;·rw[<-Mg];exact(aYF _ _ _ g2).trans (World.alloc_heap_new Y1 _)
  ·have:=World.alloc_heap_new (Y1.alloc VC) (V4 (f170.body.getD .skip) fn tH w.heap.size .ready);rwa[World.size_alloc,Mg]at this
 refine⟨w.heap.size+1+1,[{target:=.collected (w.heap.size+1),args:=#[]}],Dm,{target:=.fn (.func 171) #[.pointer (some ⟨nV,0,none⟩),.pointer (some ⟨rA,0,none⟩)],args:=#[.func (.yield (w.heap.size+1+1)) #[] #[]]},Dm,171,
  #[.func (.yield (w.heap.size+1+1)) #[] #[],.pointer (some ⟨nV,0,none⟩),.pointer (some ⟨rA,0,none⟩)],Dm,?_,?_,λ_ _=>trivial,?_,λh=>MJ,?_⟩
 ·have:=run_enterLoop_outer (P:=prog) (w:=Y1) fn (Ps tH undef w.heap.size) #[7] (a5E (f170.body.getD .skip)) (a6W (f170.body.getD .skip));rw[Mg]at this;rw[<-a9c,AX];rw[AX]at this;exact this
 ·simp[resolve,go_sem]
 ·simp[invoke,go_sem,call171]
 ·
  refine(aWA b4 jB dL b1 cG J.iJ rfl gE).mono ?_;rintro e aYN ⟨⟨Wa,rfl⟩,q,pT,aG,cJ,X⟩;have aMi:=run_endLoop (P:=prog) X.T0 (by simp[Js]);have aU:=u3.put b4 D RS (a2X:=.loop {Js (f170.body.getD .skip) fn tH w.heap.size .ready with state:=.exhausted}) ⟨λc t f h=>MJ,λC4 h7 h=>MJ⟩ X;obtain⟨Qv,aL1⟩:∃Qv,aYN.putObj (w.heap.size+1+1) (.loop {Js (f170.body.getD .skip) fn tH w.heap.size .ready with state:=.exhausted})=Qv:=⟨_,rfl⟩;rw[aL1]at aMi aU;have dX:Qv.cell? ⟨w.heap.size,0,none⟩=some q.val:=VD (b:=w.heap.size) (cs:=[q.val]) (T:=40) aU.hZ Ht 0;have aMe:=aU.Lh;have b64:=aU.hZ;clear aL1 aU X gE a9c aOw Lp;refine⟨none,Qv,aMi,?_⟩
  gi_wp2
  have b65:=(b64.put b4 aMe Kq (o':=.deferred none) ⟨λc t f h=>MJ,λC4 h7 h=>MJ⟩ D).tI (a3n _ _) eN;refine⟨by simp,.inl ⟨_,_,rfl,run_takeDeferred aMe,?_⟩⟩;exact⟨_,results_tmp rfl _ _ _,q.val,_,_,rfl,⟨q,pT,rfl,aG,cJ,rfl,rfl⟩,b65⟩
def a6H(h:A->B:=by exact bE Ok rfl rfl rfl):=h
def Kx(f:hJ)(L:aR)(R:aO)(aF:k0 f R):
 aM prog 122 [f.val].toArray L R (λv E G=>v=.int .i64 (jS f.aZ.l f.a2.l f.cB)/\L=E/\R=G):=by
 have jB:=aF.Y;have o4:=aF.cI;refine G9 call122 jB λJ2=>?_;refine G9 call122 o4 λaL9=>?_;refine b6 115 call122 func122 rfl rfl rfl ?_;apply(dB);intro gL;apply hH∘JM∘dE;apply cA (Z:=[_,_,_,_]) (j:=4) (a9:=11) rfl rfl aB rfl aY rfl;·exact UJ
 intro wP;apply(b9);refine U ?_ ?_<;>intro aQ;·apply(kM);refine cX L R ?_;exact⟨by rw[jS,if_pos D],rfl,rfl⟩
 have b2:¬(32<f.aZ.l.length\/16<f.a2.l.length):=by omega
 apply(yZ);refine dS [(1,.pointer _),(3,.int _ _)] bV λfK=>?_;refine gY ([2,3,4]++cN 17 50) (λg:E5 (yQ f.aZ.l) (f.aZ.l.length)=>[(3,.int .i64 ((g.1:Nat):Int))]) (λg=>(f.aZ.l.length)-g.1) ⟨0,EC _ _⟩ ?_;rintro⟨fF,zA,gM⟩ cH;try dsimp only
 apply(q9);refine U ?_ ?_<;>intro bL;·
  have pX:=bJ (l:=f.aZ.l) (k:=fF) default D;obtain⟨x,K⟩:∃x,x=f.aZ.l.getD fF default:=⟨_,rfl⟩;rw[<-K]at pX;apply(FY);refine aI O0 rfl ?_;apply(SO);intro eD;apply rT∘qO;apply cA (Z:=[_,_,_,_]) (j:=3) (a9:=32) rfl rfl aB rfl aY rfl;·exact a4d
  intro h8;apply(b9);refine U ?_ ?_<;>intro cC;·exact aQv
  apply hN∘qO;apply cA (Z:=[_,_,_]) (j:=3) (a9:=41) rfl rfl aB rfl aY rfl;·exact DR
  intro h8;apply(b9);refine U ?_ ?_<;>intro dX;·exact aSW
  apply e0∘qO;apply cA (Z:=[_,_,_]) (j:=3) (a9:=49) rfl rfl aB rfl aY rfl;·exact DR
  intro h8;apply(dE);apply cA (Z:=[_,_,_,_,_,_,_,_,_,_,_]) (j:=8) (a9:=54) rfl rfl aB rfl aY rfl;·
   intro gH;replace gH:=bB gH;apply fD∘dE;apply iR (Z:=[_,_,_,_,_,_,_]) (j:=11) (a9:=57) rfl rfl aB rfl aY rfl;·
    intro C9;replace C9:=bB C9;apply fD∘dE;apply cA (Z:=[_,_,_]) (j:=14) (a9:=60) rfl rfl aB rfl aY rfl;·intro pF;replace pF:=bB pF;exact(fD) KV
    intro Q4;exact g4
   intro Vg;exact g4
  intro uY;apply(b9);refine U ?_ ?_<;>intro dY;·exact aSo
  apply(mT);exact eO ⟨fF+1,z2 gM D (a7m K D D aTa)⟩
 have mX:=HV gM D;apply(PZ);refine dS [(1,.pointer _),(5,.int _ _)] bV λoA=>?_;refine gY ([2,5,6]++cN 67 40) (λg:E5 (DX f.aZ.l.length f.a2.l) (f.a2.l.length)=>[(5,.int .i64 ((g.1:Nat):Int))]) (λg=>(f.a2.l.length)-g.1) ⟨0,EC _ _⟩ ?_;rintro⟨g9,hE,jT⟩ cH;try dsimp only
 apply(q9);refine U ?_ ?_<;>intro h1;·
  have qG:=bJ (l:=f.a2.l) (k:=g9) 0 D;refine eP (a8 (bK (fR (bK (bK ?_)))));refine gZ N [0,1,2,3,4,5,6,7,8,9,10,11,12,13,14,15,16] _ dO bI hA ?_;apply l1∘a6H∘k4;refine bE E0 rfl rfl rfl ?_;apply(sS);refine lQ (k:=80) aY (λkL=>?_) (λkL=>?_);·replace kL:=bB kL;(iterate 9 apply(iU));apply(l2);refine vS rfl ?_;exact aTi
  replace kL:=bB kL;apply l1∘a6H∘k4∘g7;refine bE yG rfl rfl rfl ?_;refine bE G4 rfl rfl rfl ?_;apply(l2);refine U ?_ ?_<;>intro h2;·exact aTi
  apply e0∘nP;refine FP ([2,5,6]++cN 67 40) G1 [(5,.int _ _),(6,.int _ _),(81,.pointer _),(82,.slice _ _ _),(83,.int _ _),(84,.pointer _),(85,.int _ _),(86,.pointer _),(87,.slice _ _ _),(88,.int _ _),(89,.bool _)] bV λUD=>?_;refine gY ([2,6]++cN 91 16) (λg:{j:Nat//j<=g9/\∀m:Nat,m<j->f.a2.l.getD m 0≠f.a2.l.getD g9 0}=>[(6,.int .i64 ((g.1:Nat):Int))]) (λg=>g9-g.1) (⟨0,by omega,λm a3=>by omega⟩) ?_;rintro⟨j,a6,hC⟩ cH;try dsimp only
  apply(VT);refine U ?_ ?_<;>intro n8;·
   have Lv:=bJ (l:=f.a2.l) (k:=j) 0 D;refine eP (a8 (bK (fR (bK ?_))));refine gZ N [0,1,2,3,4,5,6,7,8,9,10] _ dO bI hA ?_;apply(l1);refine bE Cl rfl rfl rfl ?_;apply k4∘l1∘a6H∘k4;refine bE BA rfl rfl rfl ?_;apply(wV);refine U ?_ ?_<;>intro EM;·apply(m3);refine eZ (a8 (iY (iM (gB (vW (iM (iM (gB (vW (iM (gB ?_)))))))))));refine cX L R ?_;exact⟨by rw[Ph b2 mX (wH jT D (aE3 D ⟨j,by omega,EM⟩))],rfl,rfl⟩
   apply(mT);exact hP (⟨j+1,by omega,λm a3=>by
   rcases hF m j with h|h;·exact hC m h
   ·(obtain rfl:m=j:=by omega);exact EM⟩) gW bV bA eN hO
  refine mD (mF (xY (mB (hI (a8 (c2 ?_))))));apply(M8);exact eO ⟨g9+1,z2 jT D (a63 D (λ⟨m,OG,Mo⟩=>hC m D Mo))⟩
 have tV:=HV jT D;apply xN∘qO;apply cA (Z:=[_,_,_]) (j:=3) (a9:=110) rfl rfl aB rfl aY rfl;·exact DR
 intro h8;apply(b9);refine U ?_ ?_<;>intro a9o;·apply(kM);refine cX L R ?_;exact⟨by rw[Iw b2 mX tV,if_pos D],rfl,rfl⟩
 apply(PN);refine cX L R ?_;exact⟨by rw[Iw b2 mX tV,if_neg D],rfl,rfl⟩
def a4p(h:A->B:=by exact aI mM rfl):=h
structure aDq(Y:List bS)(cI:List Int)(bX:Int):Prop where
 A7:Y.length<=32
 w1:cI.length<=16
 up:ZA Y
 cZ:∀i:Nat,i<Y.length->0<=(Y.getD i default).cZ/\(Y.getD i default).cZ<=2147483648
 c1:∀i:Nat,i<Y.length->-1<=(Y.getD i default).c1/\(Y.getD i default).c1<=1
 X5:∀i:Nat,i<cI.length->0<=cI.getD i 0/\cI.getD i 0<Y.length
 b7U:∀i j:Nat,j<i->i<cI.length->cI.getD j 0≠cI.getD i 0
 bX:1<=bX/\bX<=100000
def a6L{rK:Type}{f:Nat->Option rK}{n:Nat}(h:(List.range n).findSome? f=none){i:Nat}(aE:i<n):f i=none:=by rw[OU]at h;exact h i (List.mem_range.2 aE)
def aFD{l:List bS}{i:Nat}:yQ l i≠some 0:=by
 rw[yQ];repeat' split
 all_goals (intro h;first|cases h|(injection h with h;omega))
def aXI{n:Nat}{l:List Int}{i:Nat}:DX n l i≠some 0:=by
 rw[DX];repeat' split
 all_goals (intro h;first|cases h|(injection h with h;omega))
def a7a{f:Nat->Option Int}{n:Nat}{e:Int}(aF:∀i,f i≠some 0)(h:(List.range n).findSome? f=some e):e≠0:=by obtain⟨i,_,aE⟩:=XR h;rintro rfl;exact aF _ aE
def xZ{Y:List bS}{cI:List Int}{bX:Int}(h:jS Y cI bX=0):aDq Y cI bX:=by
 by_cases b2:32<Y.length\/16<cI.length;·rw[jS,if_pos b2]at h;omega
 cases O:(List.range Y.length).findSome? (yQ Y)with
 |some e=>rw[Qt b2 O]at h;exact absurd h (a7a (λ_=>aFD) O)
 |none=>
  cases X:(List.range cI.length).findSome? (DX Y.length cI)with
  |some e=>rw[Ph b2 O X]at h;exact absurd h (a7a (λ_=>aXI) X)
  |none=>
   rw[Iw b2 O X]at h;have aH:∀i:Nat,i<Y.length->(-1<=(Y.getD i default).bG/\(Y.getD i default).bG<i)/\(0<=(Y.getD i default).cZ/\(Y.getD i default).cZ<=2147483648)/\(-1<=(Y.getD i default).c1/\(Y.getD i default).c1<=1):=λi aE=>by
    have:=a6L O aE;rw[yQ]at this;split at this;·cases this
    split at this;·cases this
    split at this;·cases this
    rename_i g9 fI o5;rw[not_or]at o5;omega
   have eW:∀i:Nat,i<cI.length->(0<=cI.getD i 0/\cI.getD i 0<Y.length)/\∀j:Nat,j<i->cI.getD j 0≠cI.getD i 0:=λi aE=>by
    have:=a6L X aE;rw[DX]at this;split at this;·cases this
    split at this;·cases this
    rename_i g9 fI;exact⟨by omega,λj a6 b4=>fI ⟨j,a6,b4⟩⟩
   refine⟨by omega,by omega,λi aE=>(aH i aE).1,λi aE=>(aH i aE).2.1,λi aE=>(aH i aE).2.2,λi aE=>(eW i aE).1,λi j a6 aE=>(eW i aE).2 j a6,?_⟩;by_cases M:bX<1\/100000<bX;·rw[if_pos M]at h;omega
   ·omega
def vU(Y:List bS)(cI:List Int)(bX:Int)(s:Int):List Int:=if jS Y cI bX≠0\/s<0\/(Y.length:Int)<=s then[]else CY Y s
def aWZ(f:hJ)(s:Int)(L:aR)(R:aO):
 aM prog 90 [f.val,.int .i64 s].toArray L R (λv E G=>∃nV rA,v=.func (.func 171) #[] #[.pointer (some ⟨nV,0,none⟩),.pointer (some ⟨rA,0,none⟩)]/\(⟨nV,[.int .i64 s],3⟩::⟨rA,f.cells,42⟩::L)=E/\R=G):=by refine b6 6 call90 func90 rfl rfl rfl ?_;apply(dB);intro eH;refine a6T (v:=Value.int _ _) rfl rfl rfl ?_;intro eS;refine aI (FB rfl) rfl ?_;apply(j8);refine aI (Yf rfl) rfl ?_;refine aI (FB rfl) rfl ?_;apply(DH);refine bQ (⟨eS,[.int .i64 s],3⟩::⟨eH,f.cells,42⟩::L) R (sD rfl (I7 rfl)) ?_;exact⟨eS,eH,rfl,rfl,rfl⟩
def aT6(f:hJ)(s:Int)(nV rA:Nat)(L:aR)(R:aO)(jB:aL (s4 f.aZ) R)(dL:ZA f.aZ.l)(b1:f.aZ.l.length<=1000)(cG:s<f.aZ.l.length):
 aM prog 89 [.func (.func 171) #[] #[.pointer (some ⟨nV,0,none⟩),.pointer (some ⟨rA,0,none⟩)]].toArray (⟨nV,[.int .i64 s],3⟩::⟨rA,f.cells,42⟩::L) R
  (λv E G=>∃(q:J Int) (pT:Int),v=q.val/\q.ok 1 a1/\q.l=CY f.aZ.l s/\q.L 3 a1++(⟨nV,[.int .i64 pT],3⟩::⟨rA,f.cells,42⟩::L)=E/\R=G):=by refine b6 5 call89 func89 rfl rfl rfl ?_;apply dC∘vD;refine aI iL rfl ?_;refine dT rfl (aUd f s nV rA L R jB dL b1 cG) rfl ?_;rintro v E G ⟨q,pT,rfl,aG,cJ,rfl,rfl⟩;apply(SH);refine bQ (q.L 3 a1++(⟨nV,[.int .i64 pT],3⟩::⟨rA,f.cells,42⟩::L)) R w2 ?_;exact⟨q,pT,rfl,aG,cJ,rfl,rfl⟩
def a7G(f:hJ)(s:Int)(L:aR)(R:aO)(aF:k0 f R):
 aM prog 26 [f.val,.int .i64 s].toArray L R (λv E G=>∃q:J Int,v=q.val/\q.ok 1 a1/\q.l=vU f.aZ.l f.a2.l f.cB s/\q.L 3 a1++L=E/\R=G):=by
 refine b6 23 call26 func26 rfl rfl rfl ?_;apply(dB);intro eH;apply v1∘a4p;refine cD rfl (ZC f _ _ aF) ?_;apply(p9);apply cA (Z:=[_,_]) (j:=3) (a9:=8) rfl rfl aB rfl aY rfl;·intro eR;replace eR:=bB eR;exact(cE) DU
 intro h8;apply(dE);apply cA (Z:=[_,_,_,_,_]) (j:=7) (a9:=12) rfl rfl aB rfl aY rfl;·intro hM;replace hM:=bB hM;exact(Qz) g4
 intro OD;apply(b9);refine U ?_ ?_<;>intro aQ;·exact aQE
 have bH:=xZ (Y:=f.aZ.l) (cI:=f.a2.l) (bX:=f.cB) D;have GL:=bH.A7;apply e0∘a4p∘cE;refine dT rfl (aWZ f s _ _) rfl ?_;rintro v E G ⟨nV,rA,rfl,rfl,rfl⟩;refine dT rfl (aT6 f s nV rA _ _ aF.Y bH.up D D) rfl ?_;rintro v E G ⟨q,pT,rfl,aG,cJ,rfl,rfl⟩;apply(SH);refine bQ (q.L 3 a1++L) R w2 ?_;exact⟨q,rfl,aG,by rw[vU,if_neg D];exact cJ,rfl,rfl⟩
def a67(f:hJ)(s:Int)(L:aR)(R:aO)(aF:k0 f R):
 aM prog 272 [f.val,.int .i64 s].toArray L R (λv E G=>∃q:J Int,v=q.val/\q.ok 1 a1/\q.l=vU f.aZ.l f.a2.l f.cB s/\q.L 3 a1++L=E/\R=G):=by
 have jB:=aF.Y;refine G9 call272 jB λJ2=>?_;refine b6 33 call272 func272 rfl rfl rfl ?_;apply(dB);intro eH;apply v1∘a4p;refine cD rfl (Kx f _ _ aF) ?_;apply(p9);apply cA (Z:=[_,_]) (j:=3) (a9:=9) rfl rfl aB rfl aY rfl;·intro eR;replace eR:=bB eR;exact(cE) DU
 intro h8;apply(dE);apply cA (Z:=[_,_,_,_,_]) (j:=7) (a9:=13) rfl rfl aB rfl aY rfl;·intro hM;replace hM:=bB hM;exact(Qz) g4
 intro OD;apply(b9);refine U ?_ ?_<;>intro aQ;·exact aQE
 have bH:=xZ (Y:=f.aZ.l) (cI:=f.a2.l) (bX:=f.cB) D;have GL:=bH.A7;have KA:=bH.up;apply e0∘kA;refine eZ (a8 (bK (fR ?_)));refine dS [(1,.int _ _),(2,.pointer _),(5,.slice _ _ _)] bV λfK=>?_;refine qK ([1,5]++cN 20 12) ((⟨λg=>[(1,.int .i64 g.1.1),(5,g.1.2.val)],λg=>g.1.2.L 3 a1++(⟨eH,f.cells,42⟩::L),λ_=>R,λg=>(g.1.1+1).toNat⟩:fB {g:Int×J Int//(g.1<f.aZ.l.length/\CY f.aZ.l s=g.2.l++CY f.aZ.l g.1)/\g.2.ok 1 a1})) (⟨(s,J.nil),⟨by dsimp only;omega,rfl⟩,J.iJ⟩) bV X2 eN ?_;rintro⟨⟨Ei,q⟩,⟨aMd,cJ⟩,gR⟩ cH;try dsimp only
 dsimp only at aMd cJ gR;apply(VX);refine U ?_ ?_<;>intro bL;·
  have b7:=bJ (l:=f.aZ.l) (k:=Ei.toNat) default D;have bT:=KA Ei.toNat D;have fT:q.l.length<=33:=by have:=a56 KA _ s D (iK _);rw[cJ,l9]at this;omega
  refine eP (a8 (bK (fR (c2 ?_))));apply(SU);rintro v E G ⟨b1f,rfl,rfl,Fc⟩;replace Fc:=Fc.symm;subst Fc;refine hT (pO (f:=a1) (a:=Ei) N rfl rfl rfl rfl (gR) cF p2 rfl qI) rfl ?_;rintro v E G ⟨aBB,rfl,aAc,rfl,rfl⟩;apply kA∘RD∘gK;refine aI (by first|exact j4 N rfl rfl rfl rfl i9 (i:=Ei.toNat) dA D|exact i5 N rfl rfl rfl rfl (i:=Ei.toNat) dA D) rfl ?_;apply sH∘Dp;exact eO ⟨((f.aZ.l.getD Ei.toNat default).bG,(⟨aBB,q.l++[Ei]⟩:J Int)),⟨by dsimp only;omega,by dsimp only;rw[cJ,Jq KA D aMd,oB];rfl⟩,aAc⟩
 apply(SP);refine bQ (q.L 3 a1++L) R w2 ?_;exact⟨q,rfl,gR,by rw[vU,if_neg D,cJ,Kp D,GZ],rfl,rfl⟩
end
end Go.Proofs.YtchfclmokpbldaaGreat
