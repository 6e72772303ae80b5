/-
  Merged texts. By an AI agent.
-/
import Derived.Test.YtdiajbdaadlfhaaGreatDoorRoundA
import Derived.OwnWalkIn
import Derived.LoopNIn
import Derived.Test.YtdiajbdaadlfhaaGreatDoorFits
import Derived.Test.YtdiajbdaadlfhaaGreatDoorSiteD
import Derived.Laws.StructEq
import Derived.Test.YtdiajbdaadlfhaaGreatDoorDraws
import Derived.Test.YtdiajbdaadlfhaaGreatDoorLaw11b
set_option linter.all false
set_option maxHeartbeats 4000000
set_option maxRecDepth 20000
variable{A B:Prop}
namespace Go.Proofs.YtdiajbdaadlfhaaGreatDoor
open Go.Aw Go Go.Proofs.Tryz
section
attribute [local irreducible] cO dG dP aM cI dR fA e2 e5 fB eQ e9 J.L
def Mj(aL:List cH):Nat->Int->List Int
 |0,_=>[]
 |n+1,s=>if s<0 then[]else s::Mj aL n (aL.getD s.toNat default).eI
def EP(aL:List cH)(s:Int):List Int:=Mj aL (s+1).toNat s
def YO(aL:List cH):Prop:=∀i:Nat,i<aL.length->-1<=(aL.getD i default).eI/\(aL.getD i default).eI<i
def aWU{aL:List cH}(h:YO aL):∀(n:Nat) (s:Int),s<aL.length->(s+1).toNat<=n->Mj aL n s=EP aL s:=by
 intro n;induction n using Nat.strongRecOn with
 |_ n cA=>
  intro s aF bA;by_cases bV:s<0;·
   rw[EP,show(s+1).toNat=0 by omega];cases n with
   |zero=>rfl
   |succ n=>show(if s<0 then[]else _)=([]:List Int);rw[if_pos bV]
  ·obtain⟨k,rfl⟩: ∃k,n=k+1:=⟨n-1,by omega⟩;have bX:=h s.toNat D;rw[EP,show(s+1).toNat=s.toNat+1 by omega,Mj,Mj,if_neg D,if_neg D,cA k D _ D D,cA s.toNat D _ D D]
def Ob{aL:List cH}{s:Int}(h:s<0):EP aL s=[]:=by rw[EP,show(s+1).toNat=0 by omega];rfl
def Yn{aL:List cH}(h:YO aL){s:Int}(bV:0<=s)(G:s<aL.length):EP aL s=s::EP aL (aL.getD s.toNat default).eI:=by have bX:=h s.toNat D;rw[EP,show(s+1).toNat=s.toNat+1 by omega,Mj,if_neg D,aWU h _ _ D D]
def aFr{aL:List cH}(h:YO aL):∀(n:Nat) (s:Int),s<aL.length->(s+1).toNat<=n->(EP aL s).length<=n:=by
 intro n;induction n with
 |zero=>intro s _ bA;rw[Ob D];exact gS _
 |succ n cA=>
  intro s aF bA;by_cases bV:s<0;·rw[Ob bV];simp
  ·have bX:=h s.toNat D;rw[Yn h D aF,kL];have:=cA (aL.getD s.toNat default).eI D D;omega
def a60(c:Code):Code:=match c with
 | .seq _ (.seq (.seq _ (.block _ (.rangeFunc _ _ x _))) _)=>x
 |_=>.skip
def a58(c:Code):Code:=match c with
 | .seq _ (.seq (.seq _ (.block _ (.rangeFunc _ _ _ x))) _)=>x
 |_=>.skip
def Ot(sv x:Value)(B:Nat):Array Value:=#[.slice none 0 0,sv,.pointer (some ⟨B,0,none⟩),undef,.slice none 0 0,undef,sv,x,undef,undef,undef,undef,undef]
def Jd(SC:Code)(fn:FuncId)(sv:Value)(B:Nat)(eM:LoopState):Loop:={state:=eM,pending:=none,fn,tmps:=Ot sv undef B,params:=#[7],assign:=a60 SC,body:=a58 SC,defers:=B+1}
def VF(SC:Code)(fn:FuncId)(sv:Value)(B:Nat)(eM:LoopState):Obj:=.loop (Jd SC fn sv B eM)
def QR{SC fn sv B eM}:EU (VF SC fn sv B eM):=⟨λc t f h=>BF,λes lU h=>BF⟩
def VD:Obj:=.deferred (some [])
def Iu:EU VD:=⟨λc t f h=>BF,λes lU h=>BF⟩
def aFp(t:Array Value)(n:Nat)(h:t.size=n):mD n (λk=>t.getD k undef) {tmps:=t,defers:=[]}:=⟨rfl,h,λ_=>rfl⟩
def aEy(o:Oper):Bool:=match o.op with
 | .defer _=>true
 |_=>false
def aGq{ops:List Oper}(h:ops.any aEy=false):∀o∈ops,∀c,o.op≠.defer c:=λo cM c e=>by
 have:=List.any_eq_false.1 h o cM
 rw[aEy,e]at this
 exact this rfl
section
variable{fZ:World}{cQ:aW}{aD:Nat->Prop}{R:aP}(bF:Holds cQ aD R fZ)
include bF
def aYw{fn:FuncId}{sv:Value}{m:Nat}{Zf:aW}{p:J Int}(bM:p.ok 1 aR)(sU:p.l.length<=1000000)(x:Int){iE:World}(h:s7 fZ cQ aD R (fZ.heap.size+1) VD (VF (f196.body.getD .skip) fn sv fZ.heap.size .ready) (⟨fZ.heap.size,[p.val],33⟩::(p.L 3 aR++Zf)) iE):
 YieldAt Fence.wide m prog (fZ.heap.size+1+1) #[.int .i64 x] iE λe yB=>e=.returned (.bool true)/\∃o,(⟨o,p.l++[x]⟩:J Int).ok 1 aR/\s7 fZ cQ aD R (fZ.heap.size+1) VD (VF (f196.body.getD .skip) fn sv fZ.heap.size .ready) (⟨fZ.heap.size,[(⟨o,p.l++[x]⟩:J Int).val],33⟩::((⟨o,p.l++[x]⟩:J Int).L 3 aR++Zf)) yB:=by
 refine⟨fn,Ot sv (.int .i64 x) fZ.heap.size,(a60 (f196.body.getD .skip)),(a58 (f196.body.getD .skip)),(by have:=run_yield (P:=prog) (args:=#[.int .i64 x]) (r:=Jd (f196.body.getD .skip) fn sv fZ.heap.size .ready) h.TC rfl;simpa[Jd,Ot]using this),roundIn_of_wpIn trivial ?_⟩;refine s7.round bF Iu QR h (t:=λk=>(Ot sv (.int .i64 x) fZ.heap.size).getD k undef) (Q:=λe t E R'=>e=.normal/\(t 5=.int .i64 x/\t 2=.pointer (some ⟨fZ.heap.size,0,none⟩))/\E=(⟨fZ.heap.size,[p.val],33⟩::(p.L 3 aR++Zf))/\R'=R) (aFp _ 13 rfl) (aGq rfl) ?_ (λ_ _ _ h=>by cases h.1) ?_;·refine aA (qG D9) rfl ?_;exact eS ⟨rfl,⟨rfl,rfl⟩,rfl,rfl⟩
 rintro e hO Ck As H0 jA ⟨rfl,⟨b4R,Uq⟩,rfl,rfl⟩ AZ G;refine⟨_,run_beginRound G.TC rfl,?_⟩;have U:=s7.put bF D QR (QR (SC:=(f196.body.getD .skip)) (fn:=fn) (sv:=sv) (B:=fZ.heap.size) (eM:=.busy)) G;show(Code.block _ _).wpIn _ _ _ _ _ _;refine wpIn_block ?_;refine s7.round bF Iu QR U (Q:=λe t E R'=>e=.normal/\∃o,(⟨o,p.l++[x]⟩:J Int).ok 1 aR/\(⟨fZ.heap.size,[(⟨o,p.l++[x]⟩:J Int).val],33⟩::((⟨o,p.l++[x]⟩:J Int).L 3 aR++Zf)).Sublist E) AZ (aGq rfl) ?_ (λ_ _ _ h=>by cases h.1) ?_;·refine aA (JO M Uq rfl rfl mC aK) rfl ?_;refine aA (mN (v:=.int .i64 x) b4R) rfl ?_;apply(w1);rintro v E R' ⟨aZ5,rfl,rfl,Dz⟩;replace Dz:=Dz.symm;subst Dz;refine g2 (jZ (f:=aR) (a:=x) M rfl rfl rfl rfl bM cL j8 rfl D) rfl ?_;rintro v E R' ⟨o,rfl,aAe,rfl,rfl⟩;refine YG (v:=Value.slice _ _ _) M rfl Uq rfl rfl qV rfl rfl aK ?_;exact eS ⟨rfl,o,aAe,a3G _ _⟩
 rintro e a3 Qz t3 b7G oL ⟨rfl,o,b3D,mA⟩ Kp aO;have bW:s7 _ _ _ _ _ _ _ _ _:=⟨aO.eM.rU mA eX,aO.Jx,aO.TC⟩;exact⟨_,_,run_endRound none bW.TC,rfl,o,b3D,s7.put bF D QR QR bW⟩
def Qg(w:World)(b:Nat):Int:=match w.cell? ⟨b,0,none⟩with
 |some (.int _ n)=>n
 |_=>-1
def aWE{fn:FuncId}{sv:Value}{m:Nat}{f:jG}{nE p8:Nat}{L:aW}(pK:aN (wA f.b6) R)(cZ:YO f.b6.l)(bA:f.b6.l.length<=1000){Jv:Int}(bU:Jv<f.b6.l.length){iE:World}{p:J Int}(Y:p.ok 1 aR)(dC:p.l=[])
 (h:s7 fZ cQ aD R (fZ.heap.size+1) VD (VF (f196.body.getD .skip) fn sv fZ.heap.size .ready) (⟨fZ.heap.size,[p.val],33⟩::(p.L 3 aR++(⟨nE,[.int .i64 Jv],3⟩::⟨p8,f.cells,120⟩::L))) iE):
 CallsIn Fence.wide m prog 197 #[.func (.yield (fZ.heap.size+1+1)) #[] #[],.pointer (some ⟨nE,0,none⟩),.pointer (some ⟨p8,0,none⟩)] iE λe yB=>(∃v,e=.returned v)/\∃(q:J Int) (o3:Int),q.ok 1 aR/\q.l=EP f.b6.l Jv/\
  s7 fZ cQ aD R (fZ.heap.size+1) VD (VF (f196.body.getD .skip) fn sv fZ.heap.size .ready) (⟨fZ.heap.size,[q.val],33⟩::(q.L 3 aR++(⟨nE,[.int .i64 o3],3⟩::⟨p8,f.cells,120⟩::L))) yB:=by
 refine callsIn_of_wp func197 rfl trivial ?_ rfl;simp only[ntmps197,a3N,kL,v1,Nat.reduceAdd,Nat.reduceSub,Array.replicate_succ,Array.replicate_zero,List.push_toArray,List.append_toArray,nJ,mK];refine wpIn_block ?_;refine wpIn_loop (λa w=>∃(t:Nat->Value) (q:J Int) (o3:Int),mD 16 t a/\(t 0=.func (.yield (fZ.heap.size+1+1)) #[] #[]/\t 1=.pointer (some ⟨nE,0,none⟩)/\t 2=.pointer (some ⟨p8,0,none⟩))/\q.ok 1 aR/\(-1<=o3\/True)/\o3<f.b6.l.length/\EP f.b6.l Jv=q.l++EP f.b6.l o3/\
  s7 fZ cQ aD R (fZ.heap.size+1) VD (VF (f196.body.getD .skip) fn sv fZ.heap.size .ready) (⟨fZ.heap.size,[q.val],33⟩::(q.L 3 aR++(⟨nE,[.int .i64 o3],3⟩::⟨p8,f.cells,120⟩::L))) w) (λ_ w=>(Qg w nE+1).toNat) ?_ ?_
 ·exact⟨_,p,Jv,aFp _ 16 rfl,⟨rfl,rfl,rfl⟩,Y,.inr trivial,bU,by rw[dC];rfl,h⟩
 rintro a w ⟨t,q,o3,aH,⟨t0,As,t2⟩,Y,_,ZS,aG,h⟩;have a2A:Qg w nE=o3:=by have:=T6 (b:=nE) (cs:=[.int .i64 o3]) (T:=3) h.eM (K6 _ (kE _ Gs)) 0;rw[Qg,this];rfl
 refine wpIn_seq (wpIn_seq ?_);refine s7.plain bF Iu QR h (Q:=λe t' E R'=>e=.normal/\((t' 0=.func (.yield (fZ.heap.size+1+1)) #[] #[]/\t' 1=.pointer (some ⟨nE,0,none⟩)/\t' 2=.pointer (some ⟨p8,0,none⟩))/\t' 5=.bool (decide (0<=o3)))/\(⟨fZ.heap.size,[q.val],33⟩::(q.L 3 aR++(⟨nE,[.int .i64 o3],3⟩::⟨p8,f.cells,120⟩::L)))=E) aH ?_ ?_;·refine dM ?_;refine aA (JO M As rfl rfl mC aK) rfl ?_;apply(NC);exact eS ⟨rfl,⟨⟨t0,As,t2⟩,rfl⟩,rfl⟩
 rintro e hO pN t' H0 jA ⟨rfl,⟨⟨t0,As,t2⟩,t5⟩,rfl⟩ AZ G;refine wpIn_cond (t:=decide (0<=o3)) (by rw[AZ.eval];exact t5) ?_;by_cases bV:0<=o3;·
  rw[decide_eq_true bV,if_pos rfl];refine wpIn_skip ?_;refine wpIn_seq (wpIn_block (wpIn_seq ?_));refine wpIn_region_lit ?_;refine a6Q AZ G.eM (mN (v:=.func (.yield (fZ.heap.size+1+1)) #[] #[]) t0) rfl λa2 tR=>?_;refine a6Q tR G.eM (JO M As rfl rfl mC aK) rfl λa3 Kp=>?_;have aMy:q.l.length<=1000000:=by have:=aFr cZ _ Jv bU (gS _);rw[aG,hL]at this;omega
  refine aU2 (v:=.int .i64 o3) Kp rfl rfl rfl (aYw bF Y aMy o3 G) λa4 x2 b2t ⟨o,a99,bW⟩=>?_;refine a6Q b2t bW.eM (UT rfl) rfl λa5 ZU=>?_;show Exit.then _ _ Exit.normal _ _;refine wpIn_cond (t:=false) (by rw[ZU.eval];rfl) ?_;rw[if_neg eY];refine wpIn_skip ?_;have bE:=bR (l:=f.b6.l) (k:=o3.toNat) default D;have bX:=cZ o3.toNat D;refine s7.plain bF Iu QR bW (Q:=λe t' E R'=>e=.normal/\(t' 0=.func (.yield (fZ.heap.size+1+1)) #[] #[]/\t' 1=.pointer (some ⟨nE,0,none⟩)/\t' 2=.pointer (some ⟨p8,0,none⟩))/\
   ⟨fZ.heap.size,[(⟨o,q.l++[o3]⟩:J Int).val],33⟩::((⟨o,q.l++[o3]⟩:J Int).L 3 aR++(⟨nE,[.int .i64 (f.b6.l.getD o3.toNat default).eI],3⟩::⟨p8,f.cells,120⟩::L))=E) ZU ?_ ?_
  ·refine dM ?_;refine aA (a5A M rfl (show _=Value.pointer (some ⟨p8,0,none⟩)from t2) rfl) rfl ?_;apply(kZ);refine aA (JO M (show _=Value.pointer (some ⟨nE,0,none⟩)from As) rfl rfl mC aK) rfl ?_;refine aA (j9 M rfl rfl rfl rfl pK (i:=o3.toNat) D D) rfl ?_;apply(w0);refine aA (aDy M rfl rfl rfl pK bE rfl) rfl ?_;refine YG (v:=Value.int _ _) M rfl (show _=Value.pointer (some ⟨nE,0,none⟩)from As) rfl rfl qV rfl rfl aK ?_;exact eS ⟨rfl,⟨t0,As,t2⟩,rfl⟩
  rintro e a1y Ml b6K b7H b7I ⟨rfl,b4S,rfl⟩ b2u gY;have b3p:Qg Ml nE=(f.b6.l.getD o3.toNat default).eI:=by have:=T6 (b:=nE) (cs:=[.int .i64 (f.b6.l.getD o3.toNat default).eI]) (T:=3) gY.eM (K6 _ (kE _ Gs)) 0;rw[Qg,this];rfl
  refine⟨⟨b6K,⟨o,q.l++[o3]⟩,_,b2u,b4S,a99,.inr trivial,by omega,?_,gY⟩,?_⟩;·rw[aG,Yn cZ bV ZS,kF];rfl
  ·rw[a2A,b3p];omega
 ·rw[decide_eq_false bV,if_neg eY];refine wpIn_exit ?_;simp only[Exit.then,Exit.inBlock,if_true];refine⟨AZ.defers,_,results_none rfl _ _ _,⟨_,rfl⟩,q,o3,Y,?_,G⟩;rw[aG,Ob D,rV]
end
def aRP(f:jG)(s:Int)(nE p8:Nat)(L:aW)(R:aP)(pK:aN (wA f.b6) R)(cZ:YO f.b6.l)(bA:f.b6.l.length<=1000)(bU:s<f.b6.l.length):
 aM prog 196 [.slice none 0 0,.func (.func 197) #[] #[.pointer (some ⟨nE,0,none⟩),.pointer (some ⟨p8,0,none⟩)]].toArray (⟨nE,[.int .i64 s],3⟩::⟨p8,f.cells,120⟩::L) R
  (λv E R'=>∃(q:J Int) (o3:Int),v=q.val/\q.ok 1 aR/\q.l=EP f.b6.l s/\q.L 3 aR++(⟨nE,[.int .i64 o3],3⟩::⟨p8,f.cells,120⟩::L)=E/\R=R'):=by
 refine aM.qS call196 λw aD bF=>(callsIn_wide (n:=5)).1 ?_;refine callsIn_of_wp_marks func196 rfl trivial ?_ rfl;simp only[ntmps196,a3N,kL,v1,Nat.reduceAdd,Nat.reduceSub,Array.replicate_succ,Array.replicate_zero,List.push_toArray,List.append_toArray,nJ,mK]
 gi_wp2
 refine wpIn_rangeFunc ?_;intro fn FN;obtain⟨sv,HI⟩:∃sv:Value,sv=.func (.func 197) #[] #[.pointer (some ⟨nE,0,none⟩),.pointer (some ⟨p8,0,none⟩)]:=⟨_,rfl⟩;obtain⟨Y2,a15⟩:∃Y2,w.alloc (.cells #[.slice none 0 0] 33)=Y2:=⟨_,rfl⟩;have PO:Y2.heap.size=w.heap.size+1:=by rw[<-a15];simp
 have aOk:c5 ⟨w,wU (⟨nE,[.int .i64 s],3⟩::⟨p8,f.cells,120⟩::L),aD⟩ (⟨w.heap.size,[.slice none 0 0],33⟩::⟨nE,[.int .i64 s],3⟩::⟨p8,f.cells,120⟩::L) R Y2:=by rw[<-a15];exact(c5.M4 bF).alloc #[.slice none 0 0] 33
 rw[a15];obtain⟨Ck,a9k⟩:∃Ck,(Y2.alloc VD).alloc (VF (f196.body.getD .skip) fn sv w.heap.size .ready)=Ck:=⟨_,rfl⟩;have hD:s7 w (⟨nE,[.int .i64 s],3⟩::⟨p8,f.cells,120⟩::L) aD R (w.heap.size+1) VD (VF (f196.body.getD .skip) fn sv w.heap.size .ready) (⟨w.heap.size,[(J.nil:J Int).val],33⟩::((J.nil:J Int).L 3 aR++(⟨nE,[.int .i64 s],3⟩::⟨p8,f.cells,120⟩::L))) Ck:=by
  rw[<-a9k];refine⟨(by rw[pC,nJ];exact(aOk.aKp Iu).aKp QR),?_,?_⟩;·rw[<-PO];exact(aYr _ _ _ eY).trans (World.alloc_heap_new Y2 _)
  ·have:=World.alloc_heap_new (Y2.alloc VD) (VF (f196.body.getD .skip) fn sv w.heap.size .ready);rwa[World.size_alloc,PO]at this
 refine⟨w.heap.size+1+1,[{target:=.collected (w.heap.size+1),args:=#[]}],Ck,{target:=.fn (.func 197) #[.pointer (some ⟨nE,0,none⟩),.pointer (some ⟨p8,0,none⟩)],args:=#[.func (.yield (w.heap.size+1+1)) #[] #[]]},Ck,197,
  #[.func (.yield (w.heap.size+1+1)) #[] #[],.pointer (some ⟨nE,0,none⟩),.pointer (some ⟨p8,0,none⟩)],Ck,?_,?_,λ_ _=>trivial,?_,λh=>BF,?_⟩
 ·have:=run_enterLoop_outer (P:=prog) (w:=Y2) fn (Ot sv undef w.heap.size) #[7] (a60 (f196.body.getD .skip)) (a58 (f196.body.getD .skip));rw[PO]at this;rw[<-a9k,HI];rw[HI]at this;exact this
 ·simp[resolve,go_sem]
 ·simp[invoke,go_sem,call197]
 ·
  refine(aWE bF pK cZ bA bU J.iJ rfl hD).mono ?_;rintro e aWI ⟨⟨v0,rfl⟩,q,o3,Y,bZ,U⟩;have Ej:=run_endLoop (P:=prog) U.TC (by simp[Jd]);have aO:=s7.put bF D QR (a3n:=.loop {Jd (f196.body.getD .skip) fn sv w.heap.size .ready with state:=.exhausted}) ⟨λc t f h=>BF,λes lU h=>BF⟩ U;obtain⟨Qz,aLu⟩:∃Qz,aWI.putObj (w.heap.size+1+1) (.loop {Jd (f196.body.getD .skip) fn sv w.heap.size .ready with state:=.exhausted})=Qz:=⟨_,rfl⟩;rw[aLu]at Ej aO;have gZ:Qz.cell? ⟨w.heap.size,0,none⟩=some q.val:=T6 (b:=w.heap.size) (cs:=[q.val]) (T:=33) aO.eM Gs 0;have aLW:=aO.Jx;have b6F:=aO.eM;clear aLu aO U hD a9k aOk a15;refine⟨none,Qz,Ej,?_⟩
  gi_wp2
  have b6G:=(b6F.put bF aLW Iu (o':=.deferred none) ⟨λc t f h=>BF,λes lU h=>BF⟩ D).rU (a3G _ _) eX;refine⟨by simp,.inl ⟨_,_,rfl,run_takeDeferred aLW,?_⟩⟩;exact⟨_,results_tmp rfl _ _ _,q.val,_,_,rfl,⟨q,o3,rfl,Y,bZ,rfl,rfl⟩,b6G⟩
def aIN(h:A->B:=by exact aA qW rfl):=h
structure aDe(aL:List cH)(c4:List Int)(cV:Int):Prop where
 CN:aL.length<=32
 BI:c4.length<=16
 up:YO aL
 fY:∀i:Nat,i<aL.length->0<=(aL.getD i default).fY/\(aL.getD i default).fY<=2147483648
 hQ:∀i:Nat,i<aL.length->-1<=(aL.getD i default).hQ/\(aL.getD i default).hQ<=1
 Xm:∀i:Nat,i<c4.length->0<=c4.getD i 0/\c4.getD i 0<aL.length
 b7d:∀i j:Nat,j<i->i<c4.length->c4.getD j 0≠c4.getD i 0
 cV:1<=cV/\cV<=100000
def a6P{qE:Type}{f:Nat->Option qE}{n:Nat}(h:(List.range n).findSome? f=none){i:Nat}(aB:i<n):f i=none:=by rw[NK]at h;exact h i (List.mem_range.2 aB)
def aEm{l:List cH}{i:Nat}:y2 l i≠some 0:=by
 rw[y2];repeat' split
 all_goals (intro h;first|cases h|(injection h with h;omega))
def aSn{n:Nat}{l:List Int}{i:Nat}:EK n l i≠some 0:=by
 rw[EK];repeat' split
 all_goals (intro h;first|cases h|(injection h with h;omega))
def a7U{f:Nat->Option Int}{n:Nat}{e:Int}(aH:∀i,f i≠some 0)(h:(List.range n).findSome? f=some e):e≠0:=by obtain⟨i,_,aB⟩:=K3 h;rintro rfl;exact aH _ aB
def L1{aL:List cH}{c4:List Int}{cV:Int}(h:lA aL c4 cV=0):aDe aL c4 cV:=by
 by_cases bV:32<aL.length\/16<c4.length;·rw[lA,if_pos bV]at h;omega
 cases G:(List.range aL.length).findSome? (y2 aL)with
 |some e=>rw[Qa bV G]at h;exact absurd h (a7U (λ_=>aEm) G)
 |none=>
  cases U:(List.range c4.length).findSome? (EK aL.length c4)with
  |some e=>rw[a7X bV G U]at h;exact absurd h (a7U (λ_=>aSn) U)
  |none=>
   rw[a1w bV G U]at h;have aF:∀i:Nat,i<aL.length->(-1<=(aL.getD i default).eI/\(aL.getD i default).eI<i)/\(0<=(aL.getD i default).fY/\(aL.getD i default).fY<=2147483648)/\(-1<=(aL.getD i default).hQ/\(aL.getD i default).hQ<=1):=λi aB=>by
    have:=a6P G aB;rw[y2]at this;split at this;·cases this
    split at this;·cases this
    split at this;·cases this
    rename_i g8 eK mJ;rw[not_or]at mJ;omega
   have dI:∀i:Nat,i<c4.length->(0<=c4.getD i 0/\c4.getD i 0<aL.length)/\∀j:Nat,j<i->c4.getD j 0≠c4.getD i 0:=λi aB=>by
    have:=a6P U aB;rw[EK]at this;split at this;·cases this
    split at this;·cases this
    rename_i g8 eK;exact⟨by omega,λj a6 bF=>eK ⟨j,a6,bF⟩⟩
   refine⟨by omega,by omega,λi aB=>(aF i aB).1,λi aB=>(aF i aB).2.1,λi aB=>(aF i aB).2.2,λi aB=>(dI i aB).1,λi j a6 aB=>(dI i aB).2 j a6,?_⟩;by_cases O:cV<1\/100000<cV;·rw[if_pos O]at h;omega
   ·omega
def DG(aL:List cH)(c4:List Int)(cV:Int)(s:Int):List Int:=if lA aL c4 cV≠0\/s<0\/(aL.length:Int)<=s then[]else EP aL s
def aXT(f:jG)(s:Int)(L:aW)(R:aP):
 aM prog 176 [f.val,.int .i64 s].toArray L R (λv E R'=>∃nE p8,v=.func (.func 197) #[] #[.pointer (some ⟨nE,0,none⟩),.pointer (some ⟨p8,0,none⟩)]/\(⟨nE,[.int .i64 s],3⟩::⟨p8,f.cells,120⟩::L)=E/\R=R'):=by refine cX 6 call176 func176 rfl rfl rfl ?_;apply(fC);intro eN;refine a7p (v:=Value.int _ _) rfl rfl rfl ?_;intro e4;refine aA (qG rfl) rfl ?_;apply(iG);refine aA (a02 rfl) rfl ?_;refine aA (qG rfl) rfl ?_;apply(DW);refine cF (⟨e4,[.int .i64 s],3⟩::⟨eN,f.cells,120⟩::L) R (qI rfl (EL rfl)) ?_;exact⟨e4,eN,rfl,rfl,rfl⟩
def aXJ(f:jG)(s:Int)(nE p8:Nat)(L:aW)(R:aP)(pK:aN (wA f.b6) R)(cZ:YO f.b6.l)(bA:f.b6.l.length<=1000)(bU:s<f.b6.l.length):
 aM prog 175 [.func (.func 197) #[] #[.pointer (some ⟨nE,0,none⟩),.pointer (some ⟨p8,0,none⟩)]].toArray (⟨nE,[.int .i64 s],3⟩::⟨p8,f.cells,120⟩::L) R
  (λv E R'=>∃(q:J Int) (o3:Int),v=q.val/\q.ok 1 aR/\q.l=EP f.b6.l s/\q.L 3 aR++(⟨nE,[.int .i64 o3],3⟩::⟨p8,f.cells,120⟩::L)=E/\R=R'):=by refine cX 5 call175 func175 rfl rfl rfl ?_;apply eV∘tH;refine aA jE rfl ?_;refine dN rfl (aRP f s nE p8 L R pK cZ bA bU) rfl ?_;rintro v E R' ⟨q,o3,rfl,Y,bZ,rfl,rfl⟩;apply(UW);refine cF (q.L 3 aR++(⟨nE,[.int .i64 o3],3⟩::⟨p8,f.cells,120⟩::L)) R BH ?_;exact⟨q,o3,rfl,Y,bZ,rfl,rfl⟩
def a7D(f:jG)(s:Int)(L:aW)(R:aP)(aH:pY f R):
 aM prog 139 [f.val,.int .i64 s].toArray L R (λv E R'=>∃q:J Int,v=q.val/\q.ok 1 aR/\q.l=DG f.b6.l f.b0.l f.eB s/\q.L 3 aR++L=E/\R=R'):=by
 refine cX 23 call139 func139 rfl rfl rfl ?_;apply(fC);intro eN;apply r2∘aIN;refine eD rfl (Dd f _ _ aH) ?_;apply(vC);apply dT (aD:=[_,_]) (j:=3) (b4:=8) rfl rfl aK rfl b2 rfl;·intro fV;replace fV:=cP fV;exact(cJ) K9
 intro m2;apply(fD);apply dT (aD:=[_,_,_,_,_]) (j:=7) (b4:=12) rfl rfl aK rfl b2 rfl;·intro nV;replace nV:=cP nV;exact(cJ∘Rc) iA
 intro WX;apply(dD);refine aJ ?_ ?_<;>intro bI;·apply C9∘DZ;refine cF L R BH ?_;exact⟨.nil,rfl,J.iJ,by rw[DG,if_pos D],by rw[pC];rfl,rfl⟩
 have bM:=L1 (aL:=f.b6.l) (c4:=f.b0.l) (cV:=f.eB) D;have IZ:=bM.CN;apply gI∘aIN∘cJ;refine dN rfl (aXT f s _ _) rfl ?_;rintro v E R' ⟨nE,p8,rfl,rfl,rfl⟩;refine dN rfl (aXJ f s nE p8 _ _ aH.aL bM.up D D) rfl ?_;rintro v E R' ⟨q,o3,rfl,Y,bZ,rfl,rfl⟩;apply(UW);refine cF (q.L 3 aR++L) R BH ?_;exact⟨q,rfl,Y,by rw[DG,if_neg D];exact bZ,rfl,rfl⟩
end
inductive AB where
 |i
 |b
def AB.a8l:AB->Value->Prop
 | .i,.int .i64 _=>True
 | .b,.bool _=>True
 |_,_=>False
def AM:List AB->List Value->Prop
 |[],[]=>True
 |k::mR,v::vs=>k.a8l v/\AM mR vs
 |_,_=>False
def Qs:Value->Value->Bool
 | .int _ a,.int _ b=>decide (a=b)
 | .bool a,.bool b=>decide (a=b)
 |_,_=>false
def zB:List Value->List Value->Bool
 |a::l,b::m=>Qs a b && zB l m
 |_,_=>true
def aIF: ∀{mR:List AB} {l:List Value},AM mR l->l.length=mR.length
 |[],[],_=>rfl
 |[],_::_,h=>h.elim
 |_::_,[],h=>h.elim
 |k::mR,v::vs,h=>by simp[aIF h.2]
def a5e: ∀{mR CF:List AB} {l:List Value},AM (mR++CF) l->AM mR (l.take mR.length)/\AM CF (l.drop mR.length)
 |[],CF,l,h=>⟨by simp[AM],by simpa using h⟩
 |k::mR,CF,[],h=>h.elim
 |k::mR,CF,v::vs,h=>by
  have:=a5e (mR:=mR) (CF:=CF) (l:=vs) h.2
  exact⟨⟨h.1,this.1⟩,this.2⟩
def aG9: ∀(n:Nat) (l m:List Value),zB l m=(zB (l.take n) (m.take n) && zB (l.drop n) (m.drop n))
 |0,l,m=>by simp[zB]
 |n+1,[],m=>by simp[zB]
 |n+1,a::l,[]=>by simp[zB]
 |n+1,a::l,b::m=>by
  simp only[List.take_succ_cons,List.drop_succ_cons,zB]
  rw[aG9 n l m,Bool.and_assoc]
section
variable{P:Program}
def NV(P:Program)(d:Nat)(I:TypeId)(mR:List AB):Prop:=
 ∀(xs ys:List Value) (off:Nat) (w:World),AM mR ((xs.drop off).take mR.length)->AM mR ((ys.drop off).take mR.length)->
  ∃a b,(part I xs.toArray off).run P w=.ok a w/\(part I ys.toArray off).run P w=.ok b w/\(Op.equalIn d I a b).run P w=.ok (zB ((xs.drop off).take mR.length) ((ys.drop off).take mR.length)) w
def a1g{I:TypeId}{xs:List Value}{off:Nat}{v:Value}{w:World}(IM:(isAgg I).run P w=.ok false w)(h:(xs.drop off).take 1=[v]):(part I xs.toArray off).run P w=.ok v w:=by
 have cS:xs[off]?=some v:=by
  have:((xs.drop off).take 1)[0]?=some v:=by rw[h];rfl
  rw[XV]at this;simpa using this
 simp only[part,s5,IM,rD];simp[cS]
def Ze{l:List Value}{k:AB}(h:AM [k] l):∃v,l=[v]/\k.a8l v:=by
 match l,h with
 |[v],h=>exact⟨v,rfl,h.1⟩
def JV{d:Nat}{I:TypeId}(h:P.underlying I=some (.int .i64)):NV P (d+1) I [.i]:=by
 intro xs ys off w K bB;have IM:(isAgg I).run P w=.ok false w:=by simp[isAgg,run_underlying h]
 obtain⟨u,cZ,a8n⟩:=Ze K;obtain⟨v,cS,a8o⟩:=Ze bB;refine⟨u,v,a1g IM cZ,a1g IM cS,?_⟩;have M3:(xs.drop off).take [AB.i].length=[u]:=cZ;have aAI:(ys.drop off).take [AB.i].length=[v]:=cS;rw[M3,aAI]
 match u,v,a8n,a8o with
 | .int .i64 a,.int .i64 b,_,_=>rw[run_equalIn_int (P:=P) w d I .i64 .i64 a b h,Yh];simp[zB,Qs]
def Iz{d:Nat}{I:TypeId}(h:P.underlying I=some .bool):NV P (d+1) I [.b]:=by
 intro xs ys off w K bB;have IM:(isAgg I).run P w=.ok false w:=by simp[isAgg,run_underlying h]
 obtain⟨u,cZ,a8n⟩:=Ze K;obtain⟨v,cS,a8o⟩:=Ze bB;refine⟨u,v,a1g IM cZ,a1g IM cS,?_⟩;have M3:(xs.drop off).take [AB.b].length=[u]:=cZ;have aAI:(ys.drop off).take [AB.b].length=[v]:=cS;rw[M3,aAI]
 match u,v,a8n,a8o with
 | .bool a,.bool b,_,_=>rw[run_equalIn_bool (P:=P) w d I a b h];simp only[zB,Qs,Bool.and_true];cases a<;>cases b<;>rfl
def YK:Nat->List (TypeId×List AB)->List (Bool×TypeId×Nat)
 |_,[]=>[]
 |o,(I,mR)::l=>(false,I,o)::YK (o+mR.length) l
def aIq{d:Nat}: ∀(bL:List (TypeId×List AB)) (q8:List Field) (xs ys:List Value) (off:Nat) (w:World),q8.map (fun f=>(f.name== "_",f.type,f.offset))=YK off bL→(∀p∈bL,NV P d p.1 p.2)→
 AM (bL.flatMap (·.2)) (xs.drop off)->AM (bL.flatMap (·.2)) (ys.drop off)->(Op.eqFields d xs.toArray ys.toArray q8).run P w=.ok (zB (xs.drop off) (ys.drop off)) w
 |[],q8,xs,ys,off,w,a1,_,K,bB=>by
  have:q8=[]:=by simpa[YK]using a1
  subst this
  have G:=aIF K
  have U:xs.drop off=[]:=NJ Xh
  rw[U]
  simp[Op.eqFields,zB]
 |(I,mR)::bL,[],xs,ys,off,w,a1,_,_,_=>by simp[YK]at a1
 |(I,mR)::bL,f::q8,xs,ys,off,w,a1,aG,K,bB=>by
  simp only[pV,YK,a3Y,Prod.mk.injEq]at a1
  obtain⟨⟨h5,iQ,f3⟩,a1⟩:=a1
  have PU:f.name≠ "_" :=by simpa using h5
  rw[vZ]at K bB
  obtain⟨HQ,XN⟩:=a5e K
  obtain⟨K0,K1⟩:=a5e bB
  obtain⟨a,b,bX,aT,Kk⟩:=aG (I,mR) Gs xs ys off w HQ K0
  have cA:=aIq bL q8 xs ys (off+mR.length) w a1 (λp h=>aG p (K6 _ h)) (by rw[<-a32];exact XN) (by rw[<-a32];exact K1)
  simp only[Op.eqFields,if_pos PU,iQ,f3,s5,bX,aT,Kk,rD,Sem.run_ite,D8]
  rw[aG9 mR.length (xs.drop off) (ys.drop off),a32,a32]
  cases bU:zB ((xs.drop off).take mR.length) ((ys.drop off).take mR.length)with
  |false=>simp
  |true=>simpa using cA
def aH2{d:Nat}{T:TypeId}{bL:List (TypeId×List AB)}(G:P.underlying T=some (.struct (P.fieldsOf T)))(U:P.stoodInHeld T=false)(bW:(P.fieldsOf T).toList.map (fun f=>(f.name== "_",f.type,f.offset))=YK 0 bL)(aG: ∀p∈bL,NV P d p.1 p.2)
 {xs ys:List Value} {w:World} (K:AM (bL.flatMap (·.2)) xs) (bB:AM (bL.flatMap (·.2)) ys):(Op.equalIn (d+1) T (.agg xs.toArray) (.agg ys.toArray)).run P w=.ok (zB xs ys) w:=by rw[run_equalIn_agg w d T _ _ G U];exact aIq bL _ xs ys 0 w bW aG K bB
def a5a{d:Nat}{I:TypeId}{bL:List (TypeId×List AB)}{i:TypeInfo}(G:P.underlying I=some (.struct (P.fieldsOf I)))(U:P.stoodInHeld I=false)(aB:P.info? I=some i)(bU:P.cellsOf I=(bL.flatMap (·.2)).length)(bW:(P.fieldsOf I).toList.map (fun f=>(f.name== "_",f.type,f.offset))=YK 0 bL)(aG: ∀p∈bL,NV P d p.1 p.2):
 NV P (d+1) I (bL.flatMap (·.2)):=by
 intro xs ys off w K bB;have IM:(isAgg I).run P w=.ok true w:=by simp[isAgg,run_underlying G]
 have aF:(sizeOf I).run P w=.ok (bL.flatMap (·.2)).length w:=by rw[run_sizeOf w aB,bU]
 have vV:∀TY:List Value,(part I TY.toArray off).run P w=.ok (.agg ((TY.drop off).take (bL.flatMap (·.2)).length).toArray) w:=λTY=>by simp only[part,s5,IM,rD,if_true,aF,D8];congr 2;simp
 exact⟨_,_,vV xs,vV ys,aH2 G U bW aG K bB⟩
structure Hm(P:Program)(T:TypeId)(mR:List AB):Prop where
 eq:∀(xs ys:List Value) (w:World),AM mR xs->AM mR ys->(Op.equalIn 10000 T (.agg xs.toArray) (.agg ys.toArray)).run P w=.ok (zB xs ys) w
 guard:P.eqGuardType P.depth T=false
def a43{T:TypeId}(bL:List (TypeId×List AB)){mR:List AB}(G:P.underlying T=some (.struct (P.fieldsOf T)))(U:P.stoodInHeld T=false)(aO:P.eqGuardType P.depth T=false)(bW:(P.fieldsOf T).toList.map (fun f=>(f.name== "_",f.type,f.offset))=YK 0 bL)(Y:bL.flatMap (·.2)=mR)(aG: ∀p∈bL,NV P 9999 p.1 p.2):Hm P T mR:=
 ⟨λxs ys w K bB=>aH2 G U bW aG (by rw[Y];exact K) (by rw[Y];exact bB),aO⟩
end
section
variable{P:Program}{aV:Operand->Value}{L:aW}{R:aP}{dst:Option Tmp}{ty:TypeId}{pos:String}{after:Array Edge}{guard:Option (Nat×Bool)}{T hN:TypeId}{x y:Operand}{mR:List AB}{xs ys:List Value}
def aRS(dF:Hm P T mR)(K:aV x=.agg xs.toArray)(bB:aV y=.agg ys.toArray)(a8p:AM mR xs)(a8q:AM mR ys){b:Bool}(aT:zB xs ys=b):cI P ⟨dst,.binOp .eql T x y hN,ty,pos,after,guard⟩ aV L R (.bool b):=λ_ w _=>by
 have G:=run_eqGuard_agg (P:=P) w .eql T x y xs.toArray ys.toArray dF.guard
 simp only[execOp,K,bB,s5,G,rD,run_eql_struct,dF.eq xs ys _ a8p a8q,aT]
 simp
def aIP(dF:Hm P T mR)(K:aV x=.agg xs.toArray)(bB:aV y=.agg ys.toArray)(a8p:AM mR xs)(a8q:AM mR ys){b:Bool}(aT:zB xs ys=b):cI P ⟨dst,.binOp .neq T x y hN,ty,pos,after,guard⟩ aV L R (.bool (!b)):=λ_ w _=>by
 have G:=run_eqGuard_agg (P:=P) w .neq T x y xs.toArray ys.toArray dF.guard
 simp only[execOp,K,bB,s5,G,rD,run_neq_struct,dF.eq xs ys _ a8p a8q,aT]
 simp
end
section
attribute [local irreducible] cO dG dP aM cI dR fA e2 e5 fB eQ e9 J.L
def Hr(h:A->B:=by exact aA qW rfl):=h
def aE4(h:B:=by exact⟨.nil,.nil,0,by rw[V];rfl,⟨J.iJ,J.iJ⟩,λh=>by omega,by rw[pC,pC];rfl,rfl⟩):=h
def L7(aL:List cH)(t:Int):Prop:=(0<=t/\t<=2147483648)/\∀x∈aL,x.fY<=t
instance(aL:List cH)(t:Int):Decidable (L7 aL t):=by unfold L7;infer_instance
def AU(aL:List cH)(c4:List Int)(cV s t:Int):Int:=if lA aL c4 cV≠0 then lA aL c4 cV else if s<0\/(aL.length:Int)<=s then 16 else if L7 aL t then 0 else 8
def aIO(f:jG)(t:Int)(L:aW)(R:aP)(aH:pY f R):
 aM prog 162 [f.val,.int .i64 t].toArray L R (λv E R'=>v=.bool (decide (L7 f.b6.l t))/\L=E/\R=R'):=by
 have pK:=aH.aL;refine Bw call162 pK λG9=>?_;refine cX 25 call162 func162 rfl rfl rfl ?_;apply(fC);intro eN;apply xF∘cJ∘q5;apply dT (aD:=[_,_]) (j:=2) (b4:=9) rfl rfl aK rfl b2 rfl;·exact JC
 intro o7;apply(dD);refine aJ ?_ ?_<;>intro bI;·apply(RT);refine m5 L R ?_;exact⟨by rw[decide_eq_false (λh=>by have:=h.1;omega)],rfl,rfl⟩
 apply(LS);refine e3 [(1,.int _ _),(14,.slice _ _ _),(15,.int _ _),(16,.int _ _)] cB λg9=>?_;refine lF ([4,6]++dJ 16 9) (λg:{k:Nat//k<=f.b6.l.length/\∀j:Nat,j<k->(f.b6.l.getD j default).fY<=t}=>[(16,.int .i64 ((g.1:Nat):Int))]) (λg=>f.b6.l.length-g.1) (⟨0,by omega,λj a6=>by omega⟩) ?_;rintro⟨k,Y,jX⟩ c1;try dsimp only
 apply(gU);refine aJ ?_ ?_<;>intro cK;·
  have bE:=bR (l:=f.b6.l) (k:=k) default D;apply(jK);refine aA rF rfl ?_;apply Ma∘dO;intro jN;apply p6∘cJ∘gB∘nD;refine aJ ?_ ?_<;>intro dE;·apply(OH);refine m5 L R ?_;exact⟨by rw[decide_eq_false (λh=>by have:=h.2 _ (hS bE);omega)],rfl,rfl⟩
  exact aOH
 apply(Iy);refine m5 L R ?_;refine⟨by rw[decide_eq_true (p:=L7 f.b6.l t)];refine⟨by omega,λx K=>?_⟩;obtain⟨j,a6,rfl⟩:=Gm K;have:=jX j D;rwa[lN,w4 a6]at this,rfl,rfl⟩
def aGg(f:jG)(s t:Int)(L:aW)(R:aP)(aH:pY f R):
 aM prog 118 [f.val,.int .i64 s,.int .i64 t].toArray L R (λv E R'=>v=.int .i64 (AU f.b6.l f.b0.l f.eB s t)/\L=E/\R=R'):=by
 refine cX 26 call118 func118 rfl rfl rfl ?_;apply(fC);intro e4;apply kB∘Hr;refine eD rfl (Dd f _ _ aH) ?_;apply(pQ);refine aJ ?_ ?_<;>intro bI;·apply(U1);refine eL L R ?_;exact⟨by rw[AU,if_pos bI],rfl,rfl⟩
 apply FC∘q5;apply dT (aD:=[_,_,_,_,_]) (j:=2) (b4:=15) rfl rfl aK rfl b2 rfl;·exact a4h
 intro o7;apply(dD);refine aJ ?_ ?_<;>intro cK;·apply(uJ);refine eL L R ?_;exact⟨by rw[AU,if_neg D,if_pos D],rfl,rfl⟩
 apply k5∘Hr∘cJ;refine eD rfl (aIO f t _ _ aH) ?_;apply(AJ);refine aJ ?_ ?_<;>intro dE;·apply(uJ);refine eL L R ?_;exact⟨by rw[AU,if_neg D,if_neg D,if_neg Bb],rfl,rfl⟩
 apply(Rb);refine eL L R ?_;exact⟨by rw[AU,if_neg D,if_neg D,if_pos Bb],rfl,rfl⟩
def Zs(f:jG)(L:aW)(R:aP)(aH:pY f R)(bA:f.b6.l.length<=1000/\f.b0.l.length<=1000):
 aM prog 119 [f.val].toArray L R (λv E R'=>∃(p:J cH) (q:J Int),v=.agg #[p.val,q.val,.int .i64 f.eB]/\(p.ok 5 cH.cells/\q.ok 1 aR)/\p.l=f.b6.l/\q.l=f.b0.l/\q.L 3 aR++(p.L 143 cH.cells++L)=E/\R=R'):=by have pK:=aH.aL;have FW:=aH.c4;refine cX 12 call119 func119 rfl rfl rfl ?_;apply(fC);intro fT;apply(dO);intro eN;apply(UV);refine g2 aPY rfl ?_;rintro v E R' ⟨Fv,rfl,aAb,rfl,rfl⟩;apply q6∘UV;refine g2 aQt rfl ?_;rintro v E R' ⟨aNG,rfl,b3Q,rfl,rfl⟩;apply q6∘iG∘Hr∘y5;refine cF ((⟨aNG,f.b0.l⟩:J Int).L 3 aR++((⟨Fv,f.b6.l⟩:J cH).L 143 cH.cells++L)) R (qI rfl XX) ?_;exact⟨⟨Fv,f.b6.l⟩,⟨aNG,f.b0.l⟩,rfl,⟨aAb,b3Q⟩,rfl,rfl,rfl,rfl⟩
def OP(aL:List cH)(c4:List Int)(cV s t:Int):Int:=
 if AU aL c4 cV s t≠0 then AU aL c4 cV s t
 else if(aL.getD s.toNat default).hQ≠-1\/(0<=(aL.getD s.toNat default).eI/\(aL.getD (aL.getD s.toNat default).eI.toNat default).hQ≠1)then 10 else 0
def a7e(aL:List cH)(s t:Int):List cH:=aL.set s.toNat ⟨(aL.getD s.toNat default).eI,t,0,true,false⟩
def aYE(f:jG)(s t:Int)(L:aW)(R:aP)(aH:pY f R):
 aM prog 138 [f.val,.int .i64 s,.int .i64 t].toArray L R (λv E R'=>∃(p:J cH) (q:J Int) (r:Int),v=.tuple #[.agg #[p.val,q.val,.int .i64 r],.int .i64 (OP f.b6.l f.b0.l f.eB s t)]/\(p.ok 5 cH.cells/\q.ok 1 aR)/\
  (OP f.b6.l f.b0.l f.eB s t=0->p.l=a7e f.b6.l s t/\q.l=f.b0.l/\r=f.eB)/\q.L 3 aR++(p.L 143 cH.cells++L)=E/\R=R'):=by
 have pK:=aH.aL;refine cX 54 call138 func138 rfl rfl rfl ?_;apply(fC);intro e4;apply(dO);intro jN;apply kB∘Hr∘wF;refine eD rfl (aGg f s t _ _ aH) ?_;apply(pQ);refine aJ ?_ ?_<;>intro bI;·
  apply(eV);refine aA Xn rfl ?_;apply(yE);refine cF L R ED ?_;have V:OP f.b6.l f.b0.l f.eB s t=AU f.b6.l f.b0.l f.eB s t:=by rw[OP,if_pos bI]
  exact aE4
 have IP:AU f.b6.l f.b0.l f.eB s t=0:=by omega
 have qA:lA f.b6.l f.b0.l f.eB=0:=by rw[AU]at IP;split at IP<;>omega
 have bM:=L1 qA;have IZ:=bM.CN;have vT:=bM.BI;have b91:0<=s/\s<f.b6.l.length:=by rw[AU,if_neg D]at IP;split at IP<;>omega
 have bE:=bR (l:=f.b6.l) (k:=s.toNat) default D;have a2X:=bM.up s.toNat D;obtain⟨x,K⟩:∃x,x=f.b6.l.getD s.toNat default:=⟨_,rfl⟩;rw[<-K]at bE a2X;apply gI∘h1;refine aA aCA rfl ?_;apply Ma∘dO;intro jB;apply RU∘vC;apply dT (aD:=[_,_,_,_,_,_,_,_,_,_,_,_,_]) (j:=3) (b4:=27) rfl rfl aK rfl b2 rfl;·
  intro fV;replace fV:=cP fV;apply gB∘NC∘fD;apply lR (aD:=[_,_,_,_,_,_,_,_]) (j:=7) (b4:=31) rfl rfl aK rfl b2 rfl;·intro nV;replace nV:=cP nV;have b9a:=bR (l:=f.b6.l) (k:=x.eI.toNat) default D;apply(nZ);refine aA (by first|exact j9 M rfl rfl rfl rfl i6 (i:=x.eI.toNat) c7 D|exact jF M rfl rfl rfl rfl (i:=x.eI.toNat) c7 D) rfl ?_;exact(tG) v6
  intro WX;exact iA
 intro m2;apply(dD);refine aJ ?_ ?_<;>intro cK;·
  apply(eV);refine aA Xn rfl ?_;apply(y4);refine cF L R ED ?_;have V:OP f.b6.l f.b0.l f.eB s t=10:=by rw[OP,if_neg D,<-K,if_pos D]
  exact aE4
 have V:OP f.b6.l f.b0.l f.eB s t=0:=by rw[OP,if_neg D,<-K,if_neg D]
 apply gI∘Hr;refine dN rfl (Zs f _ _ aH D) rfl ?_;rintro v E R' ⟨p,q,rfl,⟨iN,g7⟩,dC,eZ,rfl,rfl⟩;apply(dO);intro lI;apply(J4);have M1:p.l[s.toNat]?=some x:=by rw[dC];exact bE
 have l2:p.l.length=f.b6.l.length:=by rw[dC]
 apply e1∘h1∘h1;refine aA (l7 (hB:=[(0,(Value.int _ _).cells.toList),(1,(Value.int _ _).cells.toList),(3,(Value.bool _).cells.toList)]) (c9:=[_,_,_,_,_]) M rfl rfl rfl rfl) rfl ?_;refine aA aCs rfl ?_;refine mO (N4 M (p) (⟨x.eI,t,0,true,false⟩) rfl rfl rfl rfl cL bS bH bS (s6 rfl) aK aK) ?_;rintro v E R' ⟨rfl,rfl⟩;apply(j6);have Lf:=J.yS (f:=cH.cells) (aI:=5) (p:=p) (i:=s.toNat) (x:=⟨x.eI,t,0,true,false⟩) bH iN;apply e1∘Hr∘yD;refine cF (q.L 3 aR++((⟨p.o,p.l.set s.toNat ⟨x.eI,t,0,true,false⟩⟩:J cH).L 143 cH.cells++L)) R ED ?_;exact⟨⟨p.o,p.l.set s.toNat ⟨x.eI,t,0,true,false⟩⟩,q,f.eB,by simp only[V,J.val,w3],⟨Lf,g7⟩,λ_=>⟨by rw[a7e,<-K,dC],eZ,rfl⟩,rfl,rfl⟩
def zE(aL:List cH)(c4:List Int)(cV s t:Int):Int:=
 if lA aL c4 cV≠0 then lA aL c4 cV else if s<0\/(aL.length:Int)<=s then 16 else if t≠1/\t≠-1 then 10 else 0
def QN(aL:List cH)(s t:Int):List cH:=
 aL.set s.toNat ⟨(aL.getD s.toNat default).eI,(aL.getD s.toNat default).fY,t,(aL.getD s.toNat default).dZ,if t= -1 then false else(aL.getD s.toNat default).dL⟩
def aUr{aL:List cH}(h:YO aL):∀(n:Nat) (s:Int),s<aL.length->(s+1).toNat<=n->∀x∈EP aL s,0<=x/\x<=s:=by
 intro n;induction n with
 |zero=>intro s _ bA;rw[Ob D];intro x K;cases K
 |succ n cA=>
  intro s aF bA x K;by_cases bV:s<0;·rw[Ob bV]at K;cases K
  ·
   have bX:=h s.toNat D;rw[Yn h D aF,nX]at K;rcases K with rfl|K;·omega
   ·have:=cA _ D D x K;omega
def a5G{aL:List cH}{c4:List Int}{cV s:Int}{x:Int}(K:x∈DG aL c4 cV s):0<=x/\x<=s/\s<aL.length:=by
 rw[DG]at K;split at K;·cases K
 ·have bM:=L1 (aL:=aL) (c4:=c4) (cV:=cV) D;have:=aUr bM.up _ s D (gS _) x K;omega
def aHI{aL:List cH}{c4:List Int}{cV s:Int}:(DG aL c4 cV s).length<=32:=by
 rw[DG];split;·simp
 ·have bM:=L1 (aL:=aL) (c4:=c4) (cV:=cV) D;have G:=bM.CN;have:=aFr bM.up _ s D (gS _);omega
def aDI(h:A->B:=by exact aA rF rfl):=h
def aDU(h:A->B:=by exact aA Xk rfl):=h
def aR7(x:bP Int)(g:Int->Bool)(Kd:FuncId)(cap:Array Value)(L:aW)(R:aP)(K:aN (dW x) R)(bU:∀y∈x.l,aM prog Kd (.int .i64 y::cap.toList).toArray L R (λv E R'=>v=.bool (g y)/\L=E/\R=R')):
 aM prog 177 [x.val,.func (.func Kd) #[] cap].toArray L R (λv E R'=>∃r:Int,v=.int .i64 r/\(0<=r↔∃y∈x.l,g y=true)/\L=E/\R=R'):=by
 refine Bw call177 K λG9=>?_;refine cX 19 call177 func177 rfl rfl rfl ?_;apply oO∘mY∘r3;refine e3 [(0,.slice _ _ _),(1,_),(7,.int _ _),(8,.int _ _)] cB λg9=>?_;refine lF ([4,5]++dJ 8 11) (λg:{k:Nat//k<=x.l.length/\∀j:Nat,j<k->g (x.l.getD j 0)=false}=>[(8,.int .i64 ((g.1:Nat):Int))]) (λg=>x.l.length-g.1) (⟨0,by omega,λj a6=>by omega⟩) ?_;rintro⟨k,Y,jX⟩ c1;try dsimp only
 apply(gU);refine aJ ?_ ?_<;>intro bI;·
  have bE:=bR (l:=x.l) (k:=k) 0 D;apply nC∘p5;refine aA jE rfl ?_;apply k2∘aDI∘kY;refine VI (He rfl rfl (bU (x.l.getD k 0) (hS bE))) rfl rfl ?_;rintro v E R' ⟨rfl,rfl,rfl⟩;apply(dD);refine aJ ?_ ?_<;>intro cK;·apply RZ∘TK;refine eL L R ?_;exact⟨k,rfl,⟨λ_=>⟨_,hS bE,cK⟩,λ_=>by omega⟩,rfl,rfl⟩
  apply(k9);exact lP (⟨k+1,by omega,λj a6=>by
  rcases gX j k with h|h;·exact jX j h
  ·(obtain rfl:j=k:=by omega);simpa using cK⟩) hM cB bC eX kM
 apply(IG);refine eL L R ?_;refine⟨-1,rfl,⟨λh=>by omega,λ⟨y,bB,b2J⟩=>?_⟩,rfl,rfl⟩;obtain⟨j,a6,rfl⟩:=Gm bB;have:=jX j D;rw[lN,w4 a6]at this;rw[show(some x.l[j]).getD 0=x.l[j]from rfl,b2J]at this;cases this
def aYP(x:bP Int)(g:Int->Bool)(Kd:FuncId)(cap:Array Value)(L:aW)(R:aP)(K:aN (dW x) R)(bU:∀y∈x.l,aM prog Kd (.int .i64 y::cap.toList).toArray L R (λv E R'=>v=.bool (g y)/\L=E/\R=R')):
 aM prog 140 [x.val,.func (.func Kd) #[] cap].toArray L R (λv E R'=>v=.bool (decide (∃y∈x.l,g y=true))/\L=E/\R=R'):=by refine cX 9 call140 func140 rfl rfl rfl ?_;apply E8∘iG∘gQ;refine aA jE rfl ?_;refine dN rfl (aR7 x g Kd cap _ _ K bU) rfl ?_;exact aPM
def Zc(aL:List cH)(a y:Int):Bool:=decide (y≠a/\(aL.getD y.toNat default).hQ= -1)
def aTA(f:jG)(a y:Int)(jB dU:Nat)(L:aW)(R:aP)(aH:pY f R)(bB:0<=y/\y<f.b6.l.length):
 aM prog 141 [.int .i64 y,.pointer (some ⟨jB,0,none⟩),.pointer (some ⟨dU,0,none⟩)].toArray (⟨jB,[.int .i64 a],3⟩::⟨dU,f.cells,120⟩::L) R (λv E R'=>v=.bool (Zc f.b6.l a y)/\(⟨jB,[.int .i64 a],3⟩::⟨dU,f.cells,120⟩::L)=E/\R=R'):=by
 have pK:=aH.aL;have bE:=bR (l:=f.b6.l) (k:=y.toNat) default D;refine cX 17 call141 func141 rfl rfl rfl ?_;apply E8∘iG∘cJ∘kZ∘vC;apply lR (aD:=[_,_,_,_,_,_,_]) (j:=3) (b4:=8) rfl rfl aK rfl b2 rfl;·intro fV;replace fV:=cP fV;apply(h1);refine aA (by first|exact j9 M rfl rfl rfl rfl i6 (i:=y.toNat) c7 D|exact jF M rfl rfl rfl rfl (i:=y.toNat) c7 D) rfl ?_;exact(tG) Bf
 intro m2;apply(sP);refine m5 (⟨jB,[.int .i64 a],3⟩::⟨dU,f.cells,120⟩::L) R ?_;exact⟨by refine congrArg Value.bool ?_;rw[Wb,Zc,decide_eq_true_iff];simp,rfl,rfl⟩
def a05(aL:List cH)(l:List Int):Int:=l.foldl (λa x=>if(aL.getD x.toNat default).hQ≠1 then x else a) (l.getD 0 0)
def Rf(aL:List cH)(l:List Int)(k:Nat):Int:=(l.take k).foldl (λa x=>if(aL.getD x.toNat default).hQ≠1 then x else a) (l.getD 0 0)
def aIJ{aL:List cH}{l:List Int}{k:Nat}(h:k<l.length):Rf aL l (k+1)=if(aL.getD (l.getD k 0).toNat default).hQ≠1 then l.getD k 0 else Rf aL l k:=by have bE:=bR (l:=l) (k:=k) 0 h;rw[Rf,BA,bE,Option.toList_some,NM];rfl
def Pm(c:List cY)(aL:List cH)(c4:List Int)(cV eR a:Int)(k:Nat):Prop:=
 ((k:Int)≠eR/\(c.getD k default).off=true)/\a∈DG aL c4 cV (c4.getD k 0)/\¬∃y∈DG aL c4 cV (c4.getD k 0),Zc aL a y=true
instance(c:List cY)(aL:List cH)(c4:List Int)(cV eR a:Int)(k:Nat):Decidable (Pm c aL c4 cV eR a k):=by unfold Pm;infer_instance
def Hv(c:List cY)(aL:List cH)(c4:List Int)(cV eR a:Int):Prop:=∃k:Nat,k<c4.length/\Pm c aL c4 cV eR a k
instance(c:List cY)(aL:List cH)(c4:List Int)(cV eR a:Int):Decidable (Hv c aL c4 cV eR a):=by unfold Hv;infer_instance
def aFE(c:bP cY)(f:jG)(eR:Int)(L:aW)(R:aP)(PK:aN (AQ c) R)(aH:pY f R)(qA:lA f.b6.l f.b0.l f.eB=0)(dI:0<=eR/\eR<f.b0.l.length)(jO:c.l.length=f.b0.l.length):
 aM prog 95 [c.val,f.val,.int .i64 eR].toArray L R (λv E R'=>v=.tuple #[.int .i64 (a05 f.b6.l (DG f.b6.l f.b0.l f.eB (f.b0.l.getD eR.toNat 0))),.bool (decide (Hv c.l f.b6.l f.b0.l f.eB eR (a05 f.b6.l (DG f.b6.l f.b0.l f.eB (f.b0.l.getD eR.toNat 0)))))]/\L=E/\∀r∈R,aN r R'):=by
 have pK:=aH.aL;have FW:=aH.c4;have bM:=L1 qA;have IZ:=bM.CN;have vT:=bM.BI;have CC:=bR (l:=f.b0.l) (k:=eR.toNat) 0 D;have Fh:=bM.Xm eR.toNat D;refine cX 76 call95 func95 rfl rfl rfl ?_;apply(fC);intro dU;apply eA∘l6∘j6;refine jR M [0,1,2,3,4,5,6,7] _ mixed aQ iP ?_;refine b7 qW rfl rfl rfl ?_;apply(uH);refine b7 (by first|exact j9 M rfl rfl rfl rfl i6 (i:=eR.toNat) c7 D|exact jF M rfl rfl rfl rfl (i:=eR.toNat) c7 D) rfl rfl rfl ?_;apply(s0);refine zD rfl (a7D f (f.b0.l.getD eR.toNat 0) _ _ aH) rfl rfl ?_;rintro v E R' ⟨q,rfl,g7,eZ,rfl,rfl⟩;refine⟨bC,hC,?_⟩;refine b7 (qG K8) rfl rfl rfl ?_;apply(KU);have yK:=aHI (aL:=f.b6.l) (c4:=f.b0.l) (cV:=f.eB) (s:=f.b0.l.getD eR.toNat 0);rw[<-eZ]at yK;have WM:0<q.l.length:=by rw[eZ,DG,if_neg D,Yn bM.up D D,kL];omega
 have aAs:∀x∈q.l,0<=x/\x<f.b6.l.length:=λx K=>by have:=a5G (aL:=f.b6.l) (c4:=f.b0.l) (cV:=f.eB) (s:=f.b0.l.getD eR.toNat 0) (x:=x) (by rw[<-eZ];exact K);omega
 have b9S:=bR (l:=q.l) (k:=0) 0 WM;refine rY (A:=[]) (aI:=1) [] bH aX g7 eW ?_;refine e7 aCm ?_;obtain⟨hE,wP⟩:∃hE,hE=dW q.W::R:=⟨_,rfl⟩;have nG:∀r∈R,aN r hE:=λr O=>aU (by rw[wP];exact .tail _ O);have a2L:aN (dW q.W) hE:=aU Xe;have b8Y:=PK.mono nG;have tR:=aH.mono nG;have b4J:=tR.aL;have aAY:=tR.c4;refine w8 a4F ?_;apply vE∘OJ∘dO;intro jB;apply a3s∘mY∘r3;refine e3 [(0,.slice _ _ _),(2,.int _ _),(4,.pointer _),(9,.pointer _),(26,.slice _ _ _),(27,.int _ _),(28,.int _ _)] cB λg9=>?_;refine m6 ([11]++dJ 28 13) ((⟨λg=>[(28,.int .i64 ((g.1.1:Nat):Int))],λg=>⟨jB,[.int .i64 g.1.2],3⟩::⟨dU,f.cells,120⟩::L,λ_=>hE,λg=>q.l.length-g.1.1⟩:e0 {g:Nat×Int//g.1<=q.l.length/\g.2=Rf f.b6.l q.l g.1})) (⟨(0,q.l.getD 0 0),by dsimp only;omega,rfl⟩) ?_;rintro⟨⟨k,a⟩,Y,bX⟩ c1;try dsimp only
 dsimp only at Y bX;apply(gU);refine aJ ?_ ?_<;>intro bI;·
  have WO:=bR (l:=q.l) (k:=k) 0 D;have aMH:=aAs _ (hS WO);have S6:=bR (l:=f.b6.l) (k:=(q.l.getD k 0).toNat) default D;apply jK∘aDI∘U3∘h1;refine aA aQC rfl ?_;apply tG∘pG;refine aJ ?_ ?_<;>intro cK;·apply nP∘a3s∘tF;exact eG ⟨(k+1,q.l.getD k 0),by dsimp only;omega,by dsimp only;rw[aIJ D,if_pos cK]⟩
  apply(k9);exact eG ⟨(k+1,a),by dsimp only;omega,by dsimp only;rw[aIJ D,if_neg cK];exact bX⟩
 obtain rfl:k=q.l.length:=by omega
 have Ef:(a05 f.b6.l (DG f.b6.l f.b0.l f.eB (f.b0.l.getD eR.toNat 0)))=a:=by rw[bX,Rf,BB,<-eZ];rfl
 apply D2∘pE;refine e3 [(0,.slice _ _ _),(2,.int _ _),(4,.pointer _),(9,.pointer _),(42,.slice _ _ _),(43,.int _ _),(44,.int _ _)] cB λs4=>?_;refine m6 ([6,7,12,13,14,15]++dJ 44 31) ((⟨λg=>[(44,.int .i64 ((g.1:Nat):Int))],λg=>⟨jB,[.int .i64 a],3⟩::⟨dU,f.cells,120⟩::L,λ_=>hE,λg=>f.b0.l.length-g.1⟩:e0 {i:Nat//i<=f.b0.l.length/\∀j:Nat,j<i->¬Pm c.l f.b6.l f.b0.l f.eB eR a j})) (⟨0,by omega,λj a6=>by omega⟩) ?_;rintro⟨i,aB,jX⟩ c1;try dsimp only
 apply(gU);refine aJ ?_ ?_<;>intro dE;·
  have b9e:=bR (l:=f.b0.l) (k:=i) 0 D;have AY:=bR (l:=c.l) (k:=i) default D;apply nC∘aDU∘kY∘eA∘kB∘wF∘BQ;apply dT (aD:=[_,_,_,_,_,_]) (j:=3) (b4:=52) rfl rfl aK rfl b2 rfl;·intro fV;replace fV:=cP fV;exact(k2∘aDU∘tG) QC
  intro m2;apply(dD);refine aJ ?_ ?_<;>intro gZ;·
   refine oZ (oX (oW (bY (dM ?_))));apply(m0);exact lP ⟨i+1,by omega,λj a6=>by
   rcases gX j i with h|h;·exact jX j h
   ·
    (obtain rfl:j=i:=by omega);rintro⟨⟨G,U⟩,_⟩;rcases gZ with aO|aO;·exact G aO
    ·rw[U]at aO;cases aO⟩ hM cB bC eX kM
  apply(gI);refine aA qW rfl ?_;apply(cJ);refine dN rfl (a7D f (f.b0.l.getD i 0) _ _ tR) rfl ?_;rintro v E R' ⟨gP,rfl,KK,zP,rfl,rfl⟩;apply(OK);have b4t:∀x∈gP.l,0<=x/\x<f.b6.l.length:=λx K=>by have:=a5G (aL:=f.b6.l) (c4:=f.b0.l) (cV:=f.eB) (s:=f.b0.l.getD i 0) (x:=x) (by rw[<-zP];exact K);omega
  refine rY (A:=[]) (aI:=1) [] bH aX KK eW ?_;refine e7 aCm ?_;obtain⟨oL,DL⟩:∃oL,oL=dW gP.W::hE:=⟨_,rfl⟩;have G5:∀r∈hE,aN r oL:=λr O=>aU (by rw[DL];exact .tail _ O);have a2K:aN (dW gP.W) oL:=aU (by rw[DL];exact .head _);have Kp:=tR.mono G5;refine w8 (show _=oL by rw[DL]) ?_;apply(vE);refine aA (a02 rfl) rfl ?_;refine eD rfl (aYP gP.W (Zc f.b6.l a) 141 #[.pointer (some ⟨jB,0,none⟩),.pointer (some ⟨dU,0,none⟩)] _ _ a2K (λy bB=>aTA f a y jB dU L _ Kp (b4t y bB))) ?_;apply uK∘gQ∘kZ;refine eD rfl (aJj gP.W a _ _ a2K) ?_;apply(fD);apply lR (aD:=[_,_]) (j:=3) (b4:=69) rfl rfl aK rfl b2 rfl;·intro fV;replace fV:=cP fV;exact(fD) QC
  intro m2;apply(dD);refine aJ ?_ ?_<;>intro fW;·have Ey:Pm c.l f.b6.l f.b0.l f.eB eR a i:=⟨gZ,by rw[<-zP];exact fW⟩;apply eV∘kZ∘eA∘l6∘TK;refine cF L oL TS ?_;exact⟨by rw[Ef,decide_eq_true (p:=Hv c.l f.b6.l f.b0.l f.eB eR a) ⟨i,by omega,Ey⟩],rfl,λr O=>(nG r O).mono G5⟩
  apply(k9);exact lP ⟨i+1,by omega,λj a6=>by
  rcases gX j i with h|h;·exact jX j h
  ·
   (obtain rfl:j=i:=by omega);rintro⟨_,U⟩;rw[<-zP]at U;rcases fW with bW|bW;·exact bW U.1
   ·exact U.2 bW⟩ hM cB bC G5 kM
 apply oS∘kZ∘eA∘sP;refine cF L hE TS ?_;exact⟨by rw[Ef,decide_eq_false (p:=Hv c.l f.b6.l f.b0.l f.eB eR a)];rintro⟨j,a6,Ey⟩;exact jX j D Ey,rfl,nG⟩
end
end Go.Proofs.YtdiajbdaadlfhaaGreatDoor
