/-
  Merged texts. By an AI agent.
-/
import Derived.Test.YtchfclmokpbldaaGreatSiteD
import Derived.Laws.StructEq
import Derived.Test.YtchfclmokpbldaaGreatDraws
import Derived.Test.YtchfclmokpbldaaGreatFeedP
import Derived.Test.YtchfclmokpbldaaGreatSiteS
set_option linter.all false
set_option maxHeartbeats 4000000
set_option maxRecDepth 20000
variable{A B:Prop}
namespace Go.Proofs.YtchfclmokpbldaaGreat
open Go.Aw Go Go.Proofs.Tryz
inductive BE where
 |i
 |b
def BE.a77:BE->Value->Prop
 | .i,.int .i64 _=>True
 | .b,.bool _=>True
 |_,_=>False
def BS:List BE->List Value->Prop
 |[],[]=>True
 |k::m7,v::vs=>k.a77 v/\BS m7 vs
 |_,_=>False
def Pc:Value->Value->Bool
 | .int _ a,.int _ b=>decide (a=b)
 | .bool a,.bool b=>decide (a=b)
 |_,_=>false
def z0:List Value->List Value->Bool
 |a::l,b::m=>Pc a b && z0 l m
 |_,_=>true
def aFv: ∀{m7:List BE} {l:List Value},BS m7 l->l.length=m7.length
 |[],[],_=>rfl
 |[],_::_,h=>h.elim
 |_::_,[],h=>h.elim
 |k::m7,v::vs,h=>by simp[aFv h.2]
def a51: ∀{m7 DG:List BE} {l:List Value},BS (m7++DG) l->BS m7 (l.take m7.length)/\BS DG (l.drop m7.length)
 |[],DG,l,h=>⟨by simp[BS],by simpa using h⟩
 |k::m7,DG,[],h=>h.elim
 |k::m7,DG,v::vs,h=>by
  have:=a51 (m7:=m7) (DG:=DG) (l:=vs) h.2
  exact⟨⟨h.1,this.1⟩,this.2⟩
def aIh: ∀(n:Nat) (l m:List Value),z0 l m=(z0 (l.take n) (m.take n) && z0 (l.drop n) (m.drop n))
 |0,l,m=>by simp[z0]
 |n+1,[],m=>by simp[z0]
 |n+1,a::l,[]=>by simp[z0]
 |n+1,a::l,b::m=>by
  simp only[List.take_succ_cons,List.drop_succ_cons,z0]
  rw[aIh n l m,Bool.and_assoc]
section
variable{P:Program}
def X7(P:Program)(d:Nat)(I:TypeId)(m7:List BE):Prop:=
 ∀(xs mY:List Value) (off:Nat) (w:World),BS m7 ((xs.drop off).take m7.length)->BS m7 ((mY.drop off).take m7.length)->
  ∃a b,(part I xs.toArray off).run P w=.ok a w/\(part I mY.toArray off).run P w=.ok b w/\(Op.equalIn d I a b).run P w=.ok (z0 ((xs.drop off).take m7.length) ((mY.drop off).take m7.length)) w
def Ye{I:TypeId}{xs:List Value}{off:Nat}{v:Value}{w:World}(GA:(isAgg I).run P w=.ok false w)(h:(xs.drop off).take 1=[v]):(part I xs.toArray off).run P w=.ok v w:=by
 have cY:xs[off]?=some v:=by
  have:((xs.drop off).take 1)[0]?=some v:=by rw[h];rfl
  rw[XX]at this;simpa using this
 simp only[part,w0,GA,u2];simp[cY]
def Zz{l:List Value}{k:BE}(h:BS [k] l):∃v,l=[v]/\k.a77 v:=by
 match l,h with
 |[v],h=>exact⟨v,rfl,h.1⟩
def yJ{d:Nat}{I:TypeId}(h:P.underlying I=some (.int .i64)):X7 P (d+1) I [.i]:=by
 intro xs mY off w K aS;have GA:(isAgg I).run P w=.ok false w:=by simp[isAgg,run_underlying h]
 obtain⟨u,dL,a8a⟩:=Zz K;obtain⟨v,cY,a8b⟩:=Zz aS;refine⟨u,v,Ye GA dL,Ye GA cY,?_⟩;have N9:(xs.drop off).take [BE.i].length=[u]:=dL;have Mk:(mY.drop off).take [BE.i].length=[v]:=cY;rw[N9,Mk]
 match u,v,a8a,a8b with
 | .int .i64 a,.int .i64 b,_,_=>rw[run_equalIn_int (P:=P) w d I .i64 .i64 a b h,Za];simp[z0,Pc]
def Di{d:Nat}{I:TypeId}(h:P.underlying I=some .bool):X7 P (d+1) I [.b]:=by
 intro xs mY off w K aS;have GA:(isAgg I).run P w=.ok false w:=by simp[isAgg,run_underlying h]
 obtain⟨u,dL,a8a⟩:=Zz K;obtain⟨v,cY,a8b⟩:=Zz aS;refine⟨u,v,Ye GA dL,Ye GA cY,?_⟩;have N9:(xs.drop off).take [BE.b].length=[u]:=dL;have Mk:(mY.drop off).take [BE.b].length=[v]:=cY;rw[N9,Mk]
 match u,v,a8a,a8b with
 | .bool a,.bool b,_,_=>rw[run_equalIn_bool (P:=P) w d I a b h];simp only[z0,Pc,Bool.and_true];cases a<;>cases b<;>rfl
def YU:Nat->List (TypeId×List BE)->List (Bool×TypeId×Nat)
 |_,[]=>[]
 |o,(I,m7)::l=>(false,I,o)::YU (o+m7.length) l
def aJD{d:Nat}: ∀(c9:List (TypeId×List BE)) (sL:List Field) (xs mY:List Value) (off:Nat) (w:World),sL.map (fun f=>(f.name== "_",f.type,f.offset))=YU off c9→(∀p∈c9,X7 P d p.1 p.2)→
 BS (c9.flatMap (·.2)) (xs.drop off)->BS (c9.flatMap (·.2)) (mY.drop off)->(Op.eqFields d xs.toArray mY.toArray sL).run P w=.ok (z0 (xs.drop off) (mY.drop off)) w
 |[],sL,xs,mY,off,w,a3,_,K,aS=>by
  have:sL=[]:=by simpa[YU]using a3
  subst this
  have O:=aFv K
  have X:xs.drop off=[]:=Hx Xu
  rw[X]
  simp[Op.eqFields,z0]
 |(I,m7)::c9,[],xs,mY,off,w,a3,_,_,_=>by simp[YU]at a3
 |(I,m7)::c9,f::sL,xs,mY,off,w,a3,aP,K,aS=>by
  simp only[wZ,YU,a3w,Prod.mk.injEq]at a3
  obtain⟨⟨jY,iE,Sl⟩,a3⟩:=a3
  have KE:f.name≠ "_" :=by simpa using jY
  rw[CF]at K aS
  obtain⟨XN,XO⟩:=a51 K
  obtain⟨aCm,DJ⟩:=a51 aS
  obtain⟨a,b,bT,a5,Fm⟩:=aP (I,m7) Ht xs mY off w XN aCm
  have c6:=aJD c9 sL xs mY (off+m7.length) w a3 (λp h=>aP p (OV _ h)) (by rw[<-a3y];exact XO) (by rw[<-a3y];exact DJ)
  simp only[Op.eqFields,if_pos KE,iE,Sl,w0,bT,a5,Fm,u2,Sem.run_ite,KQ]
  rw[aIh m7.length (xs.drop off) (mY.drop off),a3y,a3y]
  cases cG:z0 ((xs.drop off).take m7.length) ((mY.drop off).take m7.length)with
  |false=>simp
  |true=>simpa using c6
def aHr{d:Nat}{T:TypeId}{c9:List (TypeId×List BE)}(O:P.underlying T=some (.struct (P.fieldsOf T)))(X:P.stoodInHeld T=false)(cK:(P.fieldsOf T).toList.map (fun f=>(f.name== "_",f.type,f.offset))=YU 0 c9)(aP: ∀p∈c9,X7 P d p.1 p.2)
 {xs mY:List Value} {w:World} (K:BS (c9.flatMap (·.2)) xs) (aS:BS (c9.flatMap (·.2)) mY):(Op.equalIn (d+1) T (.agg xs.toArray) (.agg mY.toArray)).run P w=.ok (z0 xs mY) w:=by rw[run_equalIn_agg w d T _ _ O X];exact aJD c9 _ xs mY 0 w cK aP K aS
def aTI{d:Nat}{I:TypeId}{c9:List (TypeId×List BE)}{i:TypeInfo}(O:P.underlying I=some (.struct (P.fieldsOf I)))(X:P.stoodInHeld I=false)(aE:P.info? I=some i)(cG:P.cellsOf I=(c9.flatMap (·.2)).length)(cK:(P.fieldsOf I).toList.map (fun f=>(f.name== "_",f.type,f.offset))=YU 0 c9)(aP: ∀p∈c9,X7 P d p.1 p.2):
 X7 P (d+1) I (c9.flatMap (·.2)):=by
 intro xs mY off w K aS;have GA:(isAgg I).run P w=.ok true w:=by simp[isAgg,run_underlying O]
 have aH:(sizeOf I).run P w=.ok (c9.flatMap (·.2)).length w:=by rw[run_sizeOf w aE,cG]
 have zL:∀UL:List Value,(part I UL.toArray off).run P w=.ok (.agg ((UL.drop off).take (c9.flatMap (·.2)).length).toArray) w:=λUL=>by simp only[part,w0,GA,u2,if_true,aH,KQ];congr 2;simp
 exact⟨_,_,zL xs,zL mY,aHr O X cK aP K aS⟩
structure PJ(P:Program)(T:TypeId)(m7:List BE):Prop where
 eq:∀(xs mY:List Value) (w:World),BS m7 xs->BS m7 mY->(Op.equalIn 10000 T (.agg xs.toArray) (.agg mY.toArray)).run P w=.ok (z0 xs mY) w
 guard:P.eqGuardType P.depth T=false
def YY{T:TypeId}(c9:List (TypeId×List BE)){m7:List BE}(O:P.underlying T=some (.struct (P.fieldsOf T)))(X:P.stoodInHeld T=false)(aU:P.eqGuardType P.depth T=false)(cK:(P.fieldsOf T).toList.map (fun f=>(f.name== "_",f.type,f.offset))=YU 0 c9)(aG:c9.flatMap (·.2)=m7)(aP: ∀p∈c9,X7 P 9999 p.1 p.2):PJ P T m7:=
 ⟨λxs mY w K aS=>aHr O X cK aP (by rw[aG];exact K) (by rw[aG];exact aS),aU⟩
end
section
variable{P:Program}{bF:Operand->Value}{L:aR}{R:aO}{dst:Option Tmp}{ty:TypeId}{pos:String}{after:Array Edge}{guard:Option (Nat×Bool)}{T iZ:TypeId}{x y:Operand}{m7:List BE}{xs mY:List Value}
def aKo(dW:PJ P T m7)(K:bF x=.agg xs.toArray)(aS:bF y=.agg mY.toArray)(a8c:BS m7 xs)(a8d:BS m7 mY){b:Bool}(a5:z0 xs mY=b):cP P ⟨dst,.binOp .eql T x y iZ,ty,pos,after,guard⟩ bF L R (.bool b):=λ_ w _=>by
 have O:=run_eqGuard_agg (P:=P) w .eql T x y xs.toArray mY.toArray dW.guard
 simp only[execOp,K,aS,w0,O,u2,run_eql_struct,dW.eq xs mY _ a8c a8d,a5]
 simp
def Cz(dW:PJ P T m7)(K:bF x=.agg xs.toArray)(aS:bF y=.agg mY.toArray)(a8c:BS m7 xs)(a8d:BS m7 mY){b:Bool}(a5:z0 xs mY=b):cP P ⟨dst,.binOp .neq T x y iZ,ty,pos,after,guard⟩ bF L R (.bool (!b)):=λ_ w _=>by
 have O:=run_eqGuard_agg (P:=P) w .neq T x y xs.toArray mY.toArray dW.guard
 simp only[execOp,K,aS,w0,O,u2,run_neq_struct,dW.eq xs mY _ a8c a8d,a5]
 simp
end
def aTM:PJ prog 153 [.b,.i,.i]:=
 YY [(4,[.b]),(3,[.i]),(3,[.i])] bI bI bI bI rfl (by
  intro p aP
  simp only[sW,vR,or_false]at aP
  rcases aP with rfl|rfl|rfl
  ·exact Di bI
  ·exact yJ bI
  ·exact yJ bI)
def aXm:PJ prog 71 [.b,.i,.i]:=
 YY [(4,[.b]),(3,[.i]),(3,[.i])] bI bI bI bI rfl (by
  intro p aP
  simp only[sW,vR,or_false]at aP
  rcases aP with rfl|rfl|rfl
  ·exact Di bI
  ·exact yJ bI
  ·exact yJ bI)
section
def Kw(h:A->B:=by exact aI mM rfl):=h
def aVG(h:A->B:=by exact hT aSC rfl):=h
def aXf(h:A->B:=by exact hT aQX rfl):=h
def aES(h:B:=by exact⟨.nil,.nil,0,by rw[W];rfl,⟨J.iJ,J.iJ⟩,λh=>by omega,by rw[mE,mE];rfl,rfl⟩):=h
def aWk:PJ prog 76 [.i,.i,.i,.b,.b]:=
 YY [(3,[.i]),(3,[.i]),(3,[.i]),(4,[.b]),(4,[.b])] bI bI bI bI rfl (by
  intro p aP
  simp only[sW,vR,or_false]at aP
  rcases aP with rfl|rfl|rfl|rfl|rfl
  ·exact yJ bI
  ·exact yJ bI
  ·exact yJ bI
  ·exact Di bI
  ·exact Di bI)
def aYV:PJ prog 51 [.i,.i,.i,.i,.i]:=
 YY [(3,[.i]),(3,[.i]),(3,[.i]),(3,[.i]),(3,[.i])] bI bI bI bI rfl (by
  intro p aP
  simp only[sW,vR,or_false]at aP
  rcases aP with rfl|rfl|rfl|rfl|rfl
  ·exact yJ bI
  ·exact yJ bI
  ·exact yJ bI
  ·exact yJ bI
  ·exact yJ bI)
attribute [local irreducible] cQ dF dV aM cP eC e5 e1 e2 e6 eX e4 J.L
def JD(Y:List bS)(t:Int):Prop:=(0<=t/\t<=2147483648)/\∀x∈Y,x.cZ<=t
instance(Y:List bS)(t:Int):Decidable (JD Y t):=by unfold JD;infer_instance
def u7(Y:List bS)(cI:List Int)(bX s t:Int):Int:=if jS Y cI bX≠0 then jS Y cI bX else if s<0\/(Y.length:Int)<=s then 16 else if JD Y t then 0 else 8
def aJT(f:hJ)(t:Int)(L:aR)(R:aO)(aF:k0 f R):
 aM prog 227 [f.val,.int .i64 t].toArray L R (λv E G=>v=.bool (decide (JD f.aZ.l t))/\L=E/\R=G):=by
 have jB:=aF.Y;refine G9 call227 jB λJ2=>?_;refine b6 25 call227 func227 rfl rfl rfl ?_;apply(dB);intro eH;apply F1∘Y2;apply cA (Z:=[_,_]) (j:=2) (a9:=9) rfl rfl aB rfl aY rfl;·exact G3
 intro mK;apply(b9);refine U ?_ ?_<;>intro aQ;·exact aRP
 apply(NI);refine dS [(1,.int _ _),(14,.slice _ _ _),(15,.int _ _),(16,.int _ _)] bV λfK=>?_;refine gY ([4,6]++cN 16 9) (λg:{k:Nat//k<=f.aZ.l.length/\∀j:Nat,j<k->(f.aZ.l.getD j default).cZ<=t}=>[(16,.int .i64 ((g.1:Nat):Int))]) (λg=>f.aZ.l.length-g.1) (⟨0,by omega,λj a6=>by omega⟩) ?_;rintro⟨k,aG,hC⟩ cH;try dsimp only
 apply(h0);refine U ?_ ?_<;>intro bL;·
  have b7:=bJ (l:=f.aZ.l) (k:=k) default D;apply(j9);refine aI pL rfl ?_;apply(SO);intro i1;apply sI∘NF∘CP;refine U ?_ ?_<;>intro cC;·exact aP6
  apply(mU);exact a3d
 exact aO2
def aDL(f:hJ)(s t:Int)(L:aR)(R:aO)(aF:k0 f R):
 aM prog 150 [f.val,.int .i64 s,.int .i64 t].toArray L R (λv E G=>v=.int .i64 (u7 f.aZ.l f.a2.l f.cB s t)/\L=E/\R=G):=by
 refine b6 26 call150 func150 rfl rfl rfl ?_;apply(dB);intro eS;apply hH∘Kw;refine cD rfl (ZC f _ _ aF) ?_;apply(j7);refine U ?_ ?_<;>intro aQ;·apply(FW);refine cX L R ?_;exact⟨by rw[u7,if_pos aQ],rfl,rfl⟩
 apply(LC);apply cA (Z:=[_,_,_,_,_]) (j:=2) (a9:=15) rfl rfl aB rfl aY rfl;·exact Cm
 intro mK;apply(b9);refine U ?_ ?_<;>intro bL;·exact aPL
 apply hN∘Kw∘cE;refine cD rfl (aJT f t _ _ aF) ?_;apply(nK);refine U ?_ ?_<;>intro cC;·exact aSM
 exact aSP
def Zw(f:hJ)(L:aR)(R:aO)(aF:k0 f R)(b1:f.aZ.l.length<=1000/\f.a2.l.length<=1000):
 aM prog 151 [f.val].toArray L R (λv E G=>∃(p:J bS) (q:J Int),v=.agg #[p.val,q.val,.int .i64 f.cB]/\(p.ok 5 bS.cells/\q.ok 1 a1)/\p.l=f.aZ.l/\q.l=f.a2.l/\q.L 3 a1++(p.L 76 bS.cells++L)=E/\R=G):=by have jB:=aF.Y;have o4:=aF.cI;refine b6 12 call151 func151 rfl rfl rfl ?_;apply(dB);intro gL;apply(dZ);intro eH;exact aRy
def a1m(f:hJ)(L:aR)(R:aO)(aF:k0 f R)(b1:f.aZ.l.length<=1000/\f.a2.l.length<=1000):
 aM prog 207 [f.val].toArray L R (λv E G=>∃(p:J bS) (q:J Int),v=.agg #[p.val,q.val,.int .i64 f.cB]/\(p.ok 5 bS.cells/\q.ok 1 a1)/\p.l=f.aZ.l/\q.l=f.a2.l/\q.L 3 a1++(p.L 76 bS.cells++L)=E/\R=G):=by have jB:=aF.Y;have o4:=aF.cI;refine b6 12 call207 func207 rfl rfl rfl ?_;apply(dB);intro gL;apply(dZ);intro eH;exact aRy
def y3(Y:List bS)(cI:List Int)(bX s t:Int):Int:=
 if u7 Y cI bX s t≠0 then u7 Y cI bX s t
 else if(Y.getD s.toNat default).c1≠-1\/(0<=(Y.getD s.toNat default).bG/\(Y.getD (Y.getD s.toNat default).bG.toNat default).c1≠1)then 10 else 0
def Kr(Y:List bS)(s t:Int):List bS:=Y.set s.toNat ⟨(Y.getD s.toNat default).bG,t,0,true,false⟩
def aTO(f:hJ)(s t:Int)(L:aR)(R:aO)(aF:k0 f R):
 aM prog 166 [f.val,.int .i64 s,.int .i64 t].toArray L R (λv E G=>∃(p:J bS) (q:J Int) (r:Int),v=.tuple #[.agg #[p.val,q.val,.int .i64 r],.int .i64 (y3 f.aZ.l f.a2.l f.cB s t)]/\(p.ok 5 bS.cells/\q.ok 1 a1)/\
  (y3 f.aZ.l f.a2.l f.cB s t=0->p.l=Kr f.aZ.l s t/\q.l=f.a2.l/\r=f.cB)/\q.L 3 a1++(p.L 76 bS.cells++L)=E/\R=G):=by
 have jB:=aF.Y;refine b6 54 call166 func166 rfl rfl rfl ?_;apply(dB);intro eS;apply(dZ);intro i1;apply hH∘Kw∘lD;refine cD rfl (aDL f s t _ _ aF) ?_;apply(j7);refine U ?_ ?_<;>intro aQ;·
  apply(dC);refine aI Il rfl ?_;apply(tQ);refine bQ L R rJ ?_;have W:y3 f.aZ.l f.a2.l f.cB s t=u7 f.aZ.l f.a2.l f.cB s t:=by rw[y3,if_pos aQ]
  exact aES
 have v8:u7 f.aZ.l f.a2.l f.cB s t=0:=by omega
 have i2:jS f.aZ.l f.a2.l f.cB=0:=by rw[u7]at v8;split at v8<;>omega
 have bH:=xZ i2;have GL:=bH.A7;have sP:=bH.w1;have aNc:0<=s/\s<f.aZ.l.length:=by rw[u7,if_neg D]at v8;split at v8<;>omega
 have b7:=bJ (l:=f.aZ.l) (k:=s.toNat) default D;have KA:=bH.up s.toNat D;obtain⟨x,K⟩:∃x,x=f.aZ.l.getD s.toNat default:=⟨_,rfl⟩;rw[<-K]at b7 KA;apply e0∘gK;refine aI a4e rfl ?_;apply(SO);intro jR;apply F0∘p9;apply cA (Z:=[_,_,_,_,_,_,_,_,_,_,_,_,_]) (j:=3) (a9:=27) rfl rfl aB rfl aY rfl;·
  intro eR;replace eR:=bB eR;apply Y7∘dE;apply iR (Z:=[_,_,_,_,_,_,_,_]) (j:=7) (a9:=31) rfl rfl aB rfl aY rfl;·intro hM;replace hM:=bB hM;have b3F:=bJ (l:=f.aZ.l) (k:=x.bG.toNat) default D;apply(j0);refine aI aQM rfl ?_;exact(Ke) g4
  intro OD;exact g4
 intro h8;apply(b9);refine U ?_ ?_<;>intro bL;·
  apply(dC);refine aI Il rfl ?_;apply(p8);refine bQ L R rJ ?_;have W:y3 f.aZ.l f.a2.l f.cB s t=10:=by rw[y3,if_neg D,<-K,if_pos D]
  exact aES
 have W:y3 f.aZ.l f.a2.l f.cB s t=0:=by rw[y3,if_neg D,<-K,if_neg D]
 apply e0∘Kw;refine dT rfl (Zw f _ _ aF D) rfl ?_;rintro v E G ⟨p,q,rfl,⟨iF,gR⟩,eI,fT,rfl,rfl⟩;apply(dZ);intro i0;apply(HT);have zD:p.l[s.toNat]?=some x:=by rw[eI];exact b7
 have lK:p.l.length=f.aZ.l.length:=by rw[eI]
 apply eB∘gK∘gK;refine aI (oU (iD:=[(0,(Value.int _ _).cells.toList),(1,(Value.int _ _).cells.toList),(3,(Value.bool _).cells.toList)]) (dD:=[_,_,_,_,_]) N rfl rfl rfl rfl) rfl ?_;refine aI Ww rfl ?_;refine jH (R2 N (p) (⟨x.bG,t,0,true,false⟩) rfl rfl rfl rfl cF bR bD bR (KO rfl) aB aB) ?_;rintro v E G ⟨rfl,rfl⟩;apply(j2);have TO:=J.qX (f:=bS.cells) (aN:=5) (p:=p) (i:=s.toNat) (x:=⟨x.bG,t,0,true,false⟩) bD iF;apply eB∘Kw∘oH;refine bQ (q.L 3 a1++((⟨p.o,p.l.set s.toNat ⟨x.bG,t,0,true,false⟩⟩:J bS).L 76 bS.cells++L)) R rJ ?_;exact⟨⟨p.o,p.l.set s.toNat ⟨x.bG,t,0,true,false⟩⟩,q,f.cB,by simp only[W,J.val,q0],⟨TO,gR⟩,λ_=>⟨by rw[Kr,<-K,eI],fT,rfl⟩,rfl,rfl⟩
end
section
attribute [local irreducible] cQ dF dV aM cP eC e5 e1 e2 e6 eX e4 J.L
def Zf(h:A->B:=by exact aI mM rfl):=h
def a5g(h:A->B:=by exact aI Il rfl):=h
def a5G(h:B:=by exact⟨.nil,.nil,0,by rw[W];rfl,⟨J.iJ,J.iJ⟩,λh=>by omega,by rw[mE,mE];rfl,rfl⟩):=h
def aId(h:A->B:=by exact bE aQQ rfl rfl rfl):=h
def q6(Y:List bS)(cI:List Int)(bX s t:Int):Int:=
 if jS Y cI bX≠0 then jS Y cI bX else if s<0\/(Y.length:Int)<=s then 16 else if t≠1/\t≠-1 then 10 else 0
def JV(Y:List bS)(s t:Int):List bS:=
 Y.set s.toNat ⟨(Y.getD s.toNat default).bG,(Y.getD s.toNat default).cZ,t,(Y.getD s.toNat default).eJ,if t= -1 then false else(Y.getD s.toNat default).bY⟩
def b0Q(f:hJ)(s t:Int)(L:aR)(R:aO)(aF:k0 f R):
 aM prog 218 [f.val,.int .i64 s,.int .i64 t].toArray L R (λv E G=>∃(p:J bS) (q:J Int) (r:Int),v=.tuple #[.agg #[p.val,q.val,.int .i64 r],.int .i64 (q6 f.aZ.l f.a2.l f.cB s t)]/\(p.ok 5 bS.cells/\q.ok 1 a1)/\
  (q6 f.aZ.l f.a2.l f.cB s t=0->p.l=JV f.aZ.l s t/\q.l=f.a2.l/\r=f.cB)/\q.L 3 a1++(p.L 76 bS.cells++L)=E/\R=G):=by
 have jB:=aF.Y;refine b6 50 call218 func218 rfl rfl rfl ?_;apply(dB);intro eS;apply(dZ);intro i1;apply hH∘Zf;refine cD rfl (Kx f _ _ aF) ?_;apply(j7);refine U ?_ ?_<;>intro aQ;·
  apply dC∘a5g∘tQ;refine bQ L R rJ ?_;have W:q6 f.aZ.l f.a2.l f.cB s t=jS f.aZ.l f.a2.l f.cB:=by rw[q6,if_pos aQ]
  exact a5G
 apply(LC);apply cA (Z:=[_,_,_,_,_]) (j:=2) (a9:=19) rfl rfl aB rfl aY rfl;·exact Cm
 intro mK;apply(b9);refine U ?_ ?_<;>intro bL;·
  apply dC∘a5g∘p8;refine bQ L R rJ ?_;have W:q6 f.aZ.l f.a2.l f.cB s t=16:=by rw[q6,if_neg D,if_pos D]
  exact a5G
 apply hN∘cE∘p9;apply iR (Z:=[_,_]) (j:=2) (a9:=29) rfl rfl aB rfl aY rfl;·intro fQ;replace fQ:=bB fQ;exact(cE) E2
 intro mK;apply(b9);refine U ?_ ?_<;>intro cC;·
  apply dC∘a5g∘p8;refine bQ L R rJ ?_;have W:q6 f.aZ.l f.a2.l f.cB s t=10:=by rw[q6,if_neg D,if_neg D,if_pos D]
  exact a5G
 have W:q6 f.aZ.l f.a2.l f.cB s t=0:=by rw[q6,if_neg D,if_neg D,if_neg D]
 have bH:=xZ (Y:=f.aZ.l) (cI:=f.a2.l) (bX:=f.cB) D;have GL:=bH.A7;have sP:=bH.w1;have b7:=bJ (l:=f.aZ.l) (k:=s.toNat) default D;obtain⟨x,K⟩:∃x,x=f.aZ.l.getD s.toNat default:=⟨_,rfl⟩;rw[<-K]at b7;apply e0∘Zf;refine dT rfl (a1m f _ _ aF D) rfl ?_;rintro v E G ⟨p,q,rfl,⟨iF,gR⟩,eI,fT,rfl,rfl⟩;apply(dZ);intro jR;apply(HT);have zD:p.l[s.toNat]?=some x:=by rw[eI];exact b7
 have lK:p.l.length=f.aZ.l.length:=by rw[eI]
 apply eB∘gK;refine aI Ww rfl ?_;apply T8∘j8∘SQ;refine aI jV rfl ?_;apply(l6);refine jH aSg ?_;rintro v E G ⟨rfl,rfl⟩;apply(CB);have Mc:=J.qX (f:=bS.cells) (aN:=5) (p:=p) (i:=s.toNat) (x:=⟨x.bG,x.cZ,t,x.eJ,x.bY⟩) bD iF;have b4Z:(p.l.set s.toNat ⟨x.bG,x.cZ,t,x.eJ,x.bY⟩)[s.toNat]?=some ⟨x.bG,x.cZ,t,x.eJ,x.bY⟩:=tJ D;apply tR∘nJ;refine U ?_ ?_<;>intro dX;·apply eB∘lX;refine aI jV rfl ?_;apply(l6);refine jH (j5 N ((⟨p.o,p.l.set s.toNat ⟨x.bG,x.cZ,t,x.eJ,x.bY⟩⟩:J bS)) (⟨x.bG,x.cZ,t,x.eJ,false⟩) rfl rfl rfl rfl cF bR bD bR aW aB aB) ?_;rintro v E G ⟨rfl,rfl⟩;apply j8∘Zf∘oH;refine bQ (q.L 3 a1++((⟨p.o,(p.l.set s.toNat ⟨x.bG,x.cZ,t,x.eJ,x.bY⟩).set s.toNat ⟨x.bG,x.cZ,t,x.eJ,false⟩⟩:J bS).L 76 bS.cells++L)) R rJ ?_;have TO:=J.qX (f:=bS.cells) (aN:=5) (p:=⟨p.o,p.l.set s.toNat ⟨x.bG,x.cZ,t,x.eJ,x.bY⟩⟩) (i:=s.toNat) (x:=⟨x.bG,x.cZ,t,x.eJ,false⟩) bD Mc;exact⟨⟨p.o,(p.l.set s.toNat ⟨x.bG,x.cZ,t,x.eJ,x.bY⟩).set s.toNat ⟨x.bG,x.cZ,t,x.eJ,false⟩⟩,q,f.cB,by simp only[W,J.val,q0],⟨TO,gR⟩,λ_=>⟨by rw[JV,<-K,if_pos dX];show(p.l.set _ _).set _ _=_;rw[xQ,eI],fT,rfl⟩,rfl,rfl⟩
 apply e0∘Zf∘oH;refine bQ (q.L 3 a1++((⟨p.o,p.l.set s.toNat ⟨x.bG,x.cZ,t,x.eJ,x.bY⟩⟩:J bS).L 76 bS.cells++L)) R rJ ?_;exact⟨⟨p.o,p.l.set s.toNat ⟨x.bG,x.cZ,t,x.eJ,x.bY⟩⟩,q,f.cB,by simp only[W,J.val,q0],⟨Mc,gR⟩,λ_=>⟨by rw[JV,<-K,if_neg dX];show p.l.set _ _=_;rw[eI],fT,rfl⟩,rfl,rfl⟩
def aUU{Y:List bS}(h:ZA Y):∀(n:Nat) (s:Int),s<Y.length->(s+1).toNat<=n->∀x∈CY Y s,0<=x/\x<=s:=by
 intro n;induction n with
 |zero=>intro s _ b1;rw[Kp D];intro x K;cases K
 |succ n c6=>
  intro s aH b1 x K;by_cases b2:s<0;·rw[Kp b2]at K;cases K
  ·
   have bT:=h s.toNat D;rw[Jq h D aH,sW]at K;rcases K with rfl|K;·omega
   ·have:=c6 _ D D x K;omega
def Rj{Y:List bS}{cI:List Int}{bX s:Int}{x:Int}(K:x∈vU Y cI bX s):0<=x/\x<=s/\s<Y.length:=by
 rw[vU]at K;split at K;·cases K
 ·have bH:=xZ (Y:=Y) (cI:=cI) (bX:=bX) D;have:=aUU bH.up _ s D (iK _) x K;omega
def Pa{Y:List bS}{cI:List Int}{bX s:Int}:(vU Y cI bX s).length<=32:=by
 rw[vU];split;·simp
 ·have bH:=xZ (Y:=Y) (cI:=cI) (bX:=bX) D;have O:=bH.A7;have:=a56 bH.up _ s D (iK _);omega
def aYp(f g:hJ)(L:aR)(R:aO)(aF:k0 f R)(b7:k0 g R)(O:f.aZ.l=g.aZ.l)(X:f.a2.l=g.a2.l)(aU:f.cB=g.cB):
 aM prog 68 [f.val,g.val].toArray L R (λv E G=>v=.bool true/\L=E/\R=G):=by
 have jB:=aF.Y;have o4:=aF.cI;have Un:=b7.Y;have a2D:=b7.cI;have Ab:f.aZ.l.length=g.aZ.l.length:=by rw[O]
 have WP:f.a2.l.length=g.a2.l.length:=by rw[X]
 refine G9 call68 jB λJ2=>?_;refine G9 call68 o4 λaL9=>?_;refine b6 66 call68 func68 rfl rfl rfl ?_;apply(dB);intro eH;apply(iV);intro eS;apply F1∘j0∘p9;apply cA (Z:=[_,_,_,_,_,_,_]) (j:=5) (a9:=12) rfl rfl aB rfl aY rfl;·intro kL;replace kL:=bB kL;exact(kD) Co
 intro XC;apply(dE);apply cA (Z:=[_,_,_,_,_,_,_]) (j:=14) (a9:=21) rfl rfl aB rfl aY rfl;·intro pF;replace pF:=bB pF;exact(kD) Co
 intro Q4;apply(b9);refine U ?_ ?_<;>intro aQ;·apply(PR);refine lG L R ?_;exact absurd aU D
 apply(yZ);refine dS [(2,.pointer _),(3,.pointer _),(5,.int _ _)] bV λfK=>?_;refine gY ([4,5]++cN 30 18) (λg:{k:Nat//k<=f.aZ.l.length}=>[(5,.int .i64 ((g.1:Nat):Int))]) (λg=>f.aZ.l.length-g.1) (⟨0,by omega⟩) ?_;rintro⟨k,aG⟩ cH;try dsimp only
 apply(q9);refine U ?_ ?_<;>intro bL;·
  have pX:=bJ (l:=f.aZ.l) (k:=k) default D;have W8:g.aZ.l[k]?=some (f.aZ.l.getD k default):=by rw[<-O];exact pX
  refine eP (a8 (bK (fR (bK ?_))));refine gZ N [0,1,2,3,4,5,6,7,8,9,10] _ dO bI hA ?_;apply HQ∘aId∘HQ∘aId;refine bE (Cz aWk rfl rfl DO DO rfl) rfl rfl rfl ?_;exact Nd
 apply(PZ);refine dS [(2,.pointer _),(3,.pointer _),(6,.int _ _)] bV λoA=>?_;refine gY ([4,6]++cN 48 18) (λg:{k:Nat//k<=f.a2.l.length}=>[(6,.int .i64 ((g.1:Nat):Int))]) (λg=>f.a2.l.length-g.1) (⟨0,by omega⟩) ?_;rintro⟨k,aG⟩ cH;try dsimp only
 apply(q9);refine U ?_ ?_<;>intro dX;·
  have pX:=bJ (l:=f.a2.l) (k:=k) 0 D;have W8:g.a2.l[k]?=some (f.a2.l.getD k 0):=by rw[<-X];exact pX
  refine eP (a8 (bK (fR (bK ?_))));refine gZ N [0,1,2,3,4,5,6,7,8,9,10] _ dO bI hA ?_;apply HQ∘k4∘HQ∘k4;refine bE KU rfl rfl rfl ?_;apply(wV);refine U ?_ ?_<;>intro dY;·apply(FV);refine lG L R ?_;exact absurd dY g2
  exact aTg
 exact Ny
end
end Go.Proofs.YtchfclmokpbldaaGreat
namespace Go.Proofs.YtchfclmokpbldaaGreat
open Go.Aw Go Go.Proofs.Tryz
set_option maxRecDepth 20000
attribute [local irreducible] cQ dF dV aM cP eC e5 e1 e2 e6 eX e4 J.L
def aJz(h:A->B:=by exact aI pL rfl):=h
def aIa(h:A->B:=by exact aI Ol rfl):=h
def aT2(x:a4 Int)(g:Int->Bool)(Lk:FuncId)(cap:Array Value)(L:aR)(R:aO)(K:aL (dU x) R)(cG:∀y∈x.l,aM prog Lk (.int .i64 y::cap.toList).toArray L R (λv E G=>v=.bool (g y)/\L=E/\R=G)):
 aM prog 234 [x.val,.func (.func Lk) #[] cap].toArray L R (λv E G=>∃r:Int,v=.int .i64 r/\(0<=r↔∃y∈x.l,g y=true)/\L=E/\R=G):=by
 refine G9 call234 K λJ2=>?_;refine b6 19 call234 func234 rfl rfl rfl ?_;apply PU∘BN;refine dS [(0,.slice _ _ _),(1,_),(7,.int _ _),(8,.int _ _)] bV λfK=>?_;refine gY ([4,5]++cN 8 11) (λg:{k:Nat//k<=x.l.length/\∀j:Nat,j<k->g (x.l.getD j 0)=false}=>[(8,.int .i64 ((g.1:Nat):Int))]) (λg=>x.l.length-g.1) (⟨0,by omega,λj a6=>by omega⟩) ?_;rintro⟨k,aG,hC⟩ cH;try dsimp only
 apply(h0);refine U ?_ ?_<;>intro aQ;·
  have b7:=bJ (l:=x.l) (k:=k) 0 D;apply oJ∘mO;refine aI iL rfl ?_;apply h9∘aJz∘jG;refine US (Iy rfl rfl (cG (x.l.getD k 0) (hV b7))) rfl rfl ?_;rintro v E G ⟨rfl,rfl,rfl⟩;apply(b9);refine U ?_ ?_<;>intro bL;·apply SM∘ON;refine cX L R ?_;exact⟨k,rfl,⟨λ_=>⟨_,hV b7,bL⟩,λ_=>by omega⟩,rfl,rfl⟩
  apply(mU);exact hP (⟨k+1,by omega,λj a6=>by
  rcases hF j k with h|h;·exact hC j h
  ·(obtain rfl:j=k:=by omega);simpa using bL⟩) gW bV bA eN hO
 apply(D8);refine cX L R ?_;refine⟨-1,rfl,⟨λh=>by omega,λ⟨y,aS,Z8⟩=>?_⟩,rfl,rfl⟩;obtain⟨j,a6,rfl⟩:=Hy aS;have:=hC j D;rw[m8,DN a6]at this;rw[show(some x.l[j]).getD 0=x.l[j]from rfl,Z8]at this;cases this
def b0A(x:a4 Int)(g:Int->Bool)(Lk:FuncId)(cap:Array Value)(L:aR)(R:aO)(K:aL (dU x) R)(cG:∀y∈x.l,aM prog Lk (.int .i64 y::cap.toList).toArray L R (λv E G=>v=.bool (g y)/\L=E/\R=G)):
 aM prog 167 [x.val,.func (.func Lk) #[] cap].toArray L R (λv E G=>v=.bool (decide (∃y∈x.l,g y=true))/\L=E/\R=G):=by refine b6 9 call167 func167 rfl rfl rfl ?_;apply LA∘LF;refine aI iL rfl ?_;refine dT rfl (aT2 x g Lk cap _ _ K cG) rfl ?_;exact aSv
def NR(Y:List bS)(a y:Int):Bool:=decide (y≠a/\(Y.getD y.toNat default).c1= -1)
def aWs(f:hJ)(a y:Int)(jR eD:Nat)(L:aR)(R:aO)(aF:k0 f R)(aS:0<=y/\y<f.aZ.l.length):
 aM prog 168 [.int .i64 y,.pointer (some ⟨jR,0,none⟩),.pointer (some ⟨eD,0,none⟩)].toArray (⟨jR,[.int .i64 a],3⟩::⟨eD,f.cells,42⟩::L) R (λv E G=>v=.bool (NR f.aZ.l a y)/\(⟨jR,[.int .i64 a],3⟩::⟨eD,f.cells,42⟩::L)=E/\R=G):=by
 have jB:=aF.Y;have b7:=bJ (l:=f.aZ.l) (k:=y.toNat) default D;refine b6 17 call168 func168 rfl rfl rfl ?_;apply LA∘FX∘kP∘p9;apply iR (Z:=[_,_,_,_,_,_,_]) (j:=3) (a9:=8) rfl rfl aB rfl aY rfl;·intro eR;replace eR:=bB eR;apply(gK);refine aI (by first|exact j4 N rfl rfl rfl rfl i9 (i:=y.toNat) dA D|exact i5 N rfl rfl rfl rfl (i:=y.toNat) dA D) rfl ?_;exact(sH) KV
 intro h8;apply(uK);refine lG (⟨jR,[.int .i64 a],3⟩::⟨eD,f.cells,42⟩::L) R ?_;exact⟨by refine congrArg Value.bool ?_;rw[Bv,NR,decide_eq_true_iff];simp,rfl,rfl⟩
def PG(Y:List bS)(l:List Int):Int:=l.foldl (λa x=>if(Y.getD x.toNat default).c1≠1 then x else a) (l.getD 0 0)
def PC(Y:List bS)(l:List Int)(k:Nat):Int:=(l.take k).foldl (λa x=>if(Y.getD x.toNat default).c1≠1 then x else a) (l.getD 0 0)
def Yx{Y:List bS}{l:List Int}{k:Nat}(h:k<l.length):PC Y l (k+1)=if(Y.getD (l.getD k 0).toNat default).c1≠1 then l.getD k 0 else PC Y l k:=by have b7:=bJ (l:=l) (k:=k) 0 h;rw[PC,ME,b7,aCt,Bu];rfl
def Iu(c:List b8)(Y:List bS)(cI:List Int)(bX dN a:Int)(k:Nat):Prop:=
 ((k:Int)≠dN/\(c.getD k default).off=true)/\a∈vU Y cI bX (cI.getD k 0)/\¬∃y∈vU Y cI bX (cI.getD k 0),NR Y a y=true
instance(c:List b8)(Y:List bS)(cI:List Int)(bX dN a:Int)(k:Nat):Decidable (Iu c Y cI bX dN a k):=by unfold Iu;infer_instance
def VK(c:List b8)(Y:List bS)(cI:List Int)(bX dN a:Int):Prop:=∃k:Nat,k<cI.length/\Iu c Y cI bX dN a k
instance(c:List b8)(Y:List bS)(cI:List Int)(bX dN a:Int):Decidable (VK c Y cI bX dN a):=by unfold VK;infer_instance
def aDD(c:a4 b8)(f:hJ)(dN:Int)(L:aR)(R:aO)(AN:aL (sE c) R)(aF:k0 f R)(i2:jS f.aZ.l f.a2.l f.cB=0)(eW:0<=dN/\dN<f.a2.l.length)(kK:c.l.length=f.a2.l.length):
 aM prog 88 [c.val,f.val,.int .i64 dN].toArray L R (λv E G=>v=.tuple #[.int .i64 (PG f.aZ.l (vU f.aZ.l f.a2.l f.cB (f.a2.l.getD dN.toNat 0))),.bool (decide (VK c.l f.aZ.l f.a2.l f.cB dN (PG f.aZ.l (vU f.aZ.l f.a2.l f.cB (f.a2.l.getD dN.toNat 0)))))]/\L=E/\∀r∈R,aL r G):=by
 have jB:=aF.Y;have o4:=aF.cI;have bH:=xZ i2;have GL:=bH.A7;have sP:=bH.w1;have qG:=bJ (l:=f.a2.l) (k:=dN.toNat) 0 D;have A0:=bH.X5 dN.toNat D;refine b6 76 call88 func88 rfl rfl rfl ?_;apply(dB);intro eD;apply D6∘j2;refine gZ N [0,1,2,3,4,5,6,7] _ dO bI hA ?_;refine bE mM rfl rfl rfl ?_;apply(l1);refine bE (by first|exact j4 N rfl rfl rfl rfl i9 (i:=dN.toNat) dA D|exact i5 N rfl rfl rfl rfl (i:=dN.toNat) dA D) rfl rfl rfl ?_;apply(k4);refine tP rfl (a7G f (f.a2.l.getD dN.toNat 0) _ _ aF) rfl rfl ?_;rintro v E G ⟨q,rfl,gR,fT,rfl,rfl⟩;refine⟨bA,iQ,?_⟩;refine bE zT rfl rfl rfl ?_;apply(IP);have sO:=Pa (Y:=f.aZ.l) (cI:=f.a2.l) (bX:=f.cB) (s:=f.a2.l.getD dN.toNat 0);rw[<-fT]at sO;have QV:0<q.l.length:=by rw[fT,vU,if_neg D,Jq bH.up D D,wD];omega
 have WX:∀x∈q.l,0<=x/\x<f.aZ.l.length:=λx K=>by have:=Rj (Y:=f.aZ.l) (cI:=f.a2.l) (bX:=f.cB) (s:=f.a2.l.getD dN.toNat 0) (x:=x) (by rw[<-fT];exact K);omega
 have b94:=bJ (l:=q.l) (k:=0) 0 QV;refine E7 (A:=[]) (aN:=1) [] bD aW gR e8 ?_;refine eM Oc ?_;obtain⟨hG,C5⟩:∃hG,hG=dU q.V::R:=⟨_,rfl⟩;have kY:∀r∈R,aL r hG:=λr M=>aT (by rw[C5];exact .tail _ M);have WW:aL (dU q.V) hG:=aT Xq;have b9v:=AN.mono kY;have vL:=aF.mono kY;have Un:=vL.Y;have a2D:=vL.cI;refine wK a37 ?_;apply BL∘Bk∘jG∘dZ;intro jR;apply a23∘rF∘BN;refine dS [(0,.slice _ _ _),(2,.int _ _),(4,.pointer _),(9,.pointer _),(26,.slice _ _ _),(27,.int _ _),(28,.int _ _)] bV λfK=>?_;refine k2 ([11]++cN 28 13) ((⟨λg=>[(28,.int .i64 ((g.1.1:Nat):Int))],λg=>⟨jR,[.int .i64 g.1.2],3⟩::⟨eD,f.cells,42⟩::L,λ_=>hG,λg=>q.l.length-g.1.1⟩:fB {g:Nat×Int//g.1<=q.l.length/\g.2=PC f.aZ.l q.l g.1})) (⟨(0,q.l.getD 0 0),by dsimp only;omega,rfl⟩) ?_;rintro⟨⟨k,a⟩,aG,bT⟩ cH;try dsimp only
 dsimp only at aG bT;apply(h0);refine U ?_ ?_<;>intro aQ;·
  have AW:=bJ (l:=q.l) (k:=k) 0 D;have Uk:=WX _ (hV AW);have wN:=bJ (l:=f.aZ.l) (k:=(q.l.getD k 0).toNat) default D;apply j9∘aJz∘VU∘gK;refine aI aDg rfl ?_;apply sH∘rR;refine U ?_ ?_<;>intro bL;·apply tR∘a23∘uJ;exact eO ⟨(k+1,q.l.getD k 0),by dsimp only;omega,by dsimp only;rw[Yx D,if_pos bL]⟩
  apply(mU);exact eO ⟨(k+1,a),by dsimp only;omega,by dsimp only;rw[Yx D,if_neg bL];exact bT⟩
 obtain rfl:k=q.l.length:=by omega
 have N2:(PG f.aZ.l (vU f.aZ.l f.a2.l f.cB (f.a2.l.getD dN.toNat 0)))=a:=by rw[bT,PC,Hv,<-fT];rfl
 apply xN∘qP;refine dS [(0,.slice _ _ _),(2,.int _ _),(4,.pointer _),(9,.pointer _),(42,.slice _ _ _),(43,.int _ _),(44,.int _ _)] bV λoA=>?_;refine k2 ([6,7,12,13,14,15]++cN 44 31) ((⟨λg=>[(44,.int .i64 ((g.1:Nat):Int))],λg=>⟨jR,[.int .i64 a],3⟩::⟨eD,f.cells,42⟩::L,λ_=>hG,λg=>f.a2.l.length-g.1⟩:fB {i:Nat//i<=f.a2.l.length/\∀j:Nat,j<i->¬Iu c.l f.aZ.l f.a2.l f.cB dN a j})) (⟨0,by omega,λj a6=>by omega⟩) ?_;rintro⟨i,aE,hC⟩ cH;try dsimp only
 apply(h0);refine U ?_ ?_<;>intro cC;·
  have b9G:=bJ (l:=f.a2.l) (k:=i) 0 D;have qD:=bJ (l:=c.l) (k:=i) default D;apply oJ∘aIa∘jG∘dM∘hH∘lD∘sG;apply cA (Z:=[_,_,_,_,_,_]) (j:=3) (a9:=52) rfl rfl aB rfl aY rfl;·intro eR;replace eR:=bB eR;exact(h9∘aIa∘sH) I0
  intro h8;apply(b9);refine U ?_ ?_<;>intro dX;·
   refine mD (mF (mB (a8 (c2 ?_))));apply(s6);exact hP ⟨i+1,by omega,λj a6=>by
   rcases hF j i with h|h;·exact hC j h
   ·
    (obtain rfl:j=i:=by omega);rintro⟨⟨O,X⟩,_⟩;rcases dX with aU|aU;·exact O aU
    ·rw[X]at aU;cases aU⟩ gW bV bA eN hO
  apply(e0);refine aI mM rfl ?_;apply(cE);refine dT rfl (a7G f (f.a2.l.getD i 0) _ _ vL) rfl ?_;rintro v E G ⟨fW,rfl,IG,DB,rfl,rfl⟩;apply(BK);have b49:∀x∈fW.l,0<=x/\x<f.aZ.l.length:=λx K=>by have:=Rj (Y:=f.aZ.l) (cI:=f.a2.l) (bX:=f.cB) (s:=f.a2.l.getD i 0) (x:=x) (by rw[<-DB];exact K);omega
  refine E7 (A:=[]) (aN:=1) [] bD aW IG e8 ?_;refine eM Oc ?_;obtain⟨oV,F8⟩:∃oV,oV=dU fW.V::hG:=⟨_,rfl⟩;have NY:∀r∈hG,aL r oV:=λr M=>aT (by rw[F8];exact .tail _ M);have a2p:aL (dU fW.V) oV:=aT a36;have Z1:=vL.mono NY;refine wK (show _=oV by rw[F8]) ?_;apply(BL);refine aI (Yf rfl) rfl ?_;refine cD rfl (b0A fW.V (NR f.aZ.l a) 168 #[.pointer (some ⟨jR,0,none⟩),.pointer (some ⟨eD,0,none⟩)] _ _ a2p (λy aS=>aWs f a y jR eD L _ Z1 (b49 y aS))) ?_;apply nG∘LF∘kP;refine cD rfl (aVE fW.V a _ _ a2p) ?_;apply(dE);apply iR (Z:=[_,_]) (j:=3) (a9:=69) rfl rfl aB rfl aY rfl;·intro eR;replace eR:=bB eR;exact(dE) I0
  intro h8;apply(b9);refine U ?_ ?_<;>intro dY;·have WT:Iu c.l f.aZ.l f.a2.l f.cB dN a i:=⟨dX,by rw[<-DB];exact dY⟩;apply dC∘kP∘D6∘ON;refine bQ L oV RG ?_;exact⟨by rw[N2,decide_eq_true (p:=VK c.l f.aZ.l f.a2.l f.cB dN a) ⟨i,by omega,WT⟩],rfl,λr M=>(kY r M).mono NY⟩
  apply(mU);exact hP ⟨i+1,by omega,λj a6=>by
  rcases hF j i with h|h;·exact hC j h
  ·
   (obtain rfl:j=i:=by omega);rintro⟨_,X⟩;rw[<-DB]at X;rcases dY with cK|cK;·exact cK X.1
   ·exact X.2 cK⟩ gW bV bA NY hO
 apply n9∘kP∘dM∘uK;refine bQ L hG RG ?_;exact⟨by rw[N2,decide_eq_false (p:=VK c.l f.aZ.l f.a2.l f.cB dN a)];rintro⟨j,a6,WT⟩;exact hC j D WT,rfl,kY⟩
end Go.Proofs.YtchfclmokpbldaaGreat
