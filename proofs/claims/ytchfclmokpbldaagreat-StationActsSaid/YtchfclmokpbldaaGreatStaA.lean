--By an AI agent.
import Derived.Test.YtchfclmokpbldaaGreatFeedP
import Derived.Laws.StructEq
import Derived.Test.YtchfclmokpbldaaGreatFits
import Derived.Test.YtchfclmokpbldaaGreatCutB
import Derived.Test.YtchfclmokpbldaaGreatData
import Derived.Test.YtchfclmokpbldaaGreatFlows
set_option maxRecDepth 9999
set_option linter.all false
set_option maxHeartbeats 0
variable{A B:Prop}
namespace Go.Proofs.YtchfclmokpbldaaGreat
open Go.Aw Go Go.Proofs.Tryz
inductive DU where
 |i
 |b
def DU.Ge:DU->Value->Prop
 | .i,.int .i64 _=>True
 | .b,.bool _=>True
 |_,_=>False
def D4:List DU->List Value->Prop
 |[],[]=>True
 |k::oB,v::vs=>k.Ge v/\D4 oB vs
 |_,_=>False
def Yv:Value->Value->Bool
 | .int _ a,.int _ b=>decide (a=b)
 | .bool a,.bool b=>decide (a=b)
 |_,_=>false
def CP:List Value->List Value->Bool
 |a::l,b::m=>Yv a b && CP l m
 |_,_=>true
def aP4: ∀{oB:List DU} {l:List Value},D4 oB l->l.length=oB.length
 |[],[],_=>rfl
 |[],_::_,h=>h.elim
 |_::_,[],h=>h.elim
 |k::oB,v::vs,h=>by simp[aP4 h.2]
def aBM: ∀{oB F3:List DU} {l:List Value},D4 (oB++F3) l->D4 oB (l.take oB.length)/\D4 F3 (l.drop oB.length)
 |[],F3,l,h=>⟨by simp[D4],by simpa using h⟩
 |k::oB,F3,[],h=>h.elim
 |k::oB,F3,v::vs,h=>by
  have:=aBM (oB:=oB) (F3:=F3) (l:=vs) h.2
  exact⟨⟨h.1,this.1⟩,this.2⟩
def aP0: ∀(n:Nat) (l m:List Value),CP l m=(CP (l.take n) (m.take n) && CP (l.drop n) (m.drop n))
 |0,l,m=>by simp[CP]
 |n+1,[],m=>by simp[CP]
 |n+1,a::l,[]=>by simp[CP]
 |n+1,a::l,b::m=>by
  simp only[List.take_succ_cons,List.drop_succ_cons,CP]
  rw[aP0 n l m,Bool.and_assoc]
section
variable{P:Program}
def Dj(P:Program)(d:Nat)(I:TypeId)(oB:List DU):Prop:=
 ∀(xs n0:List Value) (off:Nat) (w:World),D4 oB ((xs.drop off).take oB.length)->D4 oB ((n0.drop off).take oB.length)->
  ∃a b,(part I xs.toArray off).run P w=.ok a w/\(part I n0.toArray off).run P w=.ok b w/\(Op.equalIn d I a b).run P w=.ok (CP ((xs.drop off).take oB.length) ((n0.drop off).take oB.length)) w
def a4k{I:TypeId}{xs:List Value}{off:Nat}{v:Value}{w:World}(I8:(isAgg I).run P w=.ok false w)(h:(xs.drop off).take 1=[v]):(part I xs.toArray off).run P w=.ok v w:=by
 have hv:xs[off]?=some v:=by
  have:((xs.drop off).take 1)[0]?=some v:=by rw[h];rfl
  rw[Cw]at this;exact NI
 simp only[part,y5,I8,wO];simp[hv]
def a40{l:List Value}{k:DU}(h:D4 [k] l):∃v,l=[v]/\k.Ge v:=by
 match l,h with
 |[v],h=>exact⟨v,rfl,h.1⟩
def A3{d:Nat}{I:TypeId}(h:P.underlying I=some (.int .i64)):Dj P (d+1) I [.i]:=by
 intro xs n0 off w K aN;have I8:(isAgg I).run P w=.ok false w:=by simp[isAgg,run_underlying h]
 obtain⟨u,c4,aDs⟩:=a40 K;obtain⟨v,hv,aDt⟩:=a40 aN;refine⟨u,v,a4k I8 c4,a4k I8 hv,?_⟩;have RL:(xs.drop off).take [DU.i].length=[u]:=c4;have Vi:(n0.drop off).take [DU.i].length=[v]:=hv;rw[RL,Vi]
 match u,v,aDs,aDt with
 | .int .i64 a,.int .i64 b,_,_=>rw[run_equalIn_int (P:=P) w d I .i64 .i64 a b h,a4f];simp[CP,Yv]
def Ky{d:Nat}{I:TypeId}(h:P.underlying I=some .bool):Dj P (d+1) I [.b]:=by
 intro xs n0 off w K aN;have I8:(isAgg I).run P w=.ok false w:=by simp[isAgg,run_underlying h]
 obtain⟨u,c4,aDs⟩:=a40 K;obtain⟨v,hv,aDt⟩:=a40 aN;refine⟨u,v,a4k I8 c4,a4k I8 hv,?_⟩;have RL:(xs.drop off).take [DU.b].length=[u]:=c4;have Vi:(n0.drop off).take [DU.b].length=[v]:=hv;rw[RL,Vi]
 match u,v,aDs,aDt with
 | .bool a,.bool b,_,_=>rw[run_equalIn_bool (P:=P) w d I a b h];simp only[CP,Yv,Bool.and_true];cases a<;>cases b<;>rfl
def Fk:Nat->List (TypeId×List DU)->List (Bool×TypeId×Nat)
 |_,[]=>[]
 |o,(I,oB)::l=>(false,I,o)::Fk (o+oB.length) l
def aQZ{d:Nat}: ∀(bS:List (TypeId×List DU)) (uE:List Field) (xs n0:List Value) (off:Nat) (w:World),uE.map (fun f=>(f.name== "_",f.type,f.offset))=Fk off bS→(∀p∈bS,Dj P d p.1 p.2)→
 D4 (bS.flatMap (·.2)) (xs.drop off)->D4 (bS.flatMap (·.2)) (n0.drop off)->(Op.eqFields d xs.toArray n0.toArray uE).run P w=.ok (CP (xs.drop off) (n0.drop off)) w
 |[],uE,xs,n0,off,w,hm,_,K,aN=>by
  have:uE=[]:=by simpa[Fk]using hm
  subst this
  have N:=aP4 K
  have V:xs.drop off=[]:=Ql a21
  rw[V]
  simp[Op.eqFields,CP]
 |(I,oB)::bS,[],xs,n0,off,w,hm,_,_,_=>by simp[Fk]at hm
 |(I,oB)::bS,f::uE,xs,n0,off,w,hm,hp,K,aN=>by
  simp only[y3,Fk,a8J,Prod.mk.injEq]at hm
  obtain⟨⟨iA,iN,a0X⟩,hm⟩:=hm
  have M9:f.name≠ "_" :=by simpa using iA
  rw[EW]at K aN
  obtain⟨Cu,Cv⟩:=aBM K
  obtain⟨bGX,PH⟩:=aBM aN
  obtain⟨a,b,ha,hb,Nj⟩:=hp (I,oB) Qg xs n0 off w Cu bGX
  have cM:=aQZ bS uE xs n0 (off+oB.length) w hm (λp h=>hp p (PL _ h)) (by rw[<-a8N];exact Cv) (by rw[<-a8N];exact PH)
  simp only[Op.eqFields,if_pos M9,iN,a0X,y5,ha,hb,Nj,wO,Sem.run_ite,NL]
  rw[aP0 oB.length (xs.drop off) (n0.drop off),a8N,a8N]
  cases hc:CP ((xs.drop off).take oB.length) ((n0.drop off).take oB.length)with
  |false=>simp
  |true=>simpa using cM
def aOO{d:Nat}{T:TypeId}{bS:List (TypeId×List DU)}(N:P.underlying T=some (.struct (P.fieldsOf T)))(V:P.stoodInHeld T=false)(b7:(P.fieldsOf T).toList.map (fun f=>(f.name== "_",f.type,f.offset))=Fk 0 bS)(hp: ∀p∈bS,Dj P d p.1 p.2)
 {xs n0:List Value} {w:World} (K:D4 (bS.flatMap (·.2)) xs) (aN:D4 (bS.flatMap (·.2)) n0):(Op.equalIn (d+1) T (.agg xs.toArray) (.agg n0.toArray)).run P w=.ok (CP xs n0) w:=by rw[run_equalIn_agg w d T _ _ N V];exact aQZ bS _ xs n0 0 w b7 hp K aN
def b2d{d:Nat}{I:TypeId}{bS:List (TypeId×List DU)}{i:TypeInfo}(N:P.underlying I=some (.struct (P.fieldsOf I)))(V:P.stoodInHeld I=false)(aA:P.info? I=some i)(hc:P.cellsOf I=(bS.flatMap (·.2)).length)(b7:(P.fieldsOf I).toList.map (fun f=>(f.name== "_",f.type,f.offset))=Fk 0 bS)(hp: ∀p∈bS,Dj P d p.1 p.2):
 Dj P (d+1) I (bS.flatMap (·.2)):=by
 intro xs n0 off w K aN;have I8:(isAgg I).run P w=.ok true w:=by simp[isAgg,run_underlying N]
 have hs:(sizeOf I).run P w=.ok (bS.flatMap (·.2)).length w:=by rw[run_sizeOf w aA,hc]
 have yY:∀GI:List Value,(part I GI.toArray off).run P w=.ok (.agg ((GI.drop off).take (bS.flatMap (·.2)).length).toArray) w:=λGI=>by simp only[part,y5,I8,wO,if_true,hs,NL];congr 2;simp
 exact⟨_,_,yY xs,yY n0,aOO N V b7 hp K aN⟩
structure SN(P:Program)(T:TypeId)(oB:List DU):Prop where
 eq:∀(xs n0:List Value) (w:World),D4 oB xs->D4 oB n0->(Op.equalIn 10000 T (.agg xs.toArray) (.agg n0.toArray)).run P w=.ok (CP xs n0) w
 guard:P.eqGuardType P.depth T=false
def Ep{T:TypeId}(bS:List (TypeId×List DU)){oB:List DU}(N:P.underlying T=some (.struct (P.fieldsOf T)))(V:P.stoodInHeld T=false)(aQ:P.eqGuardType P.depth T=false)(b7:(P.fieldsOf T).toList.map (fun f=>(f.name== "_",f.type,f.offset))=Fk 0 bS)(hk:bS.flatMap (·.2)=oB)(hp: ∀p∈bS,Dj P 9999 p.1 p.2):SN P T oB:=
 ⟨λxs n0 w K aN=>aOO N V b7 hp (by rw[hk];exact K) (by rw[hk];exact aN),aQ⟩
end
section
variable{P:Program}{bA:Operand->Value}{L:aP}{R:aJ}{dst:Option Tmp}{ty:TypeId}{pos:String}{after:Array Edge}{guard:Option (Nat×Bool)}{T jD:TypeId}{x y:Operand}{oB:List DU}{xs n0:List Value}
def aJI(dN:SN P T oB)(K:bA x=.agg xs.toArray)(aN:bA y=.agg n0.toArray)(aDu:D4 oB xs)(aDv:D4 oB n0){b:Bool}(hb:CP xs n0=b):cJ P ⟨dst,.binOp .eql T x y jD,ty,pos,after,guard⟩ bA L R (.bool b):=λ_ w _=>by
 have N:=run_eqGuard_agg (P:=P) w .eql T x y xs.toArray n0.toArray dN.guard
 simp only[execOp,K,aN,y5,N,wO,run_eql_struct,dN.eq xs n0 _ aDu aDv,hb]
 simp
def Kj(dN:SN P T oB)(K:bA x=.agg xs.toArray)(aN:bA y=.agg n0.toArray)(aDu:D4 oB xs)(aDv:D4 oB n0){b:Bool}(hb:CP xs n0=b):cJ P ⟨dst,.binOp .neq T x y jD,ty,pos,after,guard⟩ bA L R (.bool (!b)):=λ_ w _=>by
 have N:=run_eqGuard_agg (P:=P) w .neq T x y xs.toArray n0.toArray dN.guard
 simp only[execOp,K,aN,y5,N,wO,run_neq_struct,dN.eq xs n0 _ aDu aDv,hb]
 simp
end
def b4P:SN prog 153 [.b,.i,.i]:=
 Ep [(4,[.b]),(3,[.i]),(3,[.i])] bE bE bE bE rfl (by
  intro p hp
  simp only[vC,x7,or_false]at hp
  rcases hp with rfl|rfl|rfl
  ·exact Ky bE
  ·exact A3 bE
  ·exact A3 bE)
def b2D:SN prog 71 [.b,.i,.i]:=
 Ep [(4,[.b]),(3,[.i]),(3,[.i])] bE bE bE bE rfl (by
  intro p hp
  simp only[vC,x7,or_false]at hp
  rcases hp with rfl|rfl|rfl
  ·exact Ky bE
  ·exact A3 bE
  ·exact A3 bE)
section
def Rn(h:A->B:=by exact(aG lR ·)):=h
def b6g(h:A->B:=by exact gO aYB rfl):=h
def b11(h:A->B:=by exact gO b0a rfl):=h
def aQq(h:B:=by exact⟨.nil,.nil,0,by rw[X];rfl,⟨J.g6,J.g6⟩,λh=>by omega,by rw[lT,lT];rfl,rfl⟩):=h
def b56:SN prog 76 [.i,.i,.i,.b,.b]:=
 Ep [(3,[.i]),(3,[.i]),(3,[.i]),(4,[.b]),(4,[.b])] bE bE bE bE rfl (by
  intro p hp
  simp only[vC,x7,or_false]at hp
  rcases hp with rfl|rfl|rfl|rfl|rfl
  ·exact A3 bE
  ·exact A3 bE
  ·exact A3 bE
  ·exact Ky bE
  ·exact Ky bE)
def b3p:SN prog 51 [.i,.i,.i,.i,.i]:=
 Ep [(3,[.i]),(3,[.i]),(3,[.i]),(3,[.i]),(3,[.i])] bE bE bE bE rfl (by
  intro p hp
  simp only[vC,x7,or_false]at hp
  rcases hp with rfl|rfl|rfl|rfl|rfl
  ·exact A3 bE
  ·exact A3 bE
  ·exact A3 bE
  ·exact A3 bE
  ·exact A3 bE)
attribute [local irreducible] cH c6 dP aI cJ eD e9 e0 e1 e5 eS e8 J.L
def J6(aF:List bL)(t:Int):Prop:=(0<=t/\t<=2147483648)/\∀x∈aF,x.cQ<=t
instance(aF:List bL)(t:Int):Decidable (J6 aF t):=by unfold J6;infer_instance
def v5(aF:List bL)(cG:List Int)(bT s t:Int):Int:=if i6 aF cG bT≠0 then i6 aF cG bT else if s<0\/(aF.length:Int)<=s then 16 else if J6 aF t then 0 else 8
def aJp(f:hI)(t:Int)(L:aP)(R:aJ)(hf:k9 f R):
 aI prog 227 [f.val,.int .i64 t].toArray L R (λv E G=>v=.bool (decide (J6 f.aT.l t))/\L=E/\R=G):=by
 have jA:=hf.aF;refine J2 call227 jA λMS=>?_;refine bW 25 call227 func227 ?_;apply(c8);intro cS;apply IQ∘WE;apply cB (aC:=[_,_]) (j:=2) (a7:=9) rfl rfl aE rfl aW rfl;·exact GG
 intro mY;apply(b3);apply(W)<;>intro aO;·exact aYn
 apply(QS);refine c7 [(1,.int _ _),(14,.slice _ _ _),(15,.int _ _),(16,.int _ _)] bP λeZ=>?_;refine gP ([4,6]++b4 16 9) (λg:{k:Nat//k<=f.aT.l.length/\∀j:Nat,j<k->(f.aT.l.getD j default).cQ<=t}=>[(16,.int .i64 ((g.1:Nat):Int))]) (λg=>f.aT.l.length-g.1) (⟨0,by omega,λj aY=>by omega⟩) ?_;rintro⟨k,hk,hD⟩ bZ;try dsimp only
 apply(h2);apply(W)<;>intro bF;·
  have hg:=bJ f.aT.l k default;apply(j7);refine aG qH ?_;apply(WJ);intro hP;apply rP∘IW∘D1;apply(W)<;>intro b2;·exact aWi
  apply(n6);exact a8j
 exact aVp
def aN8(f:hI)(s t:Int)(L:aP)(R:aJ)(hf:k9 f R):
 aI prog 150 [f.val,.int .i64 s,.int .i64 t].toArray L R (λv E G=>v=.int .i64 (v5 f.aT.l f.aU.l f.cA s t)/\L=E/\R=G):=by
 refine bW 26 call150 func150 ?_;apply(c8);intro dG;apply g7∘Rn;refine cC rfl (Fq f _ _ hf) ?_;apply(kB);apply(W)<;>intro aO;·exact aWZ
 apply(OB);apply cB (aC:=[_,_,_,_,_]) (j:=2) (a7:=15) rfl rfl aE rfl aW rfl;·exact Jg
 intro mY;apply(b3);apply(W)<;>intro bF;·exact aWe
 apply iK∘Rn∘b1;refine cC rfl (aJp f t _ _ hf) ?_;exact aXQ
def a5D(f:hI)(L:aP)(R:aJ)(hf:k9 f R)(hn:f.aT.l.length<=1000/\f.aU.l.length<=1000):
 aI prog 151 [f.val].toArray L R (λv E G=>∃(p:J bL) (q:J Int),v=.agg #[p.val,q.val,.int .i64 f.cA]/\(p.ok 5 bL.cells/\q.ok 1 aL)/\p.l=f.aT.l/\q.l=f.aU.l/\q.L 3 aL++(p.L 76 bL.cells++L)=E/\R=G):=by have jA:=hf.aF;have pL:=hf.cG;refine bW 12 call151 func151 ?_;exact aX3
def a5K(f:hI)(L:aP)(R:aJ)(hf:k9 f R)(hn:f.aT.l.length<=1000/\f.aU.l.length<=1000):
 aI prog 207 [f.val].toArray L R (λv E G=>∃(p:J bL) (q:J Int),v=.agg #[p.val,q.val,.int .i64 f.cA]/\(p.ok 5 bL.cells/\q.ok 1 aL)/\p.l=f.aT.l/\q.l=f.aU.l/\q.L 3 aL++(p.L 76 bL.cells++L)=E/\R=G):=by have jA:=hf.aF;have pL:=hf.cG;refine bW 12 call207 func207 ?_;exact aX3
def BK(aF:List bL)(cG:List Int)(bT s t:Int):Int:=
 if v5 aF cG bT s t≠0 then v5 aF cG bT s t
 else if(aF.getD s.toNat default).cY≠-1\/(0<=(aF.getD s.toNat default).bB/\(aF.getD (aF.getD s.toNat default).bB.toNat default).cY≠1)then 10 else 0
def Ti(aF:List bL)(s t:Int):List bL:=aF.set s.toNat ⟨(aF.getD s.toNat default).bB,t,0,true,false⟩
def b31(f:hI)(s t:Int)(L:aP)(R:aJ)(hf:k9 f R):
 aI prog 166 [f.val,.int .i64 s,.int .i64 t].toArray L R (λv E G=>∃(p:J bL) (q:J Int) (r:Int),v=.tuple #[.agg #[p.val,q.val,.int .i64 r],.int .i64 (BK f.aT.l f.aU.l f.cA s t)]/\(p.ok 5 bL.cells/\q.ok 1 aL)/\
  (BK f.aT.l f.aU.l f.cA s t=0->p.l=Ti f.aT.l s t/\q.l=f.aU.l/\r=f.cA)/\q.L 3 aL++(p.L 76 bL.cells++L)=E/\R=G):=by
 have jA:=hf.aF;refine bW 54 call166 func166 ?_;apply(c8);intro dG;apply(dA);intro hP;apply g7∘Rn∘pS;refine cC rfl (aN8 f s t _ _ hf) ?_;apply(kB);apply(W)<;>intro aO;·
  apply(cO);refine aG Ra ?_;apply(tZ);refine bN L R tR ?_;have X:BK f.aT.l f.aU.l f.cA s t=v5 f.aT.l f.aU.l f.cA s t:=by rw[BK,if_pos aO]
  exact aQq
 have wF:v5 f.aT.l f.aU.l f.cA s t=0:=by omega
 have iJ:i6 f.aT.l f.aU.l f.cA=0:=by rw[v5]at wF;split at wF<;>omega
 have hok:=zD iJ;have HM:=hok.wN;have tL:=hok.yA;have aTN:0<=s/\s<f.aT.l.length:=by rw[v5,if_neg D]at wF;split at wF<;>omega
 have hg:=bJ f.aT.l s.toNat default;have EE:=hok.up s.toNat D;obtain⟨x,K⟩:∃x,x=f.aT.l.getD s.toNat default:=⟨_,rfl⟩;rw[<-K]at hg EE;apply eR∘gE;refine aG a9g ?_;apply(WJ);intro h8;apply G6∘rO;apply cB (aC:=[_,_,_,_,_,_,_,_,_,_,_,_,_]) (j:=3) (a7:=27) rfl rfl aE rfl aW rfl;·
  intro eN;replace eN:=a8 eN;apply fH∘DL∘c9;apply iZ (aC:=[_,_,_,_,_,_,_,_]) (j:=7) (a7:=31) rfl rfl aE rfl aW rfl;·intro hX;replace hX:=a8 hX;have bCM:=bJ f.aT.l x.bB.toNat default;apply(kJ);refine aG aYZ ?_;exact(Sh) hL
  intro RP;exact hL
 intro iG;apply(b3);apply(W)<;>intro bF;·
  apply(cO);refine aG Ra ?_;apply(q4);refine bN L R tR ?_;have X:BK f.aT.l f.aU.l f.cA s t=10:=by rw[BK,if_neg D,<-K,if_pos D]
  exact aQq
 have X:BK f.aT.l f.aU.l f.cA s t=0:=by rw[BK,if_neg D,<-K,if_neg D]
 apply eR∘Rn;refine cK (a5D f _ _ hf D) ?_;rintro v E G ⟨p,q,rfl,⟨iB,gG⟩,eB,gB,rfl,rfl⟩;apply(dA);intro jE;apply(G5);have BT:p.l[s.toNat]?=some x:=by rw[eB];exact hg
 have l5:p.l.length=f.aT.l.length:=by rw[eB]
 apply eK∘gE∘gE;refine aG (mI (hN:=[(0,(Value.int _ _).cells.toList),(1,(Value.int _ _).cells.toList),(3,(Value.bool _).cells.toList)]) (cU:=[_,_,_,_,_]) O rfl rfl rfl rfl) ?_;refine aG a3d ?_;refine i4 (SV O (p) (⟨x.bB,t,0,true,false⟩) rfl rfl rfl rfl c0 bC bI bC (LM rfl) aE aE) ?_;rintro v E G ⟨rfl,rfl⟩;apply(jW);have M2:=J.p4 (f:=bL.cells) (aR:=5) (p:=p) (i:=s.toNat) (x:=⟨x.bB,t,0,true,false⟩) bI iB;apply eK∘Rn∘pI;refine bN (q.L 3 aL++((⟨p.o,p.l.set s.toNat ⟨x.bB,t,0,true,false⟩⟩:J bL).L 76 bL.cells++L)) R tR ?_;exact⟨⟨p.o,p.l.set s.toNat ⟨x.bB,t,0,true,false⟩⟩,q,f.cA,by simp only[X,J.val,p6],⟨M2,gG⟩,λ_=>⟨by rw[Ti,<-K,eB],gB,rfl⟩,rfl,rfl⟩
end
section
attribute [local irreducible] cH c6 dP aI cJ eD e9 e0 e1 e5 eS e8 J.L
def a3J(h:A->B:=by exact(aG lR ·)):=h
def aCs(h:A->B:=by exact(aG Ra ·)):=h
def aCA(h:B:=by exact⟨.nil,.nil,0,by rw[X];rfl,⟨J.g6,J.g6⟩,λh=>by omega,by rw[lT,lT];rfl,rfl⟩):=h
def aKN(h:A->B:=by exact(a4 aY4 ·)):=h
def sT(aF:List bL)(cG:List Int)(bT s t:Int):Int:=
 if i6 aF cG bT≠0 then i6 aF cG bT else if s<0\/(aF.length:Int)<=s then 16 else if t≠1/\t≠-1 then 10 else 0
def LZ(aF:List bL)(s t:Int):List bL:=
 aF.set s.toNat ⟨(aF.getD s.toNat default).bB,(aF.getD s.toNat default).cQ,t,(aF.getD s.toNat default).dM,if t= -1 then false else(aF.getD s.toNat default).bV⟩
def b3t(f:hI)(s t:Int)(L:aP)(R:aJ)(hf:k9 f R):
 aI prog 218 [f.val,.int .i64 s,.int .i64 t].toArray L R (λv E G=>∃(p:J bL) (q:J Int) (r:Int),v=.tuple #[.agg #[p.val,q.val,.int .i64 r],.int .i64 (sT f.aT.l f.aU.l f.cA s t)]/\(p.ok 5 bL.cells/\q.ok 1 aL)/\
  (sT f.aT.l f.aU.l f.cA s t=0->p.l=LZ f.aT.l s t/\q.l=f.aU.l/\r=f.cA)/\q.L 3 aL++(p.L 76 bL.cells++L)=E/\R=G):=by
 have jA:=hf.aF;refine bW 50 call218 func218 ?_;apply(c8);intro dG;apply(dA);intro hP;apply g7∘a3J;refine cC rfl (Ll f _ _ hf) ?_;apply(kB);apply(W)<;>intro aO;·
  apply cO∘aCs∘tZ;refine bN L R tR ?_;have X:sT f.aT.l f.aU.l f.cA s t=i6 f.aT.l f.aU.l f.cA:=by rw[sT,if_pos aO]
  exact aCA
 apply(OB);apply cB (aC:=[_,_,_,_,_]) (j:=2) (a7:=19) rfl rfl aE rfl aW rfl;·exact Jg
 intro mY;apply(b3);apply(W)<;>intro bF;·
  apply cO∘aCs∘q4;refine bN L R tR ?_;have X:sT f.aT.l f.aU.l f.cA s t=16:=by rw[sT,if_neg D,if_pos D]
  exact aCA
 apply iK∘b1∘rO;apply iZ (aC:=[_,_]) (j:=2) (a7:=29) rfl rfl aE rfl aW rfl;·intro fD;replace fD:=a8 fD;exact(b1) HW
 intro mY;apply(b3);apply(W)<;>intro b2;·
  apply cO∘aCs∘q4;refine bN L R tR ?_;have X:sT f.aT.l f.aU.l f.cA s t=10:=by rw[sT,if_neg D,if_neg D,if_pos D]
  exact aCA
 have X:sT f.aT.l f.aU.l f.cA s t=0:=by rw[sT,if_neg D,if_neg D,if_neg D]
 have hok:=zD (aF:=f.aT.l) (cG:=f.aU.l) (bT:=f.cA) D;have HM:=hok.wN;have tL:=hok.yA;have hg:=bJ f.aT.l s.toNat default;obtain⟨x,K⟩:∃x,x=f.aT.l.getD s.toNat default:=⟨_,rfl⟩;rw[<-K]at hg;apply eR∘a3J;refine cK (a5K f _ _ hf D) ?_;rintro v E G ⟨p,q,rfl,⟨iB,gG⟩,eB,gB,rfl,rfl⟩;apply(dA);intro h8;apply(G5);have BT:p.l[s.toNat]?=some x:=by rw[eB];exact hg
 have l5:p.l.length=f.aT.l.length:=by rw[eB]
 apply eK∘gE;refine aG a3d ?_;apply U9∘lP∘G4;refine aG iQ ?_;apply(k7);refine i4 b0Z ?_;rintro v E G ⟨rfl,rfl⟩;apply(y1);have X0:=J.p4 (f:=bL.cells) (aR:=5) (p:=p) (i:=s.toNat) (x:=⟨x.bB,x.cQ,t,x.dM,x.bV⟩) bI iB;have bEh:(p.l.set s.toNat ⟨x.bB,x.cQ,t,x.dM,x.bV⟩)[s.toNat]?=some ⟨x.bB,x.cQ,t,x.dM,x.bV⟩:=tQ D;apply p8∘mT;apply(W)<;>intro dZ;·apply(A9);refine aG iQ ?_;apply(k7);refine i4 (jL O ((⟨p.o,p.l.set s.toNat ⟨x.bB,x.cQ,t,x.dM,x.bV⟩⟩:J bL)) (⟨x.bB,x.cQ,t,x.dM,false⟩) rfl rfl rfl rfl c0 bC bI bC bH aE aE) ?_;rintro v E G ⟨rfl,rfl⟩;apply lP∘a3J∘pI;refine bN (q.L 3 aL++((⟨p.o,(p.l.set s.toNat ⟨x.bB,x.cQ,t,x.dM,x.bV⟩).set s.toNat ⟨x.bB,x.cQ,t,x.dM,false⟩⟩:J bL).L 76 bL.cells++L)) R tR ?_;have M2:=J.p4 (f:=bL.cells) (aR:=5) (p:=⟨p.o,p.l.set s.toNat ⟨x.bB,x.cQ,t,x.dM,x.bV⟩⟩) (i:=s.toNat) (x:=⟨x.bB,x.cQ,t,x.dM,false⟩) bI X0;exact⟨⟨p.o,(p.l.set s.toNat ⟨x.bB,x.cQ,t,x.dM,x.bV⟩).set s.toNat ⟨x.bB,x.cQ,t,x.dM,false⟩⟩,q,f.cA,by simp only[X,J.val,p6],⟨M2,gG⟩,λ_=>⟨by rw[LZ,<-K,if_pos dZ];show(p.l.set _ _).set _ _=_;rw[y6,eB],gB,rfl⟩,rfl,rfl⟩
 apply eR∘a3J∘pI;refine bN (q.L 3 aL++((⟨p.o,p.l.set s.toNat ⟨x.bB,x.cQ,t,x.dM,x.bV⟩⟩:J bL).L 76 bL.cells++L)) R tR ?_;exact⟨⟨p.o,p.l.set s.toNat ⟨x.bB,x.cQ,t,x.dM,x.bV⟩⟩,q,f.cA,by simp only[X,J.val,p6],⟨X0,gG⟩,λ_=>⟨by rw[LZ,<-K,if_neg dZ];show p.l.set _ _=_;rw[eB],gB,rfl⟩,rfl,rfl⟩
def b4O{aF:List bL}(h:Eb aF):∀(n:Nat) (s:Int),s<aF.length->(s+1).toNat<=n->∀x∈E5 aF s,0<=x/\x<=s:=by
 intro n;induction n with
 |zero=>intro s _ hn;rw[Sq D];intro x K;cases K
 |succ n cM=>
  intro s hs hn x K;by_cases bQ:s<0;·rw[Sq bQ]at K;cases K
  ·
   have ha:=h s.toNat D;rw[Sf h D hs,vC]at K;rcases K with rfl|K;·omega
   ·have:=cM _ D D x K;omega
def a0y{aF:List bL}{cG:List Int}{bT s:Int}{x:Int}(K:x∈xC aF cG bT s):0<=x/\x<=s/\s<aF.length:=by
 rw[xC]at K;split at K;·cases K
 ·have hok:=zD (aF:=aF) (cG:=cG) (bT:=bT) D;have:=b4O hok.up _ s D (g4 _) x K;omega
def Yy{aF:List bL}{cG:List Int}{bT s:Int}:(xC aF cG bT s).length<=32:=by
 rw[xC];split;·simp
 ·have hok:=zD (aF:=aF) (cG:=cG) (bT:=bT) D;have N:=hok.wN;have:=aB3 hok.up _ s D (g4 _);omega
def b7r(f g:hI)(L:aP)(R:aJ)(hf:k9 f R)(hg:k9 g R)(N:f.aT.l=g.aT.l)(V:f.aU.l=g.aU.l)(aQ:f.cA=g.cA):
 aI prog 68 [f.val,g.val].toArray L R (λv E G=>v=.bool true/\L=E/\R=G):=by
 have jA:=hf.aF;have pL:=hf.cG;have a13:=hg.aF;have a7E:=hg.cG;have Az:f.aT.l.length=g.aT.l.length:=by rw[N]
 have XV:f.aU.l.length=g.aU.l.length:=by rw[V]
 refine J2 call68 jA λMS=>?_;refine J2 call68 pL λaSH=>?_;refine bW 66 call68 func68 ?_;apply(c8);intro cS;apply(iU);intro dG;apply IQ∘kJ∘rO;apply cB (aC:=[_,_,_,_,_,_,_]) (j:=5) (a7:=12) rfl rfl aE rfl aW rfl;·intro k5;replace k5:=a8 k5;exact(lM) Ji
 intro Ce;apply(c9);apply cB (aC:=[_,_,_,_,_,_,_]) (j:=14) (a7:=21) rfl rfl aE rfl aW rfl;·intro qT;replace qT:=a8 qT;exact(lM) Ji
 intro UX;apply(b3);apply(W)<;>intro aO;·apply(OA);refine lG L R ?_;exact absurd aQ D
 apply(zH);refine c7 [(2,.pointer _),(3,.pointer _),(5,.int _ _)] bP λeZ=>?_;refine gP ([4,5]++b4 30 18) (λg:{k:Nat//k<=f.aT.l.length}=>[(5,.int .i64 ((g.1:Nat):Int))]) (λg=>f.aT.l.length-g.1) (⟨0,by omega⟩) ?_;rintro⟨k,hk⟩ bZ;try dsimp only
 apply(oJ);apply(W)<;>intro bF;·
  have rB:=bJ f.aT.l k default;have Bz:g.aT.l[k]?=some (f.aT.l.getD k default):=by rw[<-N];exact rB
  refine dK (aZ (a6 (e3 (a6 ?_))));refine gJ O [0,1,2,3,4,5,6,7,8,9,10] _ cX bE g3 ?_;apply KK∘aKN∘KK∘aKN;refine a4 (Kj b56 rfl rfl GC GC rfl) ?_;exact Wk
 apply(G0);refine c7 [(2,.pointer _),(3,.pointer _),(6,.int _ _)] bP λnS=>?_;refine gP ([4,6]++b4 48 18) (λg:{k:Nat//k<=f.aU.l.length}=>[(6,.int .i64 ((g.1:Nat):Int))]) (λg=>f.aU.l.length-g.1) (⟨0,by omega⟩) ?_;rintro⟨k,hk⟩ bZ;try dsimp only
 apply(oJ);apply(W)<;>intro dZ;·
  have rB:=bJ f.aU.l k 0;have Bz:g.aU.l[k]?=some (f.aU.l.getD k 0):=by rw[<-V];exact rB
  refine dK (aZ (a6 (e3 (a6 ?_))));refine gJ O [0,1,2,3,4,5,6,7,8,9,10] _ cX bE g3 ?_;apply KK∘lW∘KK∘lW;refine a4 LR ?_;apply(vW);apply(W)<;>intro dX;·apply(FC);refine lG L R ?_;exact absurd dX fX
  exact a8Z
 exact Jt
end
attribute [local irreducible] cH c6 dP aI cJ eD e9 e0 e1 e5 eS e8 J.L
def aRo(h:A->B:=by exact(aG qH ·)):=h
def aQy(h:A->B:=by exact(aG Xz ·)):=h
def b35(x:a0 Int)(g:Int->Bool)(Ty:FuncId)(cap:Array Value)(L:aP)(R:aJ)(K:aH (cZ x) R)(hc:∀y∈x.l,aI prog Ty (.int .i64 y::cap.toList).toArray L R (λv E G=>v=.bool (g y)/\L=E/\R=G)):
 aI prog 234 [x.val,.func (.func Ty) #[] cap].toArray L R (λv E G=>∃r:Int,v=.int .i64 r/\(0<=r↔∃y∈x.l,g y=true)/\L=E/\R=G):=by
 refine J2 call234 K λMS=>?_;refine bW 19 call234 func234 ?_;apply TK∘D2;refine c7 [(0,.slice _ _ _),(1,_),(7,.int _ _),(8,.int _ _)] bP λeZ=>?_;refine gP ([4,5]++b4 8 11) (λg:{k:Nat//k<=x.l.length/\∀j:Nat,j<k->g (x.l.getD j 0)=false}=>[(8,.int .i64 ((g.1:Nat):Int))]) (λg=>x.l.length-g.1) (⟨0,by omega,λj aY=>by omega⟩) ?_;rintro⟨k,hk,hD⟩ bZ;try dsimp only
 apply(h2);apply(W)<;>intro aO;·
  have hg:=bJ x.l k 0;apply pR∘mL;refine aG iR ?_;apply h7∘aRo∘jI;refine Y0 (Sc rfl rfl (hc (x.l.getD k 0) (gU hg))) rfl rfl ?_;rintro v E G ⟨rfl,rfl,rfl⟩;apply(b3);apply(W)<;>intro bF;·apply yF∘WI;refine dC L R ?_;exact⟨k,rfl,⟨λ_=>⟨_,gU hg,bF⟩,λ_=>by omega⟩,rfl,rfl⟩
  apply(n6);exact oQ (⟨k+1,by omega,λj aY=>by
  rcases gY j k with h|h;·exact hD j h
  ·(obtain rfl:j=k:=by omega);simpa using bF⟩)
 apply(GZ);refine dC L R ?_;refine⟨-1,rfl,⟨λh=>by omega,λ⟨y,aN,Hd⟩=>?_⟩,rfl,rfl⟩;obtain⟨j,aY,rfl⟩:=Qm aN;have:=hD j D;rw[iW,ET aY]at this;rw[show(some x.l[j]).getD 0=x.l[j]from rfl,Hd]at this;cases this
def b2G(x:a0 Int)(g:Int->Bool)(Ty:FuncId)(cap:Array Value)(L:aP)(R:aJ)(K:aH (cZ x) R)(hc:∀y∈x.l,aI prog Ty (.int .i64 y::cap.toList).toArray L R (λv E G=>v=.bool (g y)/\L=E/\R=G)):
 aI prog 167 [x.val,.func (.func Ty) #[] cap].toArray L R (λv E G=>v=.bool (decide (∃y∈x.l,g y=true))/\L=E/\R=G):=by refine bW 9 call167 func167 ?_;apply QO∘hM;refine aG iR ?_;refine cK (b35 x g Ty cap _ _ K hc) ?_;exact aY1
def PY(aF:List bL)(a y:Int):Bool:=decide (y≠a/\(aF.getD y.toNat default).cY= -1)
def b7z(f:hI)(a y:Int)(h8 cT:Nat)(L:aP)(R:aJ)(hf:k9 f R)(aN:0<=y/\y<f.aT.l.length):
 aI prog 168 [.int .i64 y,.pointer (some ⟨h8,0,none⟩),.pointer (some ⟨cT,0,none⟩)].toArray (⟨h8,[.int .i64 a],3⟩::⟨cT,f.cells,42⟩::L) R (λv E G=>v=.bool (PY f.aT.l a y)/\(⟨h8,[.int .i64 a],3⟩::⟨cT,f.cells,42⟩::L)=E/\R=G):=by
 have jA:=hf.aF;have hg:=bJ f.aT.l y.toNat default;refine bW 17 call168 func168 ?_;apply QO∘b1∘kZ∘rO;apply iZ (aC:=[_,_,_,_,_,_,_]) (j:=3) (a7:=8) rfl rfl aE rfl aW rfl;·intro eN;replace eN:=a8 eN;apply(gE);refine aG (by first|exact j9 O rfl rfl rfl rfl jC (i:=y.toNat) cW D|exact i9 O rfl rfl rfl rfl (i:=y.toNat) cW D) ?_;exact(sW) LP
 intro iG;apply(v9);refine lG (⟨h8,[.int .i64 a],3⟩::⟨cT,f.cells,42⟩::L) R ?_;exact⟨by refine congrArg Value.bool ?_;rw[Jb,PY,decide_eq_true_iff];simp,rfl,rfl⟩
def SW(aF:List bL)(l:List Int):Int:=l.foldl (λa x=>if(aF.getD x.toNat default).cY≠1 then x else a) (l.getD 0 0)
def SZ(aF:List bL)(l:List Int)(k:Nat):Int:=(l.take k).foldl (λa x=>if(aF.getD x.toNat default).cY≠1 then x else a) (l.getD 0 0)
def a4y{aF:List bL}{l:List Int}{k:Nat}(h:k<l.length):SZ aF l (k+1)=if(aF.getD (l.getD k 0).toNat default).cY≠1 then l.getD k 0 else SZ aF l k:=by have hg:=iL (l:=l) (k:=k) 0 h;rw[SZ,PM,hg,aH6,Iy];rfl
def Rm(c:List b8)(aF:List bL)(cG:List Int)(bT dI a:Int)(k:Nat):Prop:=
 ((k:Int)≠dI/\(c.getD k default).off=true)/\a∈xC aF cG bT (cG.getD k 0)/\¬∃y∈xC aF cG bT (cG.getD k 0),PY aF a y=true
instance(c:List b8)(aF:List bL)(cG:List Int)(bT dI a:Int)(k:Nat):Decidable (Rm c aF cG bT dI a k):=by unfold Rm;infer_instance
def Z3(c:List b8)(aF:List bL)(cG:List Int)(bT dI a:Int):Prop:=∃k:Nat,k<cG.length/\Rm c aF cG bT dI a k
instance(c:List b8)(aF:List bL)(cG:List Int)(bT dI a:Int):Decidable (Z3 c aF cG bT dI a):=by unfold Z3;infer_instance
def aN9(c:a0 b8)(f:hI)(dI:Int)(L:aP)(R:aJ)(C7:aH (sS c) R)(hf:k9 f R)(iJ:i6 f.aT.l f.aU.l f.cA=0)(eC:0<=dI/\dI<f.aU.l.length)(i1:c.l.length=f.aU.l.length):
 aI prog 88 [c.val,f.val,.int .i64 dI].toArray L R (λv E G=>v=.tuple #[.int .i64 (SW f.aT.l (xC f.aT.l f.aU.l f.cA (f.aU.l.getD dI.toNat 0))),.bool (decide (Z3 c.l f.aT.l f.aU.l f.cA dI (SW f.aT.l (xC f.aT.l f.aU.l f.cA (f.aU.l.getD dI.toNat 0)))))]/\L=E/\∀r∈R,aH r G):=by
 have jA:=hf.aF;have pL:=hf.cG;have hok:=zD iJ;have HM:=hok.wN;have tL:=hok.yA;have rZ:=bJ f.aU.l dI.toNat 0;have DH:=hok.Dh dI.toNat D;refine bW 76 call88 func88 ?_;apply(c8);intro cT;apply GX∘jW;refine gJ O [0,1,2,3,4,5,6,7] _ cX bE g3 ?_;refine a4 lR ?_;apply(oV);refine a4 (by first|exact j9 O rfl rfl rfl rfl jC (i:=dI.toNat) cW D|exact i9 O rfl rfl rfl rfl (i:=dI.toNat) cW D) ?_;apply(lW);refine q1 rfl (a93 f (f.aU.l.getD dI.toNat 0) _ _ hf) rfl rfl ?_;rintro v E G ⟨q,rfl,gG,gB,rfl,rfl⟩;refine⟨a2,gN,?_⟩;refine a4 A0 ?_;apply(F7);have rV:=Yy (aF:=f.aT.l) (cG:=f.aU.l) (bT:=f.cA) (s:=f.aU.l.getD dI.toNat 0);rw[<-gB]at rV;have UN:0<q.l.length:=by rw[gB,xC,if_neg D,Sf hok.up D D,sK];omega
 have Bk:∀x∈q.l,0<=x/\x<f.aT.l.length:=λx K=>by have:=a0y (aF:=f.aT.l) (cG:=f.aU.l) (bT:=f.cA) (s:=f.aU.l.getD dI.toNat 0) (x:=x) (by rw[<-gB];exact K);omega
 have bJ5:=iL (l:=q.l) (k:=0) 0 UN;refine vF (A:=[]) (aR:=1) [] bI bH gG lQ ?_;refine mJ Xk ?_;obtain⟨e4,uG⟩:∃e4,e4=cZ q.U::R:=⟨_,rfl⟩;have jR:∀r∈R,aH r e4:=λr M=>aM (by rw[uG];exact .tail _ M);have Bi:aH (cZ q.U) e4:=aM Qu;have bJp:=C7.mono jR;have vO:=hf.mono jR;have a13:=vO.aF;have a7E:=vO.cG;refine sU Xw ?_;apply wC∘Io∘jI∘dA;intro h8;apply a79∘r1∘D2;refine c7 [(0,.slice _ _ _),(2,.int _ _),(4,.pointer _),(9,.pointer _),(26,.slice _ _ _),(27,.int _ _),(28,.int _ _)] bP λeZ=>?_;refine kO ([11]++b4 28 13) ((⟨λg=>[(28,.int .i64 ((g.1.1:Nat):Int))],λg=>⟨h8,[.int .i64 g.1.2],3⟩::⟨cT,f.cells,42⟩::L,λ_=>e4,λg=>q.l.length-g.1.1⟩:dV {g:Nat×Int//g.1<=q.l.length/\g.2=SZ f.aT.l q.l g.1})) (⟨(0,q.l.getD 0 0),by dsimp only;omega,rfl⟩) ?_;rintro⟨⟨k,a⟩,hk,ha⟩ bZ;try dsimp only
 dsimp only at hk ha;apply(h2);apply(W)<;>intro aO;·
  have DE:=bJ q.l k 0;have a10:=Bk _ (gU DE);have xS:=bJ f.aT.l ((q.l.getD k 0).toNat) default;apply j7∘aRo∘ZW∘gE;refine aG aIU ?_;apply sW∘qP;apply(W)<;>intro bF;·apply p8∘a79∘wB;exact dU ⟨(k+1,q.l.getD k 0),by dsimp only;omega,by dsimp only;rw[a4y D,if_pos bF]⟩
  apply(n6);exact dU ⟨(k+1,a),by dsimp only;omega,by dsimp only;rw[a4y D,if_neg bF];exact ha⟩
 obtain rfl:k=q.l.length:=by omega
 have Q8:(SW f.aT.l (xC f.aT.l f.aU.l f.cA (f.aU.l.getD dI.toNat 0)))=a:=by rw[ha,SZ,Qk,<-gB];rfl
 apply AV∘r9;refine c7 [(0,.slice _ _ _),(2,.int _ _),(4,.pointer _),(9,.pointer _),(42,.slice _ _ _),(43,.int _ _),(44,.int _ _)] bP λnS=>?_;refine kO ([6,7,12,13,14,15]++b4 44 31) ((⟨λg=>[(44,.int .i64 ((g.1:Nat):Int))],λg=>⟨h8,[.int .i64 a],3⟩::⟨cT,f.cells,42⟩::L,λ_=>e4,λg=>f.aU.l.length-g.1⟩:dV {i:Nat//i<=f.aU.l.length/\∀j:Nat,j<i->¬Rm c.l f.aT.l f.aU.l f.cA dI a j})) (⟨0,by omega,λj aY=>by omega⟩) ?_;rintro⟨i,aA,hD⟩ bZ;try dsimp only
 apply(h2);apply(W)<;>intro b2;·
  have bJA:=bJ f.aU.l i 0;have rR:=bJ c.l i default;apply pR∘aQy∘jI∘dE∘g7∘pS∘tC;apply cB (aC:=[_,_,_,_,_,_]) (j:=3) (a7:=52) rfl rfl aE rfl aW rfl;·intro eN;replace eN:=a8 eN;exact(h7∘aQy∘sW) LQ
  intro iG;apply(b3);apply(W)<;>intro dZ;·
   refine lC (lB (lA (aZ (cR ?_))));apply(uX);exact oQ ⟨i+1,by omega,λj aY=>by
   rcases gY j i with h|h;·exact hD j h
   ·
    (obtain rfl:j=i:=by omega);rintro⟨⟨N,V⟩,_⟩;rcases dZ with aQ|aQ;·exact N aQ
    ·rw[V]at aQ;cases aQ⟩
  apply(eR);refine aG lR ?_;apply(b1);refine cK (a93 f (f.aU.l.getD i 0) _ _ vO) ?_;rintro v E G ⟨fB,rfl,K9,F0,rfl,rfl⟩;apply(FG);have bEq:∀x∈fB.l,0<=x/\x<f.aT.l.length:=λx K=>by have:=a0y (aF:=f.aT.l) (cG:=f.aU.l) (bT:=f.cA) (s:=f.aU.l.getD i 0) (x:=x) (by rw[<-F0];exact K);omega
  refine vF (A:=[]) (aR:=1) [] bI bH K9 lQ ?_;refine mJ Xk ?_;obtain⟨n4,I5⟩:∃n4,n4=cZ fB.U::e4:=⟨_,rfl⟩;have FR:∀r∈e4,aH r n4:=λr M=>aM (by rw[I5];exact .tail _ M);have a7l:aH (cZ fB.U) n4:=aM a2V;have Gx:=vO.mono FR;refine sU a9q ?_;apply(wC);refine aG (a4R rfl) ?_;refine cC rfl (b2G fB.U (PY f.aT.l a) 168 #[.pointer (some ⟨h8,0,none⟩),.pointer (some ⟨cT,0,none⟩)] _ _ a7l (λy aN=>b7z f a y h8 cT L _ Gx (bEq y aN))) ?_;apply QU∘hM∘kZ;refine cC rfl (b7i fB.U a _ _ a7l) ?_;apply(c9);apply iZ (aC:=[_,_]) (j:=3) (a7:=69) rfl rfl aE rfl aW rfl;·intro eN;replace eN:=a8 eN;exact(c9) LQ
  intro iG;apply(b3);apply(W)<;>intro dX;·have XY:Rm c.l f.aT.l f.aU.l f.cA dI a i:=⟨dZ,by rw[<-F0];exact dX⟩;apply cO∘kZ∘GX∘a77;refine bN L n4 VL ?_;exact⟨by rw[Q8,decide_eq_true (p:=Z3 c.l f.aT.l f.aU.l f.cA dI a) ⟨i,by omega,XY⟩],rfl,λr M=>(jR r M).mono FR⟩
  apply(n6);exact oT ⟨i+1,by omega,λj aY=>by
  rcases gY j i with h|h;·exact hD j h
  ·
   (obtain rfl:j=i:=by omega);rintro⟨_,V⟩;rw[<-F0]at V;rcases dX with b7|b7;·exact b7 V.1
   ·exact V.2 b7⟩ kG bP a2 FR k1
 apply oD∘kZ∘dE∘v9;refine bN L e4 VL ?_;exact⟨by rw[Q8,decide_eq_false (p:=Z3 c.l f.aT.l f.aU.l f.cA dI a)];rintro⟨j,aY,XY⟩;exact hD j D XY,rfl,jR⟩
end Go.Proofs.YtchfclmokpbldaaGreat
namespace Go.Proofs.YtchfclmokpbldaaGreat
open Go.Aw Go Go.Proofs.Tryz
section
def Yk(h:A->B:=by exact(aG lR ·)):=h
def a4U(h:A->B:=by exact pO rfl (Go.Proofs.YtchfclmokpbldaaGreat.cJ.aDC E1) rfl rfl):=h
def a6j(h:A->B:=by exact(m5 oG ·)):=h
def a4r(h:A->B:=by exact(m5 lR ·)):=h
def a5o(h:A->B:=by exact(a4 A0 ·)):=h
def aCd(h:A->B:=by exact(aG qI ·)):=h
def aCC(h:A->B:=by exact(aG E0 ·)):=h
def aPE(h:A->B:=by exact pO rfl aYB rfl rfl):=h
def aM7(h:A->B:=by exact(kN 6 XO dT rfl sM ·)):=h
def b5H(h:A->B:=by exact pO rfl b0a rfl rfl):=h
def aAU(h:A->B:=by exact(eO E0 ·)):=h
def aQk{P:Program}{fn:Func}{t:Nat->Value}{L:aP}{R:aJ}{r s q z:ResultVar}{v u x y:Value}(M:fn.results=#[r,s,q,z])(h:eS P t L R r v)(k:eS P t L R s u)(m:eS P t L R q x)(O3:eS P t L R z y):∀c n a w,nU n t a->dL c L R w->(results fn a.tmps).run P w=.ok (.tuple #[v,u,x,y]) w:=by intro c n a w hf hs;have N:=V3 h hf hs;have V:=V3 k hf hs;have aQ:=V3 m hf hs;have b7:=V3 O3 hf hs;rw[a0C,M];simp[N,V,aQ,b7]
attribute [local irreducible] cH c6 dP aI cJ eD e9 e0 e1 e5 eS e8 J.L
def xK(f:hI)(k:Int):Int:=SW f.aT.l (xC f.aT.l f.aU.l f.cA (f.aU.l.getD k.toNat 0))
def nP(s:dQ)(c:List b8)(Z:List a9)(r:j4)(f:hI)(t:Int):Int:=
 if uO s c.length Z.length t≠0 then uO s c.length Z.length t
 else if r.dI= -1\/r.step≠2 then 10
 else if P7 r t then 8
 else if sF s c Z r.dI t≠0 then sF s c Z r.dI t
 else if i6 f.aT.l f.aU.l f.cA≠0 then i6 f.aT.l f.aU.l f.cA
 else if f.aU.l.length≠s.aU.l.length then 17
 else if Z3 c f.aT.l f.aU.l f.cA r.dI (xK f r.dI)then 20 else 0
def a4B{s:dQ}{c:List b8}{Z:List a9}{k t:Int}(h:sF s c Z k t=0):0<=k/\k<c.length:=by rw[sF]at h;exact aHU
def b1D(s:dQ)(c:a0 b8)(Z:a0 a9)(r:j4)(f:hI)(t:Int)(L:aP)(R:aJ)(h:IB s c Z R)(hf:k9 f R):
 aI prog 165 [s.val,c.val,Z.val,r.val,f.val,.int .i64 t].toArray L R (λv E G=>∃a:Int,v=.tuple #[.int .i64 a,.int .i64 (nP s c.l Z.l r f t)]/\(nP s c.l Z.l r f t=0->a=xK f r.dI)/\L=E/\∀r∈R,aH r G):=by
 refine bW 70 call165 func165 ?_;apply(c8);intro hP;apply(iU);intro h8;apply(iU);intro jE;apply dE∘g7∘aCd∘TH;refine cC rfl (aCP s c Z t _ _ h) ?_;apply(kB);apply(W)<;>intro aO;·
  apply yF∘dE∘z1;refine bN L R DQ ?_;have X:nP s c.l Z.l r f t=uO s c.l.length Z.l.length t:=by rw[nP,if_pos aO]
  exact Xg
 obtain⟨hok,kD,dS⟩:=Kv (s:=s) (YD:=c.l.length) (M9:=Z.l.length) (t:=t) D;apply GW∘tC;apply cB (aC:=[_,_,_]) (j:=3) (a7:=30) rfl rfl aE rfl aW rfl;·exact Jh
 intro iG;apply(b3);apply(W)<;>intro bF;·
  apply rN∘z1;refine bN L R DQ ?_;have X:nP s c.l Z.l r f t=10:=by rw[nP,if_neg aO,if_pos D]
  exact Xg
 apply iK∘aCC∘b1;refine cC rfl (aN5 r t _ _ dS) ?_;apply(b3);apply(W)<;>intro b2;·
  apply rN∘z1;refine bN L R DQ ?_;have X:nP s c.l Z.l r f t=8:=by rw[nP,if_neg aO,if_neg D,if_pos PN]
  exact Xg
 have jH:¬P7 r t:=by simpa using b2
 apply iK∘aCd∘Fb∘gE;refine cC rfl (aCk s c Z r.dI t _ _ h hok kD dS) ?_;apply(kB);apply(W)<;>intro dZ;·
  apply yF∘dE∘z1;refine bN L R DQ ?_;have X:nP s c.l Z.l r f t=sF s c.l Z.l r.dI t:=by rw[nP,if_neg aO,if_neg D,if_neg jH,if_pos dZ]
  exact Xg
 apply iK∘Yk;refine cC rfl (Fq f _ _ hf) ?_;apply(kB);apply(W)<;>intro dX;·
  apply yF∘dE∘z1;refine bN L R DQ ?_;have X:nP s c.l Z.l r f t=i6 f.aT.l f.aU.l f.cA:=by rw[nP,if_neg aO,if_neg D,if_neg jH,if_neg dZ,if_pos dX]
  exact Xg
 apply QR∘lM∘qP;apply(W)<;>intro h3;·
  apply rN∘z1;refine bN L R DQ ?_;have X:nP s c.l Z.l r f t=17:=by rw[nP,if_neg aO,if_neg D,if_neg jH,if_neg dZ,if_neg dX,if_pos D]
  exact Xg
 have aTJ:=a4B (s:=s) (c:=c.l) (Z:=Z.l) (k:=r.dI) (t:=t) D;apply G1∘Yk∘fH;refine cK (aN9 c f r.dI _ _ h.aS hf D D D) ?_;rintro v E G ⟨rfl,rfl,jR⟩;refine aG iR ?_;apply S1∘Lg∘c9∘b3;apply(W)<;>intro hW;·
  apply rN∘z1;refine bN L _ DQ ?_;have X:nP s c.l Z.l r f t=20:=by rw[nP,if_neg aO,if_neg D,if_neg jH,if_neg dZ,if_neg dX,if_neg D,if_pos (by simpa[xK]using hW)]
  exact⟨0,by rw[X],λh=>by omega,rfl,jR⟩
 apply WV∘dE∘q3;refine bN L _ DQ ?_;have X:nP s c.l Z.l r f t=0:=by rw[nP,if_neg aO,if_neg D,if_neg jH,if_neg dZ,if_neg dX,if_neg D,if_neg (by simpa[xK]using hW)]
 exact⟨xK f r.dI,by rw[X];rfl,λ_=>rfl,rfl,jR⟩
def aBq{s:dQ}{c:List b8}{Z:List a9}{r:j4}{f:hI}{t:Int}(h:nP s c Z r f t=0):(0<=r.dI/\r.dI<c.length)/\c.length=f.aU.l.length/\i6 f.aT.l f.aU.l f.cA=0:=by
 rw[nP]at h;split at h;·omega
 rename_i bQ;obtain⟨_,kD,_⟩:=Kv (Decidable.not_not.1 bQ);split at h;·cases h
 split at h;·cases h
 split at h;·omega
 rename_i aQ;have:=a4B (Decidable.not_not.1 aQ);split at h;·omega
 split at h;·cases h
 omega
def r6(s:dQ)(c:List b8)(Z:List a9)(r:j4)(f:hI)(t:Int):Int:=
 if nP s c Z r f t≠0 then nP s c Z r f t else BK f.aT.l f.aU.l f.cA (xK f r.dI) t
def P2(f:hI)(r:j4):Prop:=xK f r.dI=f.aU.l.getD r.dI.toNat 0
instance(f:hI)(r:j4):Decidable (P2 f r):=by unfold P2;infer_instance
def z7(s:dQ)(c:List b8)(Z:List a9)(r:j4)(f:hI)(t:Int):j4:=
 if r6 s c Z r f t≠0 then r else if P2 f r then u9 else⟨r.dI,r.first,r.Pw,r.step,t⟩
def CV(s:dQ)(c:List b8)(Z:List a9)(r:j4)(f:hI)(t:Int):List b8:=
 if r6 s c Z r f t≠0 then c else if P2 f r then c.set r.dI.toNat ⟨false,(c.getD r.dI.toNat default).clear,(c.getD r.dI.toNat default).jJ⟩else c
def D3(s:dQ)(c:List b8)(Z:List a9)(r:j4)(f:hI)(t:Int):List bL:=
 if r6 s c Z r f t≠0 then f.aT.l else Ti f.aT.l (xK f r.dI) t
structure aI8(s:dQ)(c:List b8)(Z:List a9)(r:j4)(f:hI)(t:Int)(q:j4)(jG:List b8)(aF:List bL)(cG:List Int)(bT:Int):Prop where
 aB:q=z7 s c Z r f t
 aS:jG=CV s c Z r f t
 aF:aF=D3 s c Z r f t
 cG:cG=f.aU.l
 bT:bT=f.cA
def aNW{s:dQ}{c:List b8}{Z:List a9}{r:j4}{f:hI}{t e:Int}(h:r6 s c Z r f t=e)(X:e≠0):aI8 s c Z r f t r c f.aT.l f.aU.l f.cA:=by
 have bQ:r6 s c Z r f t≠0:=by omega
 exact⟨by rw[z7,if_pos bQ],by rw[CV,if_pos bQ],by rw[D3,if_pos bQ],rfl,rfl⟩
def b2X(s:dQ)(c:a0 b8)(Z:a0 a9)(r:j4)(f:hI)(t:Int)(L:aP)(R:aJ)(h:IB s c Z R)(hf:k9 f R)(hn:c.l.length<=1000/\f.aT.l.length<=1000/\f.aU.l.length<=1000):
 aI prog 87 [s.val,c.val,Z.val,r.val,f.val,.int .i64 t].toArray L R (λv E G=>∃(q:j4) (eW:J b8) (yX:J bL) (p1:J Int) (bT:Int),v=.tuple #[q.val,eW.val,.agg #[yX.val,p1.val,.int .i64 bT],.int .i64 (r6 s c.l Z.l r f t)]/\
  (eW.ok 3 b8.cells/\yX.ok 5 bL.cells/\p1.ok 1 aL)/\aI8 s c.l Z.l r f t q eW.l yX.l p1.l bT/\p1.L 3 aL++(yX.L 76 bL.cells++(eW.L 71 b8.cells++L))=E/\∀r∈R,aH r G):=by
 have C7:=h.aS;have jA:=hf.aF;have pL:=hf.cG;refine bW 84 call87 func87 ?_;apply(c8);intro hP;apply(iU);intro h8;apply(iU);intro jE;apply(dA);intro lN;apply jS∘dA;intro sA;apply mL∘hM;refine gO aZV rfl ?_;rintro v E G ⟨B0,rfl,XW,rfl,rfl⟩;apply vG∘Yk∘dA;intro I3;apply(G5);refine a0r (b4 25 8) ((⟨λ_=>[],λg=>(⟨g.1.2,f.aU.l⟩:J Int).L 3 aL++((⟨g.1.1,f.aT.l⟩:J bL).L 76 bL.cells++(⟨I3,[(⟨g.1.1,f.aT.l⟩:J bL).val,(⟨g.1.2,f.aU.l⟩:J Int).val,.int .i64 f.cA],42⟩::((⟨B0,c.l⟩:J b8).L 71 b8.cells++(⟨sA,[.slice none 0 0,.slice none 0 0,.int .i64 0],42⟩::⟨lN,[.int .i64 0,.int .i64 0,.int .i64 0,.int .i64 0,.int .i64 0],51⟩::⟨jE,f.cells,42⟩::⟨h8,r.cells,51⟩::⟨hP,s.cells,38⟩::L)))),λ_=>R,λ_=>0⟩:dV {g:gZ×gZ//(⟨g.1,f.aT.l⟩:J bL).ok 5 bL.cells/\(⟨g.2,f.aU.l⟩:J Int).ok 1 aL})) ?_ ?_;·
  skip
  refine Dt O [] [0,1,3,4,2,6,5] [7,8,9] (_) [] 7 cX bE rfl rfl a2 λXO=>?_;refine kN 0 XO dT rfl sM ?_;refine kN 3 XO dT rfl sM ?_;refine kI [1,4] XO dT bE ?_;refine o1 ?_ ?_;·
   skip
   apply(a4U);rintro v E G ⟨rfl,rfl,rfl⟩;apply(fS);refine kI [2,4] XO dT bE ?_;refine o1 ?_ ?_;·
    skip
    apply(aPE);rintro v E G ⟨Pp,rfl,a1Q,rfl,rfl⟩;apply fS∘aM7;refine kI [4] XO dT bE ?_;apply kU∘a4U;rintro v E G ⟨rfl,rfl,rfl⟩;apply(fS);exact aVZ
   exact aWz
  apply kU∘a4U;rintro v E G ⟨rfl,rfl,rfl⟩;apply(fS);refine kI [1] XO dT bE ?_;exact aWz
 rintro⟨⟨a71,a72⟩,Hf,aFc⟩ bZ;try dsimp only
 dsimp only at Hf aFc;apply cO∘aCd∘Fb∘aCC∘Yk∘b1;refine cK (b1D s c Z r f t _ _ h hf) ?_;rintro v E G ⟨a,rfl,ha,rfl,jR⟩;have vO:=hf.mono jR;have a7E:=vO.cG;refine aG iR ?_;apply Fc∘TJ;apply(W)<;>intro aO;·
  refine a6 ?_;refine hF O [46,47,48] [0,1,2,3] [4,5,6,7] ([a5.mk I3 _ _,a5.mk sA _ _,a5.mk lN _ _,a5.mk h8 _ _]) _ cX bE a2 NO ?_;apply aAU∘a6j∘a4r;refine m5 zV ?_;apply p7∘a5o∘wX;refine gS (aZ (iT (gD ?_)));refine bN ((⟨a72,f.aU.l⟩:J Int).L 3 aL++((⟨a71,f.aT.l⟩:J bL).L 76 bL.cells++((⟨B0,c.l⟩:J b8).L 71 b8.cells++L))) _ NQ ?_;have X:r6 s c.l Z.l r f t=nP s c.l Z.l r f t:=by rw[r6,if_pos aO]
  exact⟨r,⟨B0,c.l⟩,⟨a71,f.aT.l⟩,⟨a72,f.aU.l⟩,f.cA,by rw[X];rfl,⟨XW,Hf,aFc⟩,aNW X aO,rfl,jR⟩
 obtain rfl:a=xK f r.dI:=ha D;obtain⟨aTJ,bJr,iJ⟩:=aBq (s:=s) (c:=c.l) (Z:=Z.l) (r:=r) (f:=f) (t:=t) D;have X:r6 s c.l Z.l r f t=BK f.aT.l f.aU.l f.cA (xK f r.dI) t:=by rw[r6,if_neg aO]
 have rZ:=bJ f.aU.l r.dI.toNat 0;have rB:=bJ c.l r.dI.toNat default;obtain⟨x,K⟩:∃x,x=c.l.getD r.dI.toNat default:=⟨_,rfl⟩;rw[<-K]at rB;apply eR∘Yk∘pS;refine cK (b31 f (xK f r.dI) t _ _ vO) ?_;rintro v E G ⟨p,q,bT,rfl,⟨iB,gG⟩,i1,rfl,rfl⟩;refine aG iR ?_;apply(G7);intro C0;apply i3∘TJ;apply(W)<;>intro bF;·refine a6 ?_;refine hF O [59,60,61] [0,1,2,3] [4,5,6,7] ([a5.mk I3 _ _,a5.mk sA _ _,a5.mk lN _ _,a5.mk h8 _ _]) _ cX bE a2 NO ?_;apply aAU∘a6j∘a4r;refine m5 zV ?_;apply p7∘a5o∘wX;refine gS (aZ (iT (gD ?_)));refine bN ((⟨a72,f.aU.l⟩:J Int).L 3 aL++((⟨a71,f.aT.l⟩:J bL).L 76 bL.cells++((⟨B0,c.l⟩:J b8).L 71 b8.cells++L))) _ NQ ?_;exact⟨r,⟨B0,c.l⟩,⟨a71,f.aT.l⟩,⟨a72,f.aU.l⟩,f.cA,by rw[X];rfl,⟨XW,Hf,aFc⟩,aNW X bF,rfl,jR⟩
 obtain⟨eB,gB,rfl⟩:=i1 D;have nQ:BK f.aT.l f.aU.l f.cA (xK f r.dI) t=0:=by omega
 have qB:¬r6 s c.l Z.l r f t≠0:=by omega
 apply iK∘b1∘kJ;refine aG aI0 ?_;apply jI∘qP;apply(W)<;>intro b2;·apply cO∘aCC∘dA;intro yL;apply rP∘b1∘r7∘jW;refine hF O [74,75] [0,1,2] [3,4,5,6] ([a5.mk yL _ _,a5.mk C0 _ _,a5.mk sA _ _,a5.mk lN _ _]) _ cX bE a2 NO ?_;apply aAU∘a6j∘a4r∘p7∘a5o∘wX;refine gS (aZ (iT (gD ?_)));refine bN (q.L 3 aL++(p.L 76 bL.cells++((⟨B0,c.l⟩:J b8).L 71 b8.cells++L))) _ NQ ?_;exact⟨⟨r.dI,r.first,r.Pw,r.step,t⟩,⟨B0,c.l⟩,p,q,f.cA,by rw[X,nQ];rfl,⟨XW,iB,gG⟩,⟨by rw[z7,if_neg qB,if_neg (by rw[P2];omega)],by rw[CV,if_neg qB,if_neg (by rw[P2];omega)],by rw[D3,if_neg qB,eB],gB,rfl⟩,rfl,jR⟩
 apply eR∘BB;refine aG (h4 O ((⟨B0,c.l⟩:J b8)) _ rfl rfl rfl rfl bC (i:=r.dI.toNat) cW iC) ?_;apply(k7);refine i4 (jL O ((⟨B0,c.l⟩:J b8)) (⟨false,x.clear,x.jJ⟩) rfl rfl rfl rfl c0 bC bI bC bH aE aE) ?_;rintro v E G ⟨rfl,rfl⟩;apply(jW);have aFY:=J.p4 (f:=b8.cells) (aR:=3) (p:=⟨B0,c.l⟩) (i:=r.dI.toNat) (x:=⟨false,x.clear,x.jJ⟩) bI XW;refine hF O [82,83] [1,2,0] [3,4,5,6] ([a5.mk C0 _ _,a5.mk sA _ _,a5.mk lN _ _]) _ cX bE a2 NO ?_;apply a6j∘a4r;refine k2 rfl (aBb _ _) rfl rfl ?_;rintro v E G ⟨rfl,rfl,rfl⟩;refine⟨a2,gN,?_⟩;apply p7∘a5o∘wX;refine gS (aZ (iT ?_));refine bN (q.L 3 aL++(p.L 76 bL.cells++((⟨B0,c.l.set r.dI.toNat ⟨false,x.clear,x.jJ⟩⟩:J b8).L 71 b8.cells++L))) _ NQ ?_;exact⟨u9,⟨B0,c.l.set r.dI.toNat ⟨false,x.clear,x.jJ⟩⟩,p,q,f.cA,by simp only[X,nQ,J.val,p6],⟨aFY,iB,gG⟩,⟨by rw[z7,if_neg qB,if_pos (by rw[P2];omega)],by rw[CV,if_neg qB,if_pos (by rw[P2];omega),<-K],by rw[D3,if_neg qB,eB],gB,rfl⟩,rfl,jR⟩
end
def W6(z:jU):jU:=⟨⟨none,0,z.jQ.l⟩,z.hold,⟨none,0,z.aD.l⟩,z.tG⟩
def yE(s:dQ):dQ:=⟨sP s.bU,⟨none,0,s.cD.l⟩,⟨none,0,s.dD.l⟩,⟨none,0,s.aU.l.map W6⟩,⟨none,0,s.mF.l⟩⟩
def Yh(s:dQ)(k:Nat):(yE s).aU.l.getD k default=W6 (s.aU.l.getD k default):=a4o rfl
def Yj(s:dQ):(yE s).aU.l.length=s.aU.l.length:=uQ _
def b2F(a:bR)(x:fA):J7 (sP a) x=J7 a x:=by rw[J7,J7,show(sP a).a3.l.length=a.a3.l.length from uQ _,show(sP a).aX.l.length=a.aX.l.length from uQ _];rfl
def b4V(a:bR)(S:List fA):J9 (sP a) S=J9 a S:=by
 have e:yK (sP a) S=yK a S:=by funext i;rw[yK,yK,b2F]
 rw[J9,J9,e]
def b39(s:dQ):KM (yE s)=KM s:=by rw[KM,KM,show(yE s).aU.l=s.aU.l.map W6 from rfl,aH7];rfl
def Zy(s:dQ):oI (yE s)=oI s:=by rw[oI,oI,b39,Yj,show hO (yE s).bU=hO s.bU from aK3 _,show J9 (yE s).bU (yE s).cD.l=J9 s.bU s.cD.l from b4V _ _];rfl
def aLW(s:dQ)(m:List eA)(w:List fR)(Z:List a9)(t:Int):qW (yE s) m w Z t=qW s m w Z t:=by rw[qW,qW,Zy];rfl
def aJK(s:dQ)(v:List Int)(c:List b8)(t:Int):q6 (yE s) v c t=q6 s v c t:=by rw[q6,q6,Zy,Yj];rfl
def aKj(s:dQ)(v:List Int)(c:List b8)(t:Int):KT (yE s) v c t=KT s v c t:=by funext i;rw[KT,KT,Yh];rfl
def aC1(s:dQ)(v:List Int)(c:List b8): ∀k,BE (yE s) v c k=BE s v c k
 |0=>rfl
 |k+1=>by rw[BE,BE,aC1 s v c k,Yh];rfl
def aNM(s:dQ)(c:List b8)(Z:List a9)(k t:Int):sF (yE s) c Z k t=sF s c Z k t:=by rw[sF,sF,Yh];rfl
def aQn(s:dQ)(n m:Nat)(t:Int):uO (yE s) n m t=uO s n m t:=by rw[uO,uO,Zy,Yj];rfl
abbrev fZ(s s':dQ):Prop:=yE s=yE s'
section
variable{s s':dQ}(h:fZ s s')
include h
def fZ.bU:sP s.bU=sP s'.bU:=congrArg dQ.bU Jr
def fZ.LJ:s.cD.l=s'.cD.l:=by have e:=congrArg (λx:dQ=>x.cD.l) Jr;exact e
def fZ.dD:s.dD.l=s'.dD.l:=by have e:=congrArg (λx:dQ=>x.dD.l) Jr;exact e
def fZ.mF:s.mF.l=s'.mF.l:=by have e:=congrArg (λx:dQ=>x.mF.l) Jr;exact e
def fZ.places:s.bU.Y.places.l=s'.bU.Y.places.l:=by have e:=congrArg (λx:dQ=>x.bU.Y.places.l) Jr;exact e
def fZ.aD:s.bU.Y.aD.l=s'.bU.Y.aD.l:=by have e:=congrArg (λx:dQ=>x.bU.Y.aD.l) Jr;exact e
def fZ.O4:s.bU.a3.l.length=s'.bU.a3.l.length:=by have:=congrArg (λx:dQ=>x.bU.a3.l.length) Jr;simpa[yE,sP]using this
def fZ.M8:s.bU.aX.l.length=s'.bU.aX.l.length:=by have:=congrArg (λx:dQ=>x.bU.aX.l.length) Jr;simpa[yE,sP]using this
def fZ.a7O:s.aU.l.length=s'.aU.l.length:=by rw[<-Yj s,h,Yj s']
def fZ.dI(k:Nat):W6 (s.aU.l.getD k default)=W6 (s'.aU.l.getD k default):=by rw[<-Yh s,h,Yh s']
def fZ.jQ(k:Nat):(s.aU.l.getD k default).jQ.l=(s'.aU.l.getD k default).jQ.l:=by have e:=congrArg (λz:jU=>z.jQ.l) (fZ.dI h k);exact e
def fZ.uD(k:Nat):(s.bU.aX.l.getD k default).hH.l=(s'.bU.aX.l.getD k default).hH.l:=by
 have e:IG (s.bU.aX.l.getD k default)=IG (s'.bU.aX.l.getD k default):=by rw[<-aAN s.bU,fZ.bU h,aAN s'.bU]
 have eY:=congrArg (λd:g9=>d.hH.l) e;exact eY
def fZ.pT:oI s=oI s':=by rw[<-Zy s,h,Zy s']
def fZ.qW(m:List eA)(w:List fR)(Z:List a9)(t:Int):qW s m w Z t=qW s' m w Z t:=by rw[<-aLW s,h,aLW s']
def fZ.JO(m:List eA)(w:List fR)(Z:List a9)(t:Int):JO s m w Z t=JO s' m w Z t:=by rw[Go.Proofs.YtchfclmokpbldaaGreat.JO,Go.Proofs.YtchfclmokpbldaaGreat.JO,fZ.qW h,fZ.LJ h,fZ.dD h]
def fZ.p5(m:List eA)(w:List fR)(Z:List a9)(t:Int):p5 s m w Z t=p5 s' m w Z t:=by rw[Go.Proofs.YtchfclmokpbldaaGreat.p5,Go.Proofs.YtchfclmokpbldaaGreat.p5,fZ.qW h,fZ.LJ h,fZ.dD h]
def fZ.q6(v:List Int)(c:List b8)(t:Int):q6 s v c t=q6 s' v c t:=by rw[<-aJK s,h,aJK s']
def fZ.KT(v:List Int)(c:List b8)(t:Int):KT s v c t=KT s' v c t:=by rw[<-aKj s,h,aKj s']
def fZ.qA(v:List Int)(c:List b8)(t:Int):qA s v c t=qA s' v c t:=by rw[Go.Proofs.YtchfclmokpbldaaGreat.qA,Go.Proofs.YtchfclmokpbldaaGreat.qA,fZ.q6 h,fZ.KT h]
def fZ.AD(v:List Int)(c:List b8)(t:Int):AD s v c t=AD s' v c t:=by rw[Go.Proofs.YtchfclmokpbldaaGreat.AD,Go.Proofs.YtchfclmokpbldaaGreat.AD,fZ.q6 h,<-aC1 s,h,aC1 s']
def fZ.sF(c:List b8)(Z:List a9)(k t:Int):sF s c Z k t=sF s' c Z k t:=by rw[<-aNM s,h,aNM s']
def fZ.uO(n m:Nat)(t:Int):uO s n m t=uO s' n m t:=by rw[<-aQn s,h,aQn s']
def fZ.p9(c:List b8)(Z:List a9)(r:j4)(p k t:Int):p9 s c Z r p k t=p9 s' c Z r p k t:=by rw[Go.Proofs.YtchfclmokpbldaaGreat.p9,Go.Proofs.YtchfclmokpbldaaGreat.p9,fZ.uO h,fZ.sF h,fZ.mF h]
def fZ.u0(c:List b8)(Z:List a9)(r:j4)(p k t:Int):u0 s c Z r p k t=u0 s' c Z r p k t:=by rw[Go.Proofs.YtchfclmokpbldaaGreat.u0,Go.Proofs.YtchfclmokpbldaaGreat.u0,fZ.p9 h]
def fZ.tD(c:List b8)(Z:List a9)(r:j4)(p t:Int):tD s c Z r p t=tD s' c Z r p t:=by
 have e:TN s r p↔TN s' r p:=by unfold TN;rw[fZ.mF h]
 simp only[Go.Proofs.YtchfclmokpbldaaGreat.tD,fZ.uO h,fZ.sF h,e]
def fZ.vL(c:List b8)(Z:List a9)(r:j4)(p t:Int):vL s c Z r p t=vL s' c Z r p t:=by rw[Go.Proofs.YtchfclmokpbldaaGreat.vL,Go.Proofs.YtchfclmokpbldaaGreat.vL,fZ.tD h]
end
def aKT(x:bL)(t:Int):bL:=⟨x.bB,t,0,false,false⟩
def rM(aF:List bL)(s t:Int):List bL:=if(aF.getD s.toNat default).dM=true then aF.set s.toNat (aKT (aF.getD s.toNat default) t)else aF
def b1X(aF:List bL)(s t:Int):(rM aF s t).length=aF.length:=by rw[rM];split<;>simp
structure vE(aF tP:List bL)(t:Int):Prop where
 len:tP.length=aF.length
 kW:∀i:Nat,i<aF.length->(tP.getD i default).bB=(aF.getD i default).bB/\((tP.getD i default).cQ=(aF.getD i default).cQ\/(tP.getD i default).cQ=t)/\(-1<=(tP.getD i default).cY/\(tP.getD i default).cY<=1)/\¬((tP.getD i default).bV=true/\((tP.getD i default).dM=true\/(tP.getD i default).cY= -1))
def aJb{aF:List bL}{cG:List Int}{bT:Int}(h:i6 aF cG bT=0):∀i:Nat,i<aF.length->(-1<=(aF.getD i default).cY/\(aF.getD i default).cY<=1)/\¬((aF.getD i default).bV=true/\((aF.getD i default).dM=true\/(aF.getD i default).cY= -1)):=λi aA=>by
 by_cases bQ:32<aF.length\/16<cG.length
 ·rw[i6,if_pos bQ]at h;omega
 cases N:(List.range aF.length).findSome? (BF aF)with
 |some e=>rw[a0e bQ N]at h;exact absurd h (aA9 (λ_=>aNt) N)
 |none=>
  have:=aCY N aA
  rw[BF]at this
  split at this
  ·cases this
  split at this
  ·cases this
  split at this
  ·cases this
  rename_i eU eE i2
  rw[not_or]at i2
  exact⟨by omega,i2.2⟩
def vE.refl{aF:List bL}{cG:List Int}{bT:Int}(h:i6 aF cG bT=0)(t:Int):vE aF aF t:=⟨rfl,λi aA=>⟨rfl,.inl rfl,aJb h i aA⟩⟩
def vE.i6{aF tP:List bL}{cG:List Int}{bT t:Int}(k:vE aF tP t)(h:i6 aF cG bT=0)(dS:0<=t/\t<=2147483648):i6 tP cG bT=0:=by
 have hl:=k.len;have hok:=zD h;have bAU:¬(32<tP.length\/16<cG.length):=by have:=hok.wN;have:=hok.yA;omega
 have a07:(List.range tP.length).findSome? (BF tP)=none:=by
  rw[NN];intro i aA;rw[VD,hl]at aA;have V:=k.kW i aA;have aQ:=hok.up i aA;have b7:=hok.cQ i aA;exact aAR rfl D D (λh=>by
   rcases h with h|h;·omega
   ·exact V.2.2.2 h)
 have aSb:(List.range cG.length).findSome? (GM tP.length cG)=none:=by rw[NN];intro i aA;rw[VD]at aA;have:=hok.Dh i aA;exact a4l D (λ⟨j,aY,e⟩=>hok.bHF i j aY aA e)
 rw[Jy bAU a07 aSb,if_neg (by have:=hok.bT;omega)]
def vE.time{aF tP:List bL}{t:Int}(k:vE aF tP t)(h:J6 aF t):J6 tP t:=⟨h.1,λx K=>by
 obtain⟨i,aA⟩:=List.mem_iff_getElem?.1 K
 have a1A:=(List.getElem?_eq_some_iff.1 aA).1
 have hl:=k.len
 have e:=getD_some (d:=default) aA
 have V:=k.kW i D
 have aQ:=h.2 _ (gU (bJ aF i default))
 rw[e]at V
 omega⟩
def vE.set{aF tP:List bL}{t:Int}(k:vE aF tP t){i:Nat}{x:bL}(N:x.bB=(tP.getD i default).bB)(V:x.cQ=(tP.getD i default).cQ\/x.cQ=t)(aQ:-1<=x.cY/\x.cY<=1)(b7:¬(x.bV=true/\(x.dM=true\/x.cY= -1))):vE aF (tP.set i x) t:=by
 refine⟨by rw[p6];exact k.len,λj aY=>?_⟩;have hl:=k.len;have hk:=k.kW j aY;rw[iW,EU];split;·
  rename_i e;subst e;rw[if_pos D];refine⟨by rw[<-hk.1,<-N];rfl,?_,aQ,b7⟩;rcases V with V|V;·
   rcases hk.2.1 with eG|eG;·exact .inl (by rw[<-eG,<-V];rfl)
   ·exact .inr (by rw[<-eG,<-V];rfl)
  ·exact .inr V
 ·rw[<-iW];exact hk
def vE.a74{aF tP:List bL}{t:Int}(k:vE aF tP t)(s:Int):vE aF (rM tP s t) t:=by
 rw[rM];split;·exact k.set rfl (.inr rfl) ⟨by show(-1:Int)<=0;decide,by show(0:Int)<=1;decide⟩ (by simp[aKT])
 ·exact k
def Z6(x:bL):Bool:=!x.dM && decide (x.cY≠-1) && !x.bV
structure Lb where
 aF:List bL
 bV:List Int
 U3:List Int
 deriving Inhabited
def Su(x:bL):bL:=⟨x.bB,x.cQ,x.cY,x.dM,true⟩
def Z5(bT t:Int)(y:Lb)(i:Nat):Lb:=
 if Z6 (y.aF.getD i default)=true/\bT<=t-(y.aF.getD i default).cQ then
  if 0<=(y.aF.getD i default).bB/\((y.aF.set i (Su (y.aF.getD i default))).getD (y.aF.getD i default).bB.toNat default).dM=true then
   ⟨rM (y.aF.set i (Su (y.aF.getD i default))) (y.aF.getD i default).bB t,y.bV++[(i:Int)],y.U3++[(y.aF.getD i default).bB]⟩
  else⟨y.aF.set i (Su (y.aF.getD i default)),y.bV++[(i:Int)],y.U3⟩
 else y
def L7(aF:List bL)(bT t:Int):Nat->Lb
 |0=>⟨aF,[],[]⟩
 |k+1=>Z5 bT t (L7 aF bT t k) (aF.length-1-k)
def oL(aF:List bL)(bT t:Int):Lb:=L7 aF bT t aF.length
def b45{aF:List bL}{bT t:Int}{y:Lb}(i:Nat)(aA:i<aF.length)(k:vE aF y.aF t):vE aF (Z5 bT t y i).aF t:=by
 have V:=k.kW i aA;rw[Z5];split;·
  rename_i cV;have a7y:=cV.1;rw[Z6,oS,oS,decide_eq_true_eq]at a7y;have hs:vE aF (y.aF.set i (Su (y.aF.getD i default))) t:=k.set rfl (.inl rfl) V.2.2.1 (λh=>by
   rcases h.2 with h|h;·have:(y.aF.getD i default).dM=true:=h;rw[this]at a7y;exact absurd a7y.1.1 bH
   ·exact a7y.1.2 h)
  split;·exact hs.a74 _
  ·exact hs
 ·exact k
def Rz{aF:List bL}{cG:List Int}{bT t:Int}(h:i6 aF cG bT=0): ∀k,k<=aF.length->vE aF (L7 aF bT t k).aF t
 |0,_=>.refl h t
 |k+1,hk=>b45 _ D (Rz h k D)
def b9p{bT t:Int}{y:Lb}{i:Nat}:(Z5 bT t y i).bV.length<=y.bV.length+1/\(Z5 bT t y i).U3.length<=y.U3.length+1:=by
 rw[Z5];repeat' split
 all_goals (first|(simp only[iD,sK,EV];omega)|omega)
def a0v{aF:List bL}{bT t:Int}: ∀k,(L7 aF bT t k).bV.length<=k/\(L7 aF bT t k).U3.length<=k
 |0=>⟨g4 _,g4 _⟩
 |k+1=>by
  have N:=a0v (aF:=aF) (bT:=bT) (t:=t) k
  have V:=b9p (bT:=bT) (t:=t) (y:=L7 aF bT t k) (i:=aF.length-1-k)
  rw[L7];omega
def Kp(bT:Int)(v:Int)(x:bL):Int:=if Z6 x=true then min v (x.cQ+bT)else v
def QY(aF:List bL)(bT:Int):Int:=aF.foldl (Kp bT) 1099511627776
def a38(x:Int)(k:Nat):Int:=x/2^k%2
def a36(a b:Int):Int:=((a.toNat^^^b.toNat:Nat):Int)
def Tg(r b:Int):Int:=if r/32768=b then 2*r%65536 else a36 (2*r%65536) 4129
def W4(r x:Int):Nat->Int
 |0=>r
 |k+1=>Tg (W4 r x k) (a38 x (7-k))
def aBo(r x:Int):Int:=W4 r x 8
def uZ(l:List Int):Int:=l.foldl aBo 65535
def SA(r:Int):Prop:=0<=r/\r<65536
def b8x{r:Int}(b:Int)(h:SA r):SA (Tg r b):=by
 obtain⟨N,V⟩:=h;have hm:0<=2*r%65536/\2*r%65536<65536:=by omega
 rw[Tg];split;·exact hm
 ·refine⟨Int.natCast_nonneg _, ?_⟩;have:(2*r%65536).toNat^^^(4129:Int).toNat<2^16:=Nat.xor_lt_two_pow D bH;rw[a36];omega
def a4e{r:Int}(x:Int)(h:SA r): ∀k,SA (W4 r x k)
 |0=>h
 |k+1=>b8x _ (a4e x h k)
def aQ5: ∀(l:List Int) {r:Int},SA r->SA (l.foldl aBo r)
 |[],_,h=>h
 |x::l,_,h=>aQ5 l (a4e x h 8)
def a4L(l:List Int):SA (uZ l):=aQ5 l ⟨by decide,by decide⟩
def aOM{l:List Int}{k:Nat}{x:Int}(h:l[k]?=some x):uZ (l.take (k+1))=aBo (uZ (l.take k)) x:=by rw[PM,h,uZ,Iy];rfl
structure D0 where
 hV:Int
 kind:Int
 data:List Int
 deriving DecidableEq,Inhabited
def zW(l:List Int):Prop:=l.getD 0 0≠126\/(1<l.length/\64<l.getD 1 0)
instance(l:List Int):Decidable (zW l):=by unfold zW;exact inferInstance
def z0(l:List Int):Prop:=(l.length:Int)<2\/(l.length:Int)<l.getD 1 0+6
instance(l:List Int):Decidable (z0 l):=by unfold z0;exact inferInstance
def j0(l:List Int):Nat:=(l.getD 1 0).toNat
def P6(l:List Int):Int:=l.getD (4+j0 l) 0*256+l.getD (5+j0 l) 0
def MI(l:List Int):List Int:=(l.take (4+j0 l)).drop 1
def a5a(l:List Int):D0:=⟨l.getD 2 0,l.getD 3 0,(l.take (4+j0 l)).drop 4⟩
structure aOD where
 held:List Int
 eJ:Int
 cU:List D0
 deriving DecidableEq,Inhabited
def j3(l:List Int)(d:Int):aOD:=
 if hl:l=[]then⟨[],d,[]⟩
 else if zW l then j3 l.tail (d+1)
 else if z0 l then⟨l,d,[]⟩
 else if uZ (MI l)≠P6 l then j3 l.tail (d+1)
 else⟨(j3 (l.drop (j0 l+6)) d).held,(j3 (l.drop (j0 l+6)) d).eJ,a5a l::(j3 (l.drop (j0 l+6)) d).cU⟩
termination_by l.length
decreasing_by
 all_goals have:=List.length_pos_iff.2 hl
 all_goals simp only[Wz,F9];omega
def Ym(d:Int):j3 [] d=⟨[],d,[]⟩:=by rw[j3,dif_pos rfl]
def Kl{l:List Int}{d:Int}(h:l≠[])(N:zW l\/(¬z0 l/\uZ (MI l)≠P6 l)):j3 l d=j3 l.tail (d+1):=by
 rw[j3,dif_neg h];split;·rfl
 ·
  rename_i V;rcases N with N|⟨aQ,b7⟩;·exact absurd N V
  ·rw[if_neg aQ,if_pos b7]
def a0x{l:List Int}{d:Int}(h:l≠[])(N:¬zW l)(V:z0 l):j3 l d=⟨l,d,[]⟩:=by rw[j3,dif_neg h,if_neg N,if_pos V]
def a4g{l:List Int}{d:Int}(h:l≠[])(N:¬zW l)(V:¬z0 l)(aQ:uZ (MI l)=P6 l):j3 l d=⟨(j3 (l.drop (j0 l+6)) d).held,(j3 (l.drop (j0 l+6)) d).eJ,a5a l::(j3 (l.drop (j0 l+6)) d).cU⟩:=by rw[j3,dif_neg h,if_neg N,if_neg V,if_neg (by rw[aQ];exact λh=>h rfl)]
def n2(l:List Int):Prop:=∀x∈l,0<=x/\x<=255
def n2.at{l:List Int}(h:n2 l)(i:Nat):0<=l.getD i 0/\l.getD i 0<=255:=by
 rcases gY i l.length with aA|aA;·exact h _ (gU (iL (l:=l) (k:=i) 0 aA))
 ·rw[iW,sJ aA];decide
def aAo{l:List Int}(h:n2 l)(V:¬z0 l):j0 l+6<=l.length/\((j0 l:Nat):Int)=l.getD 1 0:=by have:=h.at 1;rw[z0]at V;rw[j0];omega
def P1(f:D0):List Int:=126::(f.data.length:Int)::f.hV::f.kind::f.data
def a0F(f:D0):List Int:=P1 f++[uZ (P1 f).tail/256,uZ (P1 f).tail%256]
def b9C(f:D0):(a0F f).length=f.data.length+6:=by simp[a0F,P1]
structure fK where
 time:Int
 kind:Int
 target:Int
 value:Int
 deriving DecidableEq,Inhabited
def fK.cells(x:fK):List Value:=[.int .i64 x.time,.int .i64 x.kind,.int .i64 x.target,.int .i64 x.value]
abbrev iY(x:a0 fK):fG:=x.fI 4 fK.cells []
structure b0 where
 time:Int
 held:List Int
 eJ:Int
 c5:List eA
 eF:List fR
 aS:List b8
 aF:List bL
 aB:j4
 eM:List fK
structure hQ where
 aK:dQ
 cG:List Int
 bT:Int
 bU:List Bool
def a0J(S:List fA)(kind target:Int):Option Nat:=(List.range S.length).find? λi=>decide ((S.getD i default).kind=kind/\(S.getD i default).target=target)
def E3(S:List fA)(m:List eA)(t kind target n:Int):Int:=
 match a0J S kind target with
 |none=>-1
 |some i=>if(rL S m (i:Int) t).bG=(rL S m (i:Int) t).bO/\0<=(rL S m (i:Int) t).bG/\(rL S m (i:Int) t).bG<n then(rL S m (i:Int) t).bG else -1
def aKg(S:List fA)(m:List eA)(t kind target n:Int)(hn:0<=n):-1<=E3 S m t kind target n/\(E3 S m t kind target n<n\/E3 S m t kind target n= -1):=by
 rw[E3];split;·omega
 ·split<;>omega
def GL(s:dQ)(m:List eA)(t:Int)(k:Nat):List Int:=(List.range k).map λ(i:Nat)=>E3 s.cD.l m t 5 (i:Int) 3
def KD(s:dQ)(m:List eA)(t:Int)(k:Nat):List Int:=(List.range k).map λ(i:Nat)=>E3 s.cD.l m t 6 (i:Int) ((s.bU.aX.l.getD i default).hH.l.length:Int)
def ZS(s:dQ)(m:List eA)(t:Int):Zp:=(GL s m t s.bU.a3.l.length,KD s m t s.bU.aX.l.length)
def KE(s:dQ)(A:List Bool)(m:List eA)(t:Int):List a9:=(P0 (Gf s.bU A (ZS s m t)) kY 3 s.cD.l m t).cU
def b8T(s:dQ)(m:List eA)(t:Int)(k:Nat):GL s m t (k+1)=GL s m t k++[E3 s.cD.l m t 5 (k:Int) 3]:=by rw[GL,LO,wP];rfl
def aNe(s:dQ)(m:List eA)(t:Int)(k:Nat):KD s m t (k+1)=KD s m t k++[E3 s.cD.l m t 6 (k:Int) ((s.bU.aX.l.getD k default).hH.l.length:Int)]:=by rw[KD,LO,wP];rfl
def a5x(s:dQ)(m:List eA)(t:Int)(k:Nat):(GL s m t k).length=k:=by simp[GL]
def a4h(s:dQ)(m:List eA)(t:Int)(k:Nat):(KD s m t k).length=k:=by simp[KD]
def a9x{s:dQ}(m:List eA)(t:Int):lL s.bU (Ib (ZS s m t))=true:=by
 refine aRD ⟨a5x ..,a4h ..,λi x K=>?_,λi x d K hd=>?_⟩;·have K:(GL s m t s.bU.a3.l.length)[i]? =some x:=K;rw[GL,pF]at K;obtain⟨aA,-⟩:=List.getElem?_eq_some_iff.1 (show(GL s m t s.bU.a3.l.length)[i]?=some x from by rw[GL,pF];exact K);rw[a5x]at aA;rw[LN aA]at K;have e:=y2 K;have:=aKg s.cD.l m t 5 (i:Int) 3 bH;dsimp only at e;rw[<-e];omega
 ·have K:(KD s m t s.bU.aX.l.length)[i]? =some x:=K;obtain⟨aA,-⟩:=List.getElem?_eq_some_iff.1 K;rw[a4h]at aA;rw[KD,pF,LN aA]at K;have e:=y2 K;have hg:=getD_some (d:=default) hd;have:=aKg s.cD.l m t 6 (i:Int) ((s.bU.aX.l.getD i default).hH.l.length:Int) D;rw[hg]at this;dsimp only at e;rw[<-e,hg];omega
def SC(l:List fK)(e:fK):List fK:=(l++[e]).drop (l.length+1-400)
def b9P{l:List fK}(e:fK):(SC l e).length<=400:=by rw[SC,F9,iD];simp;omega
def o7(p:b0)(kind target value:Int):b0:={p with eM:=SC p.eM ⟨p.time,kind,target,value⟩}
def zB(g:hQ)(p:b0)(z:Int):b0:=
 let gC:=o7 p 1 z (p.aS.getD z.toNat default).jJ
 let s:=g.cG.getD z.toNat 0
 let dJ:b0:={gC with aF:=rM p.aF s p.time}
 if(p.aF.getD s.toNat default).dM=true then o7 dJ 2 s 0 else dJ
def E6(g:hQ)(p:b0)(l:List Int):b0:=l.foldl (zB g) p
def xH(kind:Int)(p:b0)(l:List Int):b0:=l.foldl (λp x=>o7 p kind x 0) p
def a0c(g:hQ)(aF:List bL)(z:Nat):Bool:=(xC aF g.cG g.bT (g.cG.getD z 0)).any λk=>!(aF.getD k.toNat default).dM||decide ((aF.getD k.toNat default).cY= -1)
def L8(g:hQ)(dO:List Int)(p:b0)(z:Nat):b0:=
 if(p.aS.getD z default).off=true\/a0c g p.aF z=false then p
 else zB g {p with aS:=p.aS.set z ⟨true,(p.aS.getD z default).clear,v0 (g.aK.aU.l.getD z default).jQ.l dO⟩} (z:Int)
def n8(g:hQ)(dO:List Int)(p:b0):Nat->b0
 |0=>p
 |k+1=>L8 g dO (n8 g dO p k) k
def Ss(c:List b8)(r:j4):Prop:=r.dI= -1\/((0<=r.dI/\r.dI<c.length)/\(c.getD r.dI.toNat default).off=true/\(c.getD r.dI.toNat default).clear≠-1)
instance(c:List b8)(r:j4):Decidable (Ss c r):=by unfold Ss;infer_instance
def o6(c:List b8)(r:j4):j4:=if Ss c r then r else u9
def fC(g:hQ)(p:b0):List a9:=KE g.aK g.bU p.c5 p.time
def o5(g:hQ)(p:b0):List Int:=JO g.aK p.c5 p.eF (fC g p) p.time
def iV(g:hQ)(p:b0):b0:=
 E6 g {p with eF:=p5 g.aK p.c5 p.eF (fC g p) p.time,aS:=qA g.aK (o5 g p) p.aS p.time} (AD g.aK (o5 g p) p.aS p.time)
def NG(g:hQ)(p:b0):b0:=
 xH 2 (xH 3 {p with aB:=o6 p.aS p.aB,aF:=(oL p.aF g.bT p.time).aF} (oL p.aF g.bT p.time).bV) (oL p.aF g.bT p.time).U3
def bM(g:hQ)(vU:b0)(t:Int):b0:=
 let p:={vU with time:=t}
 let q:=NG g (iV g p)
 n8 g (o5 g p) q q.aS.length
def o8(p:b0)(t:Int):Prop:=t<p.time\/2147483648<t
instance(p:b0)(t:Int):Decidable (o8 p t):=by unfold o8;infer_instance
def DS(S:List fA)(uC:Int):Int:=(((List.range S.length).find? λi=>decide ((S.getD i default).hV=uC)).map Int.ofNat).getD (-1)
structure Inv(g:hQ)(p:b0):Prop where
 aK:oI g.aK=0
 xI:lS g.aK.bU.Y g.bU
 time:0<=p.time/\p.time<=2147483648
 c5:p.c5.length=g.aK.cD.l.length
 LF:∀x∈p.c5,w9 x
 Iv:p.eF.length=g.aK.dD.l.length
 Iw:∀w∈p.eF,L2 w/\w.xY<=p.time
 D5:p.aS.length=g.aK.aU.l.length
 BN:i6 p.aF g.cG g.bT=0
 cQ:∀x∈p.aF,x.cQ<=p.time
 Qx:g.cG.length=g.aK.aU.l.length
 aB:0<=p.aB.time/\(p.aB.dI= -1\/(0<=p.aB.dI/\p.aB.dI<p.aS.length))
 eM:p.eM.length<=400
 held:n2 p.held/\p.held.length<=70
section
variable{g:hQ}{p:b0}
def Inv.RX(h:Inv g p):QF g.aK:=KP h.aK
def Inv.Gg(h:Inv g p):aI9 p.aF g.cG g.bT:=zD h.BN
def Inv.bU(h:Inv g p):hO g.aK.bU=0:=h.RX.bU
def Inv.a2A(h:Inv g p):J6 p.aF p.time:=⟨h.time,h.cQ⟩
def Inv.at(h:Inv g p){t:Int}(N:p.time<=t)(V:t<=2147483648):Inv g {p with time:=t}:=
 {h with time:=⟨by have:=h.time;dsimp only;omega,V⟩,Iw:=λw cV=>⟨(h.Iw w cV).1,by have:=(h.Iw w cV).2;dsimp only;omega⟩,cQ:=λx K=>by have:=h.cQ x K;dsimp only;omega}
def Inv.AR(h:Inv g p)(kind target value:Int):Inv g (o7 p kind target value):={h with eM:=by show(SC p.eM _).length<=400;exact b9P _}
def Inv.Wg(h:Inv g p){aF:List bL}(k:vE p.aF aF p.time):Inv g {p with aF:=aF}:=
 {h with BN:=k.i6 h.BN h.time,cQ:=(k.time h.a2A).2}
def Inv.cut(h:Inv g p)(z:Int):Inv g (zB g p z):=by
 have N:=h.AR 1 z (p.aS.getD z.toNat default).jJ;have V:=N.Wg (aF:=rM p.aF (g.cG.getD z.toNat 0) p.time) ((vE.refl h.BN p.time).a74 _);rw[zB];split;·exact V.AR _ _ _
 ·exact V
def aNG: ∀(l:List Int) {p:b0},Inv g p->Inv g (E6 g p l)
 |[],_,h=>h
 |z::l,_,h=>aNG l (h.cut z)
def Inv.aS(h:Inv g p)(l:List Int):Inv g (E6 g p l):=aNG l h
def aPR(kind:Int): ∀(l:List Int) {p:b0},Inv g p->Inv g (xH kind p l)
 |[],_,h=>h
 |z::l,_,h=>aPR kind l (h.AR kind z 0)
def Inv.Ie(kind:Int)(h:Inv g p)(l:List Int):Inv g (xH kind p l):=aPR kind l h
def aQ9(z:Int):(zB g p z).aS=p.aS:=by rw[zB];split<;>rfl
def Inv.aDq(h:Inv g p):(fC g p).length=g.aK.bU.Y.aD.l.length:=by rw[fC,KE,P0,(aBD ..).1,Gf];exact a4s h.bU (a9x _ _) h.xI
def b2n{S:List fA}{n:Nat}{c:m9}(h:H9 S n c=0)(hk:c.kind=1):FI c.nI:=by
 rw[H9]at h;split at h;·omega
 split at h;·omega
 rw[KN]at h;exact a8m
def Inv.a2G(h:Inv g p):qW g.aK p.c5 p.eF (fC g p) p.time=0:=by
 have dS:=h.time;rw[qW,if_neg (by rw[h.aK];decide),if_neg (by rw[h.c5,h.Iv,h.aDq];simp),if_neg D];have:(List.range p.eF.length).findSome? (λi=>zR (E7 (g.aK.dD.l.getD i default) (p.eF.getD i default) p.time))=none:=by
  rw[NN];intro i aA;rw[VD]at aA;have cV:=h.Iw _ (gU (iL (l:=p.eF) (k:=i) default aA));have hc:=h.RX.cond _ (gU (iL (l:=g.aK.dD.l) (k:=i) default (by rw[<-h.Iv];exact aA)));rw[zR,if_pos];rw[E7];split;·rename_i hk;exact aCT (b2n hc hk) D cV.1
  ·rfl
 rw[this];rfl
def b5q(l:wV){w:fR}(x:a9){t:Int}(dS:0<=t)(h:L2 w)(hl:w.xY<=t):L2 (yI l w x t)/\(yI l w x t).xY<=t:=by
 obtain⟨N,V,aQ,b7⟩:=h;rw[yI];repeat' split
 all_goals refine⟨⟨dS,?_,?_,?_⟩,oE _⟩
 all_goals dsimp only
 all_goals first|omega|exact .inl rfl|exact .inr rfl|(rcases b7 with b7|b7;exact .inl b7;simp_all)
def Inv.bGV(h:Inv g p):(o5 g p).length=g.aK.dD.l.length:=by rw[o5,JO,if_neg (by rw[h.a2G];decide),uQ,aId,h.Iv]
def Inv.aDk(h:Inv g p):q6 g.aK (o5 g p) p.aS p.time=0:=by have dS:=h.time;rw[q6,if_neg (by rw[h.aK];decide),if_neg (by rw[h.bGV,h.D5];simp),if_neg D]
def Inv.aHw(h:Inv g p):Inv g {p with eF:=p5 g.aK p.c5 p.eF (fC g p) p.time,aS:=qA g.aK (o5 g p) p.aS p.time}:=by
 have cV:(p5 g.aK p.c5 p.eF (fC g p) p.time).length=p.eF.length:=by rw[p5,if_neg (by rw[h.a2G];decide),uQ,aId]
 have hc:(qA g.aK (o5 g p) p.aS p.time).length=p.aS.length:=by rw[qA,if_neg (by rw[h.aDk];decide),uQ,aId]
 refine{h with Iv:=cV.trans h.Iv,Iw:=λw hm=>?_,D5:=hc.trans h.D5,aB:=by rw[hc];exact h.aB};have hm:w∈p5 g.aK p.c5 p.eF (fC g p) p.time:=hm;rw[p5,if_neg (by rw[h.a2G];decide),List.mem_map]at hm;obtain⟨i,aA,rfl⟩:=hm;rw[VD]at aA;have cV:=h.Iw _ (gU (iL (l:=p.eF) (k:=i) default aA));show L2 (GS _ _ _ _ _)/\(GS _ _ _ _ _).xY<=p.time;rw[GS];split;·exact b5q _ _ h.time.1 cV.1 cV.2
 ·exact cV
def Inv.iV(h:Inv g p):Inv g (iV g p):=h.aHw.aS _
def aBs(c:List b8)(r:j4)(h:0<=r.time):0<=(o6 c r).time/\((o6 c r).dI= -1\/(0<=(o6 c r).dI/\(o6 c r).dI<c.length)):=by
 rw[o6];split;·rename_i hk;rw[Ss]at hk;exact⟨h,hk.imp_right λh=>h.1⟩
 ·exact⟨by decide,.inl rfl⟩
def Inv.NG(h:Inv g p):Inv g (NG g p):=by have N:Inv g {p with aB:=o6 p.aS p.aB}:={h with aB:=aBs _ _ h.aB.1};have V:=N.Wg (aF:=(oL p.aF g.bT p.time).aF) (Rz h.BN _ (g4 _));exact(V.Ie 3 _).Ie 2 _
def Inv.bAz(h:Inv g p)(dO:List Int)(z:Nat):Inv g (L8 g dO p z):=by
 rw[L8];split;·exact h
 ·refine Inv.cut (p:={p with aS:=p.aS.set z ⟨true,(p.aS.getD z default).clear,v0 (g.aK.aU.l.getD z default).jQ.l dO⟩}) ?_ _;exact{h with D5:=by show(p.aS.set _ _).length=_;rw[p6];exact h.D5,aB:=by show _/\(_\/(_/\_<((p.aS.set _ _).length:Int)));rw[p6];exact h.aB}
def Inv.n8(h:Inv g p)(dO:List Int): ∀k,Inv g (n8 g dO p k)
 |0=>h
 |k+1=>(Inv.n8 h dO k).bAz dO k
def Inv.settle(h:Inv g p){t:Int}(N:p.time<=t)(V:t<=2147483648):Inv g (bM g p t):=((h.at N V).iV.NG).n8 _ _
def aPK(z:Int):(zB g p z).time=p.time:=by rw[zB];split<;>rfl
end
section
attribute [local irreducible] cH c6 dP aI cJ eD e9 e0 e1 e5 eS e8 J.L
def ZM(k:Int):Int:=if k=6 then 5 else if k=5 then 2 else 1
def Lh(s:fA)(r:Int):a9:=⟨s.offset+s.EP*r/1000-s.error,s.offset+ -((-(s.EP*r))/1000)+s.error⟩
def DX(s:fA)(r:Int):a9:=
 if qM s≠0\/¬(0<=r/\r<=65535)then kY
 else if 4<=s.kind then if ZM s.kind<r then kY else⟨r,r⟩
 else if s.kind=1\/s.kind=2 then⟨max (Lh s r).bG 0,max (Lh s r).bO 0⟩else Lh s r
def a5B{s:fA}(h:qM s=0):E4 s:=by
 rw[qM]at h;split at h;·omega
 exact a8m
def a9Q{s:fA}{r:Int}(h:qM s=0)(M:0<=r/\r<=65535):-65535000000<=s.EP*r/\s.EP*r<=65535000000:=by have hs:=a5B h;rw[E4]at hs;have N:s.EP*r<=1000000*r:=a2Q D M.1;have V:-1000000*r<=s.EP*r:=a2Q D M.1;omega
def b1K(s:fA)(r:Int)(L:aP)(R:aJ):
 aI prog 262 [s.val,.int .i64 r].toArray L R (λv E G=>v=(DX s r).val/\L=E/\R=G):=by
 refine bW 67 call262 func262 ?_;apply(c8);intro cS;apply(dA);intro cT;apply(r1);refine aG qI ?_;refine cC rfl (a4T s _ _) ?_;apply(rO);apply cB (aC:=[_,_,_]) (j:=3) (a7:=10) rfl rfl aE rfl aW rfl;·intro eN;replace eN:=a8 eN;apply(b1);refine cC rfl a27 ?_;exact LQ
 intro iG;apply(b3);apply(W)<;>intro aO;·apply(cO);refine cC rfl JV ?_;apply(FB);refine bN L R mR ?_;exact⟨by rw[DX,if_pos Xr],rfl,rfl⟩
 have c1:¬(qM s≠0\/¬(0<=r/\r<=65535)):=by simp at aO;omega
 have pX:=a9Q (s:=s) (r:=r) D D;have u6:=a5B (s:=s) D;rw[E4]at u6;apply(GW);refine cC rfl (aCf _ _ _) ?_;apply(b3);apply(W)<;>intro bF;·
  apply TK∘fH∘mT;refine v2 [5] ((⟨λg=>[(5,.int .i64 g.1)],λ_=>⟨cT,[.int .i64 0,.int .i64 0],90⟩::⟨cS,s.cells,88⟩::L,λ_=>R,λ_=>0⟩:dV {n:Int//n=if s.kind=5 then 2 else 1})) ?_ ?_;·
   skip
   apply(W)<;>intro b2;·apply eK∘WD;exact nZ ⟨2,by rw[if_pos b2]⟩
   refine dK ?_;exact nZ ⟨1,by rw[if_neg b2]⟩
  rintro⟨RR,AQ⟩ bZ;try dsimp only
  apply s2∘fH∘mT;refine v2 [5] ((⟨λg=>[(5,.int .i64 g.1)],λ_=>⟨cT,[.int .i64 0,.int .i64 0],90⟩::⟨cS,s.cells,88⟩::L,λ_=>R,λ_=>0⟩:dV {n:Int//n=ZM s.kind})) ?_ ?_;·
   skip
   apply(W)<;>intro dZ;·apply eK∘WD;exact nZ ⟨5,by rw[ZM,if_pos dZ]⟩
   refine dK ?_;exact nZ ⟨RR,by rw[ZM,if_neg dZ,AQ]⟩
  rintro⟨O3,JD⟩ bZ;try dsimp only
  apply A7∘b1∘BA;apply(W)<;>intro dX;·apply(cO);refine cC rfl JV ?_;apply(i3);refine eI (aZ (iT (gD (gD ?_))));refine bN L R mR ?_;exact⟨by rw[DX,if_neg c1,if_pos bF,if_pos D],rfl,rfl⟩
  apply eR∘pS∘y0∘FB;refine bN L R mR ?_;exact⟨by rw[DX,if_neg c1,if_pos bF,if_neg D],rfl,rfl⟩
 apply(x2);refine gJ O [0,1,2,3,4,5,8,9,11,12,13,14,15,16,19,20,6,7,10,17,18,21,22,23,24] ([a5.mk cS _ _]) cX bE a2 ?_;apply iI∘oV∘Co∘WP∘oV∘Co∘iI;refine k6 rfl (aMf (s.EP*r) 1000 _ _ D bH) ?_;apply EK∘yZ;refine k6 rfl (aPW (s.EP*r) 1000 _ _ D bH) ?_;apply EK∘EK;refine a4 Xo ?_;apply(p2);intro hP;apply sE∘LI∘fH;refine cC rfl (aPU _ _ _) ?_;apply(b3);apply(W)<;>intro h3;·apply(QW);refine aG B9 ?_;apply(fH);refine aG B9 ?_;apply r7∘G3∘S6;refine bN L R mR ?_;exact⟨by rw[DX,if_neg c1,if_neg bF,if_pos D];try rfl,rfl,rfl⟩
 apply eR∘S6;refine bN L R mR ?_;exact⟨by rw[DX,if_neg c1,if_neg bF,if_neg D];try rfl,rfl,rfl⟩
end
def v3(S:List fA)(f:D0)(t:Int):Int:=
 if t<0\/2147483648<t then 8
 else if DS S f.hV<0\/qM (S.getD (DS S f.hV).toNat default)≠0 then 9
 else if f.kind≠1/\f.kind≠2 then 5
 else if f.kind=1/\f.data.length≠2\/f.kind=2/\f.data.length≠0 then 6 else 0
def Se(S:List fA)(f:D0)(t:Int):eA:=
 ⟨DS S f.hV,t,if f.kind=1 then DX (S.getD (DS S f.hV).toNat default) (f.data.getD 0 0*256+f.data.getD 1 0)else kY⟩
def J8(S:List fA)(t:Int)(m:List eA)(f:D0):List eA:=if v3 S f t=0 then m.set (DS S f.hV).toNat (Se S f t)else m
def TY(g:hQ)(p:b0)(b:List Int)(t:Int):b0:=
 {p with held:=(j3 (p.held++b) p.eJ).held,eJ:=(j3 (p.held++b) p.eJ).eJ,c5:=(j3 (p.held++b) p.eJ).cU.foldl (J8 g.aK.cD.l t) p.c5}
def IK(g:hQ)(p:b0)(b:List Int)(t:Int):b0×Int:=if o8 p t then(p,8)else(bM g (TY g p b t) t,0)
def IJ(g:hQ)(p:b0)(t:Int):b0×Int:=if o8 p t then(p,8)else(bM g p t,0)
def CW(g:hQ)(p:b0)(s sh t:Int):b0×Int:=
 if o8 p t then(p,8)else if sT p.aF g.cG g.bT s sh≠0 then(p,sT p.aF g.cG g.bT s sh)else(bM g {p with aF:=LZ p.aF s sh} t,0)
def zZ(g:hQ)(p:b0)(Pr dI t:Int):b0×Int:=
 if o8 p t then(p,8)
 else
  let q:=bM g p t
  let e:=p9 g.aK q.aS (fC g q) q.aB Pr dI t
  if e≠0 then(o7 q 7 dI e,e)else(o7 {q with aB:=u0 g.aK q.aS (fC g q) q.aB Pr dI t} 4 dI Pr,0)
def CQ(g:hQ)(p:b0)(Pr t:Int):b0×Int:=
 if o8 p t then(p,8)
 else
  let q:=bM g p t
  let e:=tD g.aK q.aS (fC g q) q.aB Pr t
  if e≠0 then(o7 q 7 q.aB.dI e,e)else(o7 {q with aB:=vL g.aK q.aS (fC g q) q.aB Pr t} 5 q.aB.dI Pr,0)
def pD(g:hQ)(p:b0):hI:=⟨⟨none,0,p.aF⟩,⟨none,0,g.cG⟩,g.bT⟩
def CE(g:hQ)(p:b0)(t:Int):b0×Int:=
 if o8 p t then(p,8)
 else
  let q:=bM g p t
  let e:=r6 g.aK q.aS (fC g q) q.aB (pD g q) t
  if e≠0 then(o7 q 7 q.aB.dI e,e)
  else(o7 {q with aB:=z7 g.aK q.aS (fC g q) q.aB (pD g q) t,aS:=CV g.aK q.aS (fC g q) q.aB (pD g q) t,aF:=D3 g.aK q.aS (fC g q) q.aB (pD g q) t} 6 (xK (pD g q) q.aB.dI) 0,0)
def Km(l:wV)(w:fR):Int:=if KN l≠0\/w.cQ<0 then 1099511627776 else w.cQ+l.TW
def BJ(g:hQ)(p:b0):Nat->Int->Int
 |0,v=>v
 |k+1,v=>if(g.aK.dD.l.getD k default).kind=1 then min (BJ g p k v) (Km (g.aK.dD.l.getD k default).nI (p.eF.getD k default))else BJ g p k v
def aAx(g:hQ)(p:b0):Bool:=(List.range g.aK.cD.l.length).any λi=>decide (rL g.aK.cD.l p.c5 (i:Int) p.time≠kY)
def Zu(g:hQ)(p:b0):Int:=if aAx g p=true then min (BJ g p g.aK.dD.l.length (QY p.aF g.bT)) p.time else BJ g p g.aK.dD.l.length (QY p.aF g.bT)
def Sv(g:hQ)(p:b0):Int:=if Zu g p<=p.time then p.time+1 else Zu g p
def b15{S:List fA}{uC:Int}(h:¬DS S uC<0):(DS S uC).toNat<S.length/\0<=DS S uC:=by
 rw[DS]at h|-;cases hf:(List.range S.length).find? (λi=>decide ((S.getD i default).hV=uC))with
 |none=>rw[hf]at h;exact absurd bH h
 |some i=>have:=List.mem_of_find?_eq_some hf;rw[VD]at this;exact⟨this,Int.natCast_nonneg i⟩
def b3B(S:List fA)(t:Int)(m:List eA)(f:D0):(J8 S t m f).length=m.length:=by rw[J8];split<;>simp
def b1T{a t:Int}(dS:0<=t/\t<=2147483648):w9 ⟨a,t,kY⟩:=⟨dS,by show(-1125899906842624:Int)<= -1125899906842624/\(-1125899906842624:Int)<=1125899906842624;decide,by show(-1125899906842624:Int)<=1125899906842624/\(1125899906842624:Int)<=1125899906842624;decide⟩
def aQt(s:fA)(r:Int):(-1125899906842624<=(DX s r).bG/\(DX s r).bG<=1125899906842624)/\(-1125899906842624<=(DX s r).bO/\(DX s r).bO<=1125899906842624):=by
 rw[DX];split;·exact⟨by decide,by decide⟩
 rename_i h;have hm:=a9Q (s:=s) (r:=r) D D;have hs:=a5B (s:=s) D;rw[E4]at hs;split;·
  split;·exact⟨by decide,by decide⟩
  ·exact NJ
 split;·simp only[Lh];omega
 ·simp only[Lh];omega
def b2M{S:List fA}{t:Int}{m:List eA}(f:D0)(h:∀x∈m,w9 x):∀x∈J8 S t m f,w9 x:=by
 rw[J8];split;·
  rename_i X;intro x K;rcases aIl K with K|rfl;·exact h x K
  ·
   have dS:0<=t/\t<=2147483648:=by
    rw[v3]at X;split at X;·cases X
    ·omega
   rw[Se];split;·exact⟨dS,(aQt _ _).1,(aQt _ _).2⟩
   ·exact b1T dS
 ·exact h
def a3R{S:List fA}{t:Int}: ∀(l:List D0) {m:List eA},(∀x∈m,w9 x)->(∀x∈l.foldl (J8 S t) m,w9 x)/\(l.foldl (J8 S t) m).length=m.length
 |[],m,h=>⟨h,rfl⟩
 |f::l,m,h=>by
  have:=a3R (S:=S) (t:=t) l (b2M (S:=S) (t:=t) f h)
  exact⟨this.1,this.2.trans (b3B ..)⟩
def aRk:∀(n:Nat) {l:List Int} (d:Int),l.length=n->n2 l->(n2 (j3 l d).held/\(j3 l d).held.length<=70)/\d<=(j3 l d).eJ/\(j3 l d).eJ<=d+n:=by
 intro n;induction n using Nat.strongRecOn with
 |ind n cM=>
  intro l d hn hb;rcases GA (l=[])with h|h;·subst h;rw[Ym];exact⟨⟨λx K=>(by cases K),AY _⟩,oE _,(by show d<=d+(n:Int);omega)⟩
  ·
   have Bg:=List.length_pos_iff.2 h;have FU:n2 l.tail:=λx K=>hb x (aH2 K);have Oy:=cM l.tail.length (by rw[Wz];omega) (d+1) rfl FU;(have bJ9:((l.tail.length:Nat):Int)+1=n:=by rw[Wz];omega);rcases GA (zW l)with N|N;·rw[Kl h (.inl N)];exact⟨Oy.1,by omega,by omega⟩
   ·
    rcases GA (z0 l)with V|V;·rw[a0x h N V];refine⟨⟨hb,?_⟩,oE _,by dsimp only;omega⟩;have K:=hb.at 1;rw[z0]at V;rw[zW]at N;have:¬(1<l.length/\64<l.getD 1 0):=λh=>N (.inr h);dsimp only;omega
    ·
     rcases GA (uZ (MI l)=P6 l)with aQ|aQ;·rw[a4g h N V aQ];have:=cM (l.drop (j0 l+6)).length (by rw[F9];omega) d rfl (λx K=>hb x (Jf K));refine⟨this.1,this.2.1,?_⟩;have b7:=this.2.2;rw[F9]at b7;dsimp only;omega
     ·rw[Kl h (.inr ⟨V,aQ⟩)];exact⟨Oy.1,by omega,by omega⟩
section
variable{g:hQ}{p:b0}
def Inv.TY(h:Inv g p){b:List Int}(hb:n2 b)(t:Int):Inv g (TY g p b t):=by
 have N:=a3R (S:=g.aK.cD.l) (t:=t) (j3 (p.held++b) p.eJ).cU h.LF;have V:=aRk _ (l:=p.held++b) p.eJ rfl (λx K=>by
  rcases List.mem_append.1 K with K|K;·exact h.held.1 x K
  ·exact hb x K)
 exact{h with c5:=N.2.trans h.c5,LF:=N.1,held:=V.1}
def aRh(l:List Int):(E6 g p l).time=p.time:=by
 induction l generalizing p with
 |nil=>rfl
 |cons z l cM=>exact cM.trans (aPK z)
def aP3(kind:Int)(l:List Int):(xH kind p l).time=p.time:=by
 induction l generalizing p with
 |nil=>rfl
 |cons z l cM=>exact cM
def aA3(dO:List Int): ∀k,(n8 g dO p k).time=p.time
 |0=>rfl
 |k+1=>by
  rw[n8,L8]
  split
  ·exact aA3 dO k
  ·rw[aPK];exact aA3 dO k
def b5S(t:Int):(bM g p t).time=t:=by rw[bM];rw[aA3,NG,aP3,aP3];dsimp only;rw[iV,aRh]
def wT{t:Int}(h:¬o8 p t):p.time<=t/\t<=2147483648:=by rw[o8]at h;omega
def Inv.bAL(h:Inv g p){b:List Int}(hb:n2 b)(t:Int):Inv g (IK g p b t).1:=by
 rw[IK];split;·exact h
 ·rename_i hl;exact(h.TY hb t).settle (wT hl).1 (wT hl).2
def Inv.bGP(h:Inv g p)(t:Int):Inv g (IJ g p t).1:=by
 rw[IJ];split;·exact h
 ·rename_i hl;exact h.settle (wT hl).1 (wT hl).2
def Inv.aDe(h:Inv g p){s sh:Int}(X:sT p.aF g.cG g.bT s sh=0):Inv g {p with aF:=LZ p.aF s sh}:=by
 rw[sT,if_neg (by rw[h.BN];decide)]at X;split at X;·cases X
 rename_i N;split at X;·cases X
 rename_i V;have hg:=aJb h.BN s.toNat D;have k:vE p.aF (LZ p.aF s sh) p.time:=(vE.refl h.BN p.time).set rfl (.inl rfl) k1 (λaQ=>by
  dsimp only at aQ;split at aQ;·exact absurd aQ.1 bH
  ·
   rename_i b7;rcases aQ.2 with eG|eG;·exact hg.2 ⟨aQ.1,.inl eG⟩
   ·exact b7 eG)
 exact h.Wg k
def Inv.b98(h:Inv g p)(s sh t:Int):Inv g (CW g p s sh t).1:=by
 rw[CW];split;·exact h
 rename_i hl;split;·exact h
 rename_i X;exact(h.aDe (Decidable.not_not.1 X)).settle (wT hl).1 (wT hl).2
def Inv.b99(h:Inv g p)(a z t:Int):Inv g (zZ g p a z t).1:=by
 rw[zZ];split;·exact h
 rename_i hl;have hs:=h.settle (wT hl).1 (wT hl).2;dsimp only;split;·exact hs.AR _ _ _
 ·
  rename_i X;have X:p9 g.aK (bM g p t).aS (fC g (bM g p t)) (bM g p t).aB a z t=0:=Decidable.not_not.1 X;have e:u0 g.aK (bM g p t).aS (fC g (bM g p t)) (bM g p t).aB a z t=⟨z,a,-1,1,t⟩:=by rw[u0,if_pos X]
  have N:Inv g {bM g p t with aB:=u0 g.aK (bM g p t).aS (fC g (bM g p t)) (bM g p t).aB a z t}:=by
   refine{hs with aB:=?_};rw[e];refine⟨by have:=h.time;have:=wT hl;dsimp only;omega,.inr ?_⟩;rw[p9]at X;split at X;·omega
   split at X;·cases X
   split at X;·cases X
   exact a4B X
  exact N.AR _ _ _
def Inv.bAx(h:Inv g p)(a t:Int):Inv g (CQ g p a t).1:=by
 rw[CQ];split;·exact h
 rename_i hl;have hs:=h.settle (wT hl).1 (wT hl).2;dsimp only;split;·exact hs.AR _ _ _
 ·
  rename_i X;have X:tD g.aK (bM g p t).aS (fC g (bM g p t)) (bM g p t).aB a t=0:=Decidable.not_not.1 X;have N:Inv g {bM g p t with aB:=vL g.aK (bM g p t).aS (fC g (bM g p t)) (bM g p t).aB a t}:=by refine{hs with aB:=?_};rw[vL,if_pos X];exact aXl
  exact N.AR _ _ _
def Inv.close(h:Inv g p)(t:Int):Inv g (CE g p t).1:=by
 rw[CE];split;·exact h
 rename_i hl;have hs:=h.settle (wT hl).1 (wT hl).2;dsimp only;generalize hq:bM g p t=q at hs|-;have dS:q.time=t:=by rw[<-hq];exact b5S ..
 split;·exact hs.AR _ _ _
 ·
  rename_i X;have X:r6 g.aK q.aS (fC g q) q.aB (pD g q) t=0:=Decidable.not_not.1 X;have k:vE q.aF (D3 g.aK q.aS (fC g q) q.aB (pD g q) t) q.time:=by rw[D3,if_neg a20,Ti];exact(vE.refl hs.BN q.time).set rfl (.inr dS.symm) (by show(-1:Int)<=0/\(0:Int)<=1;decide) fX
  have hc:(CV g.aK q.aS (fC g q) q.aB (pD g q) t).length=q.aS.length:=by rw[CV,if_neg a20];split<;>simp
  have M:0<=(z7 g.aK q.aS (fC g q) q.aB (pD g q) t).time/\((z7 g.aK q.aS (fC g q) q.aB (pD g q) t).dI= -1\/(0<=(z7 g.aK q.aS (fC g q) q.aB (pD g q) t).dI/\(z7 g.aK q.aS (fC g q) q.aB (pD g q) t).dI<(CV g.aK q.aS (fC g q) q.aB (pD g q) t).length)):=by
   rw[hc,z7,if_neg a20];split;·exact⟨by decide,.inl rfl⟩
   ·exact aXl
  exact Inv.AR (p:={q with aB:=z7 g.aK q.aS (fC g q) q.aB (pD g q) t,aS:=CV g.aK q.aS (fC g q) q.aB (pD g q) t,aF:=D3 g.aK q.aS (fC g q) q.aB (pD g q) t}) {(hs.Wg k)with D5:=hc.trans hs.D5,aB:=M} _ _ _
end
structure cF where
 aK:dQ
 time:Int
 held:a0 Int
 eJ:Int
 c5:a0 eA
 eF:a0 fR
 aS:a0 b8
 cP:hI
 aB:j4
 eM:a0 fK
def cF.cells(x:cF):List Value:=[x.aK.bU.Y.places.val,x.aK.bU.Y.aD.val,x.aK.bU.a3.val,x.aK.bU.aX.val,x.aK.cD.val,x.aK.dD.val,x.aK.aU.val,x.aK.mF.val,.int .i64 x.time,x.held.val,.int .i64 x.eJ,x.c5.val,x.eF.val,x.aS.val,x.cP.aT.val,x.cP.aU.val,.int .i64 x.cP.cA,.int .i64 x.aB.dI,.int .i64 x.aB.first,.int .i64 x.aB.Pw,.int .i64 x.aB.step,.int .i64 x.aB.time,x.eM.val]
abbrev cF.val(x:cF):Value:=.agg #[x.aK.bU.Y.places.val,x.aK.bU.Y.aD.val,x.aK.bU.a3.val,x.aK.bU.aX.val,x.aK.cD.val,x.aK.dD.val,x.aK.aU.val,x.aK.mF.val,.int .i64 x.time,x.held.val,.int .i64 x.eJ,x.c5.val,x.eF.val,x.aS.val,x.cP.aT.val,x.cP.aU.val,.int .i64 x.cP.cA,.int .i64 x.aB.dI,.int .i64 x.aB.first,.int .i64 x.aB.Pw,.int .i64 x.aB.step,.int .i64 x.aB.time,x.eM.val]
structure lK(x:cF)(R:aJ):Prop where
 aK:zX x.aK R
 held:aH (hA x.held) R
 c5:aH (gT x.c5) R
 eF:aH (CY x.eF) R
 aS:aH (sS x.aS) R
 cP:k9 x.cP R
 eM:aH (iY x.eM) R
def lK.mono{x:cF}{R G:aJ}(h:lK x R)(k:∀r∈R,aH r G):lK x G:=⟨h.aK.mono k,h.held.mono k,h.c5.mono k,h.eF.mono k,h.aS.mono k,h.cP.mono k,h.eM.mono k⟩
structure h5(g:hQ)(p:b0)(x:cF):Prop where
 aK:fZ x.aK g.aK
 time:x.time=p.time
 held:x.held.l=p.held
 eJ:x.eJ=p.eJ
 c5:x.c5.l=p.c5
 eF:x.eF.l=p.eF
 aS:x.aS.l=p.aS
 aF:x.cP.aT.l=p.aF
 cG:x.cP.aU.l=g.cG
 bT:x.cP.cA=g.bT
 aB:x.aB=p.aB
 eM:x.eM.l=p.eM
section
variable{P:Program}{bA:Operand->Value}{L:aP}{R:aJ}{dst:Option Tmp}{ty:TypeId}{pos:String}{after:Array Edge}{guard:Option (Nat×Bool)}{T jD:TypeId}{x y z:Operand}{a b c:Int}{k fO:IntKind}
def Ys(K:bA x=.int fO a)(aN:bA y=.int k b)(hb:0<=b)(X:a.fdiv (2^(min b.toNat fO.bits))=c):cJ P ⟨dst,.binOp .shr T x y jD,ty,pos,after,guard⟩ bA L R (.int fO c):=λ_ _ _=>by
 have hb:Op.shift .shr fO a k b=(pure (.int fO c):Sem Value):=by
  unfold Op.shift
  rw[if_neg D,<-X]
 simp[execOp,K,aN,eqGuard,binOp,hb]
def a45(K:bA x=.int fO a)(aN:bA y=.int k b)(hb:0<=b)(X:fO.wrap (a*2^(min b.toNat fO.bits))=c):cJ P ⟨dst,.binOp .shl T x y jD,ty,pos,after,guard⟩ bA L R (.int fO c):=λ_ _ _=>by
 have hb:Op.shift .shl fO a k b=(pure (.int fO c):Sem Value):=by
  unfold Op.shift
  rw[if_neg D,<-X]
 simp[execOp,K,aN,eqGuard,binOp,hb]
def Zz(K:bA x=.int fO a)(aN:bA y=.int fO b)(X:fO.wrap ((BitVec.ofInt fO.bits a &&& BitVec.ofInt fO.bits b).toNat:Int)=c):cJ P ⟨dst,.binOp .and T x y jD,ty,pos,after,guard⟩ bA L R (.int fO c):=λ_ _ _=>by
 have hb:Op.intBits .and fO a b=(pure (.int fO c):Sem Value):=by
  unfold Op.intBits
  rw[<-X]
 simp[execOp,K,aN,eqGuard,binOp,hb]
def b7M(K:bA x=.int fO a)(aN:bA y=.int fO b)(X:fO.wrap ((BitVec.ofInt fO.bits a|||BitVec.ofInt fO.bits b).toNat:Int)=c):cJ P ⟨dst,.binOp .or T x y jD,ty,pos,after,guard⟩ bA L R (.int fO c):=λ_ _ _=>by
 have hb:Op.intBits .or fO a b=(pure (.int fO c):Sem Value):=by
  unfold Op.intBits
  rw[<-X]
 simp[execOp,K,aN,eqGuard,binOp,hb]
def aLr(K:bA x=.int fO a)(aN:bA y=.int fO b)(X:fO.wrap ((BitVec.ofInt fO.bits a^^^BitVec.ofInt fO.bits b).toNat:Int)=c):cJ P ⟨dst,.binOp .xor T x y jD,ty,pos,after,guard⟩ bA L R (.int fO c):=λ_ _ _=>by
 have hb:Op.intBits .xor fO a b=(pure (.int fO c):Sem Value):=by
  unfold Op.intBits
  rw[<-X]
 simp[execOp,K,aN,eqGuard,binOp,hb]
end
def aHm(n w:Nat)(h:n<2^w):(BitVec.ofInt w (n:Int)).toNat=n:=by rw[BitVec.ofInt_natCast,BitVec.toNat_ofNat,a2R h]
def Fo(n:Nat)(h:n<2^64):(BitVec.ofInt IntKind.i64.bits (n:Int)).toNat=n:=aHm n 64 h
def Te{n:Nat}(h:n<2^62):IntKind.i64.wrap (n:Int)=(n:Int):=by exact aHN
def aPO{a:Int}(h:0<=a/\a<1048576):IntKind.i64.wrap ((BitVec.ofInt IntKind.i64.bits a &&& BitVec.ofInt IntKind.i64.bits 65535).toNat:Int)=a%65536:=by
 obtain⟨n,rfl⟩:∃n:Nat,a=(n:Int):=⟨a.toNat,by omega⟩;have N:(BitVec.ofInt IntKind.i64.bits (n:Int) &&& BitVec.ofInt IntKind.i64.bits 65535).toNat=n%65536:=by rw[a8F,Fo n D,show(BitVec.ofInt IntKind.i64.bits 65535).toNat=65535 from Fo 65535 bH];exact a8C n 16
 rw[N,Te D];omega
def aJf{a:Int}(h:0<=a/\a<1048576):IntKind.i64.wrap ((BitVec.ofInt IntKind.i64.bits a &&& BitVec.ofInt IntKind.i64.bits 1).toNat:Int)=a%2:=by
 obtain⟨n,rfl⟩:∃n:Nat,a=(n:Int):=⟨a.toNat,by omega⟩;have N:(BitVec.ofInt IntKind.i64.bits (n:Int) &&& BitVec.ofInt IntKind.i64.bits 1).toNat=n%2:=by rw[a8F,Fo n D,show(BitVec.ofInt IntKind.i64.bits 1).toNat=1 from Fo 1 bH];exact a8C n 1
 rw[N,Te D];omega
def b2S{a:Int}(h:0<=a/\a<65536):IntKind.i64.wrap ((BitVec.ofInt IntKind.i64.bits a^^^BitVec.ofInt IntKind.i64.bits 4129).toNat:Int)=a36 a 4129:=by
 obtain⟨n,rfl⟩:∃n:Nat,a=(n:Int):=⟨a.toNat,by omega⟩;have N:(BitVec.ofInt IntKind.i64.bits (n:Int)^^^BitVec.ofInt IntKind.i64.bits 4129).toNat=n^^^4129:=by rw[BitVec.toNat_xor,Fo n D,show(BitVec.ofInt IntKind.i64.bits 4129).toNat=4129 from Fo 4129 bH]
 have V:n^^^4129<2^16:=Nat.xor_lt_two_pow D bH;rw[N,Te D,a36];rfl
def aKJ{n:Nat}(h:n<256):IntKind.u8.wrap (n:Int)=(n:Int):=by exact aHN
def b9T{a:Int}(h:0<=a/\a<256):IntKind.u8.wrap ((BitVec.ofInt IntKind.u8.bits a &&& BitVec.ofInt IntKind.u8.bits 1).toNat:Int)=a%2:=by
 obtain⟨n,rfl⟩:∃n:Nat,a=(n:Int):=⟨a.toNat,by omega⟩;have N:(BitVec.ofInt IntKind.u8.bits (n:Int) &&& BitVec.ofInt IntKind.u8.bits 1).toNat=n%2:=by rw[a8F,show(BitVec.ofInt IntKind.u8.bits (n:Int)).toNat=n from aHm n 8 D,show(BitVec.ofInt IntKind.u8.bits 1).toNat=1 from aHm 1 8 bH];exact a8C n 1
 rw[N,aKJ D];omega
def b2o{a b:Int}(ha:0<=a/\a<256)(hb:0<=b/\b<256):IntKind.i64.wrap ((BitVec.ofInt IntKind.i64.bits (a*256)|||BitVec.ofInt IntKind.i64.bits b).toNat:Int)=a*256+b:=by
 obtain⟨n,rfl⟩:∃n:Nat,a=(n:Int):=⟨a.toNat,by omega⟩;obtain⟨m,rfl⟩:∃m:Nat,b=(m:Int):=⟨b.toNat,by omega⟩;have N:(BitVec.ofInt IntKind.i64.bits ((n:Int)*256)|||BitVec.ofInt IntKind.i64.bits (m:Int)).toNat=n*256+m:=by
  rw[BitVec.toNat_or,show((n:Int)*256)=((n*256:Nat):Int) by omega,Fo (n*256) D,Fo m D];have V:2^8*n|||m=2^8*n+m:=(Nat.two_pow_add_eq_or_of_lt D n).symm
  rw[a8T n 256];exact V
 rw[N,Te D];omega
def b1N{a:Int}(ha:0<=a/\a<256):IntKind.i64.wrap (a*2^(min (8:Int).toNat IntKind.i64.bits))=a*256:=by
 obtain⟨n,rfl⟩:∃n:Nat,a=(n:Int):=⟨a.toNat,by omega⟩;have:(n:Int)*2^(min (8:Int).toNat IntKind.i64.bits)=((n*256:Nat):Int):=by show(n:Int)*2^8=_;omega
 rw[this,Te D];omega
def aJ4{a:Int}(ha:0<=a/\a<65536):IntKind.i64.wrap (a*2^(min (1:Int).toNat IntKind.i64.bits))=2*a:=by
 obtain⟨n,rfl⟩:∃n:Nat,a=(n:Int):=⟨a.toNat,by omega⟩;have:(n:Int)*2^(min (1:Int).toNat IntKind.i64.bits)=((2*n:Nat):Int):=by show(n:Int)*2^1=_;omega
 rw[this,Te D];omega
def aN7{a:Int}:a.fdiv (2^(min (15:Int).toNat IntKind.i64.bits))=a/32768:=by show a.fdiv (2^15)=_;rw[a8H _ bH];rfl
def b3L{a:Int}{j:Nat}(aY:j<=7):a.fdiv (2^(min ((j:Int)).toNat IntKind.u8.bits))=a/2^j:=by
 have:min ((j:Int)).toNat IntKind.u8.bits=j:=by show min j 8=j;omega
 rw[this,a8H _ (by exact Int.le_of_lt (Int.pow_pos bH))]
section
attribute [local irreducible] cH c6 dP aI cJ eD e9 e0 e1 e5 eS e8 J.L
def aQU(h:A->B:=by exact(aG qH ·)):=h
def b2z(h:B:=by exact oT ⟨z-1,by omega⟩ kG (by dsimp only;rw[cI,Tg,if_neg (show¬r/32768=a38 x z.toNat from b2)];exact⟨rfl,rfl,trivial⟩) a2 fF k1):=h
def b7q(h:B:=by exact oT ⟨z-1,by omega⟩ kG (by dsimp only;rw[cI,Tg,if_pos (show r/32768=a38 x z.toNat from Decidable.not_not.1 b2)];exact⟨rfl,rfl,trivial⟩) a2 fF k1):=h
def aKK(h:B:=by exact oT ⟨k+1,by omega⟩ kG (by dsimp only;rw[rS];exact⟨rfl,rfl,trivial⟩) a2 fF k1):=h
def aNb{x:Int}(h:0<=x/\x<=255)(j:Nat):0<=x/2^j/\x/2^j<256:=by have V:(0:Int)<2^j:=Int.pow_pos bH;refine⟨Xc h.1 (Int.le_of_lt V),?_⟩;have:=Xb (2^j) h.1;omega
def aND{r x z:Int}(eC:0<=z/\z<=7):W4 r x (7-(z-1)).toNat=Tg (W4 r x (7-z).toNat) (a38 x z.toNat):=by
 have e:(7-(z-1)).toNat=(7-z).toNat+1:=by omega
 have eY:7-(7-z).toNat=z.toNat:=by omega
 rw[e,W4,eY]
def aRi{x z:Int}(eC:0<=z/\z<=7):x.fdiv (2^(min z.toNat IntKind.u8.bits))=x/2^z.toNat:=by obtain⟨j,rfl⟩:∃j:Nat,z=(j:Int):=⟨z.toNat,by omega⟩;exact b3L D
def b9F(l:a0 Int)(L:aP)(R:aJ)(hl:aH (hA l) R)(hb:n2 l.l):
 aI prog 116 [l.val].toArray L R (λv E G=>v=.int .i64 (uZ l.l)/\L=E/\R=G):=by
 refine nN call116 hl λkD=>?_;refine bW 35 call116 func116 ?_;apply cO∘mL∘g7∘D2;refine c7 [(3,.int _ _),(8,.slice _ _ _),(9,.int _ _),(10,.int _ _)] bP λeZ=>?_;refine gP ([3,5,6,7]++b4 10 24) (λg:{k:Nat//k<=l.l.length}=>[(10,.int .i64 ((g.1:Nat):Int)),(3,.int .i64 (uZ (l.l.take g.1)))]) (λg=>l.l.length-g.1) (⟨0,by omega⟩) ?_;rintro⟨k,hk⟩ bZ;try dsimp only
 apply(h2);apply(W)<;>intro aO;·
  have hg:=bJ l.l k 0;have Hw:=hb.at k;have rS:=aOM hg;obtain⟨x,K⟩:∃x,x=l.l.getD k 0:=⟨_,rfl⟩;rw[<-K]at hg Hw rS;apply j7∘aQU∘ZW∘mM;refine gP ([3,6,7]++b4 14 19) (λg:{z:Int// -1<=z/\z<=7}=>[(6,.int .i64 g.1),(3,.int .i64 (W4 (uZ (l.l.take k)) x (7-g.1).toNat))]) (λg=>(g.1+1).toNat) (⟨7,by omega⟩) ?_;rintro⟨z,eC⟩ bZ;try dsimp only
  apply(ZY);apply(W)<;>intro bF;·have hc:=a4e x (a4L (l.l.take k)) (7-z).toNat;have hd:=aNb Hw z.toNat;have cI:=aND (r:=(uZ (l.l.take k))) (x:=x) (z:=z) D;obtain⟨r,M⟩:∃r,r=W4 (uZ (l.l.take k)) x (7-z).toNat:=⟨_,rfl⟩;rw[<-M]at hc cI|-;rw[SA]at hc;apply(pR);refine aG (Ys rfl rfl bH aN7) ?_;apply(pQ);refine aG (a45 rfl rfl bH (aJ4 hc)) ?_;refine aG (Zz rfl rfl (aPO D)) ?_;apply(mL);(iterate 3 apply(b1));apply(B3);refine aG (Ys rfl rfl D (aRi D)) ?_;apply(B3);refine aG (Zz rfl rfl (aJf D)) ?_;apply(qP);exact aWh
  obtain rfl:z= -1:=by omega
  refine lC (lB (tT (lA (gV (aZ (cR ?_))))));exact(uX) aKK
 exact aZx
def aKf(l:a0 Int)(L:aP)(R:aJ)(hl:aH (hA l) R)(hb:n2 l.l):
 aI prog 161 [l.val].toArray L R (λv E G=>v=.int .i64 (uZ l.l)/\L=E/\R=G):=by
 refine nN call161 hl λkD=>?_;refine bW 37 call161 func161 ?_;apply cO∘mL∘g7∘mM;refine c7 [(0,.slice _ _ _),(3,.int _ _),(4,.int _ _)] bP λeZ=>?_;refine gP (b4 3 33) (λg:{k:Nat//k<=l.l.length}=>[(4,.int .i64 ((g.1:Nat):Int)),(3,.int .i64 (uZ (l.l.take g.1)))]) (λg=>l.l.length-g.1) (⟨0,by omega⟩) ?_;rintro⟨k,hk⟩ bZ;try dsimp only
 apply(uA);apply(W)<;>intro aO;·
  have hg:=bJ l.l k 0;have Hw:=hb.at k;have rS:=aOM hg;obtain⟨x,K⟩:∃x,x=l.l.getD k 0:=⟨_,rfl⟩;rw[<-K]at hg Hw rS;apply j7∘mM;refine gP ([3,5,6]++b4 13 23) (λg:{z:Int// -1<=z/\z<=7}=>[(5,.int .i64 g.1),(3,.int .i64 (W4 (uZ (l.l.take k)) x (7-g.1).toNat))]) (λg=>(g.1+1).toNat) (⟨7,by omega⟩) ?_;rintro⟨z,eC⟩ bZ;try dsimp only
  apply(ZY);apply(W)<;>intro bF;·have hc:=a4e x (a4L (l.l.take k)) (7-z).toNat;have hd:=aNb Hw z.toNat;have cI:=aND (r:=(uZ (l.l.take k))) (x:=x) (z:=z) D;obtain⟨r,M⟩:∃r,r=W4 (uZ (l.l.take k)) x (7-z).toNat:=⟨_,rfl⟩;rw[<-M]at hc cI|-;rw[SA]at hc;apply(pR);refine aG (Ys rfl rfl bH aN7) ?_;refine aG (Zz rfl rfl ((aJf D).trans (show r/32768%2=r/32768 by omega))) ?_;apply(pQ);refine aG (a45 rfl rfl bH (aJ4 hc)) ?_;refine aG (Zz rfl rfl (aPO D)) ?_;apply pQ∘h7∘aQU∘jI∘b1∘B3;refine aG (Ys rfl rfl D (aRi D)) ?_;refine aG (Zz rfl rfl (b9T D)) ?_;apply B3∘qP;exact aWh
  obtain rfl:z= -1:=by omega
  refine lC (lB (tT (lA (gV (aZ (cR ?_))))));exact(N7) aKK
 exact aZx
end
attribute [local irreducible] cH c6 dP aI cJ eD e9 e0 e1 e5 eS e8 J.L
def SQ(h:A->B:=by exact(aG lR ·)):=h
def aQV(h:A->B:=by exact(aG qH ·)):=h
def aMD(h:A->B:=by exact(aG a3d ·)):=h
def aLS(h:A->B:=by exact(aG R8 ·)):=h
def aJq(h:A->B:=by exact i4 (jL O (p) (⟨x.bB,x.cQ,x.cY,false,x.bV⟩) rfl rfl rfl rfl c0 bC bI bC bH aE aE)):=h
def aOd(h:A->B:=by exact i4 (jL O ((⟨p.o,(p.l.set s.toNat ⟨x.bB,x.cQ,x.cY,false,x.bV⟩)⟩:J bL)) (⟨x.bB,t,x.cY,false,x.bV⟩) rfl rfl rfl rfl c0 bC bI bC bH aE aE)):=h
def aKI(h:A->B:=by exact i4 (jL O ((⟨p.o,((p.l.set s.toNat ⟨x.bB,x.cQ,x.cY,false,x.bV⟩).set s.toNat ⟨x.bB,t,x.cY,false,x.bV⟩)⟩:J bL)) (⟨x.bB,t,0,false,x.bV⟩) rfl rfl rfl rfl c0 bC bI bC bH aE aE)):=h
def aJS(h:A->B:=by exact i4 (jL O ((⟨p.o,(((p.l.set s.toNat ⟨x.bB,x.cQ,x.cY,false,x.bV⟩).set s.toNat ⟨x.bB,t,x.cY,false,x.bV⟩).set s.toNat ⟨x.bB,t,0,false,x.bV⟩)⟩:J bL)) (⟨x.bB,t,0,false,false⟩) rfl rfl rfl rfl c0 bC bI bC bH aE aE)):=h
def aL3(f:hI)(t:Int)(L:aP)(R:aJ)(hf:k9 f R):
 aI prog 252 [f.val,.int .i64 t].toArray L R (λv E G=>v=.bool (decide (J6 f.aT.l t))/\L=E/\R=G):=by
 have jA:=hf.aF;refine J2 call252 jA λMS=>?_;refine bW 27 call252 func252 ?_;apply(c8);intro cS;apply IQ∘WE;apply cB (aC:=[_,_]) (j:=2) (a7:=8) rfl rfl aE rfl aW rfl;·exact GG
 intro mY;apply(b3);apply(W)<;>intro aO;·exact aYn
 apply(zH);refine c7 [(1,.int _ _),(2,.pointer _),(5,.int _ _)] bP λeZ=>?_;refine gP ([4,5]++b4 12 15) (λg:{k:Nat//k<=f.aT.l.length/\∀j:Nat,j<k->(f.aT.l.getD j default).cQ<=t}=>[(5,.int .i64 ((g.1:Nat):Int))]) (λg=>f.aT.l.length-g.1) (⟨0,by omega,λj aY=>by omega⟩) ?_;rintro⟨k,hk,hD⟩ bZ;try dsimp only
 apply(oJ);apply(W)<;>intro bF;·
  have hg:=bJ f.aT.l k default;apply pR∘gE∘aQV∘sW∘D1;apply(W)<;>intro b2;·exact aWi
  apply(mD);exact a8j
 exact aVp
def aQv(f:hI)(s t:Int)(L:aP)(R:aJ)(hf:k9 f R):
 aI prog 206 [f.val,.int .i64 s,.int .i64 t].toArray L R (λv E G=>v=.int .i64 (v5 f.aT.l f.aU.l f.cA s t)/\L=E/\R=G):=by
 refine bW 26 call206 func206 ?_;apply(c8);intro dG;apply g7∘SQ;refine cC rfl (Ll f _ _ hf) ?_;apply(kB);apply(W)<;>intro aO;·exact aWZ
 apply(OB);apply cB (aC:=[_,_,_,_,_]) (j:=2) (a7:=15) rfl rfl aE rfl aW rfl;·exact Jg
 intro mY;apply(b3);apply(W)<;>intro bF;·exact aWe
 apply iK∘SQ∘b1;refine cC rfl (aL3 f t _ _ hf) ?_;exact aXQ
def a9S{aF:List bL}{cG:List Int}{bT s t:Int}(h:v5 aF cG bT s t=0):i6 aF cG bT=0/\(0<=s/\s<aF.length)/\J6 aF t:=by
 rw[v5]at h;split at h;·omega
 split at h;·omega
 split at h;·exact⟨by omega,by omega,by assumption⟩
 ·omega
def aJ6(p:J bL)(qJ:Value)(bT s t:Int)(R:aJ)(iB:p.ok 5 bL.cells)(hs:0<=s/\s<p.l.length):
 aI prog 152 [.agg #[p.val,qJ,.int .i64 bT],.int .i64 s,.int .i64 t].toArray (p.L 76 bL.cells) R (λv E G=>v=.bool (p.l.getD s.toNat default).dM/\(⟨p.o,rM p.l s t⟩:J bL).ok 5 bL.cells/\(⟨p.o,rM p.l s t⟩:J bL).L 76 bL.cells=E/\R=G):=by
 have hg:=bJ p.l s.toNat default;obtain⟨x,K⟩:∃x,x=p.l.getD s.toNat default:=⟨_,rfl⟩;rw[<-K]at hg;refine bW 30 call152 func152 ?_;apply(c8);intro dG;apply QU∘gE∘aMD∘U9∘r1∘hS;refine aG iQ ?_;apply k7∘aLS∘oW;apply(W)<;>intro aO;·
  apply(OA);refine lG (p.L 76 bL.cells) R ?_;have bQ:x.dM=false:=by simpa using aO
  have N:rM p.l s t=p.l:=by rw[rM,<-K,bQ,if_neg bH]
  exact⟨by rw[<-K,bQ],by rw[N];exact iB,by rw[N],rfl⟩
 apply(x2);have bQ:x.dM=true:=by simpa using aO
 have e6:=J.p4 (f:=bL.cells) (aR:=5) (p:=p) (i:=s.toNat) (x:=⟨x.bB,x.cQ,x.cY,false,x.bV⟩) bI iB;have DA:(p.l.set s.toNat ⟨x.bB,x.cQ,x.cY,false,x.bV⟩)[s.toNat]?=some ⟨x.bB,x.cQ,x.cY,false,x.bV⟩:=tQ D;have hK:=J.p4 (f:=bL.cells) (aR:=5) (p:=⟨p.o,(p.l.set s.toNat ⟨x.bB,x.cQ,x.cY,false,x.bV⟩)⟩) (i:=s.toNat) (x:=⟨x.bB,t,x.cY,false,x.bV⟩) bI e6;have jM:((p.l.set s.toNat ⟨x.bB,x.cQ,x.cY,false,x.bV⟩).set s.toNat ⟨x.bB,t,x.cY,false,x.bV⟩)[s.toNat]?=some ⟨x.bB,t,x.cY,false,x.bV⟩:=tQ Qs;have l4:=J.p4 (f:=bL.cells) (aR:=5) (p:=⟨p.o,((p.l.set s.toNat ⟨x.bB,x.cQ,x.cY,false,x.bV⟩).set s.toNat ⟨x.bB,t,x.cY,false,x.bV⟩)⟩) (i:=s.toNat) (x:=⟨x.bB,t,0,false,x.bV⟩) bI hK;have fD:(((p.l.set s.toNat ⟨x.bB,x.cQ,x.cY,false,x.bV⟩).set s.toNat ⟨x.bB,t,x.cY,false,x.bV⟩).set s.toNat ⟨x.bB,t,0,false,x.bV⟩)[s.toNat]?=some ⟨x.bB,t,0,false,x.bV⟩:=tQ aIt;have m4:=J.p4 (f:=bL.cells) (aR:=5) (p:=⟨p.o,(((p.l.set s.toNat ⟨x.bB,x.cQ,x.cY,false,x.bV⟩).set s.toNat ⟨x.bB,t,x.cY,false,x.bV⟩).set s.toNat ⟨x.bB,t,0,false,x.bV⟩)⟩) (i:=s.toNat) (x:=⟨x.bB,t,0,false,false⟩) bI l4;apply(eK);iterate 4 apply(hS)
 apply(b1);refine aG iQ ?_;apply k7∘aJq;rintro v E G ⟨rfl,rfl⟩;refine aG iQ ?_;apply k7∘aOd;rintro v E G ⟨rfl,rfl⟩;refine aG iQ ?_;apply k7∘aKI;rintro v E G ⟨rfl,rfl⟩;refine aG iQ ?_;apply k7∘aJS;rintro v E G ⟨rfl,rfl⟩;apply lP∘v9;refine lG ((⟨p.o,(((p.l.set s.toNat ⟨x.bB,x.cQ,x.cY,false,x.bV⟩).set s.toNat ⟨x.bB,t,x.cY,false,x.bV⟩).set s.toNat ⟨x.bB,t,0,false,x.bV⟩).set s.toNat ⟨x.bB,t,0,false,false⟩⟩:J bL).L 76 bL.cells) R ?_;have N:rM p.l s t=(((p.l.set s.toNat ⟨x.bB,x.cQ,x.cY,false,x.bV⟩).set s.toNat ⟨x.bB,t,x.cY,false,x.bV⟩).set s.toNat ⟨x.bB,t,0,false,x.bV⟩).set s.toNat ⟨x.bB,t,0,false,false⟩:=by rw[rM,<-K,bQ,if_pos rfl,y6,y6,y6];rfl
 exact⟨by rw[<-K,bQ],by rw[N];exact m4,by rw[N],rfl⟩
def aJv(f:hI)(s t:Int)(L:aP)(R:aJ)(hf:k9 f R):
 aI prog 78 [f.val,.int .i64 s,.int .i64 t].toArray L R (λv E G=>∃(p:J bL) (q:J Int) (r:Int),v=.tuple #[.agg #[p.val,q.val,.int .i64 r],.int .i64 (v5 f.aT.l f.aU.l f.cA s t)]/\(p.ok 5 bL.cells/\q.ok 1 aL)/\(v5 f.aT.l f.aU.l f.cA s t=0->p.l=rM f.aT.l s t/\q.l=f.aU.l/\r=f.cA)/\q.L 3 aL++(p.L 76 bL.cells++L)=E/\R=G):=by
 refine bW 25 call78 func78 ?_;apply(c8);intro dG;apply(dA);intro hP;apply g7∘SQ∘pS;refine cC rfl (aN8 f s t _ _ hf) ?_;apply(kB);apply(W)<;>intro aO;·exact b0O
 have wF:=a9S (Decidable.not_not.1 aO);have hok:=zD wF.1;have HM:=hok.wN;have tL:=hok.yA;apply eR∘SQ;refine cK (a5D f _ _ hf D) ?_;rintro v E G ⟨p,q,rfl,⟨iB,gG⟩,eB,gB,rfl,rfl⟩;apply(dA);intro h8;apply rP∘SQ∘pS;refine cK (aI.at (.cons (.xJ .mW)) (aJ6 p q.val f.cA s t _ iB (by rw[eB];exact wF.2.1))) ?_;rintro v E G ⟨_,rfl,rfl,M2,rfl,rfl⟩;apply lP∘SQ∘pI;refine bN (q.L 3 aL++((⟨p.o,rM p.l s t⟩:J bL).L 76 bL.cells++L)) R tR ?_;exact⟨⟨p.o,rM p.l s t⟩,q,f.cA,by rw[Decidable.not_not.1 aO];simp only[J.val,b1X],⟨M2,gG⟩,λ_=>⟨by rw[eB],gB,rfl⟩,rfl,rfl⟩
def aK7(f:hI)(s t:Int)(L:aP)(R:aJ)(hf:k9 f R):
 aI prog 124 [f.val,.int .i64 s,.int .i64 t].toArray L R (λv E G=>∃(p:J bL) (q:J Int) (r:Int),v=.tuple #[.agg #[p.val,q.val,.int .i64 r],.int .i64 (v5 f.aT.l f.aU.l f.cA s t)]/\(p.ok 5 bL.cells/\q.ok 1 aL)/\(v5 f.aT.l f.aU.l f.cA s t=0->p.l=rM f.aT.l s t/\q.l=f.aU.l/\r=f.cA)/\q.L 3 aL++(p.L 76 bL.cells++L)=E/\R=G):=by
 refine bW 43 call124 func124 ?_;apply(c8);intro dG;apply(dA);intro hP;apply g7∘SQ∘pS;refine cC rfl (aQv f s t _ _ hf) ?_;apply(kB);apply(W)<;>intro aO;·exact b0O
 have wF:=a9S (Decidable.not_not.1 aO);have hok:=zD wF.1;have HM:=hok.wN;have tL:=hok.yA;apply eR∘SQ;refine cK (a5K f _ _ hf D) ?_;rintro v E G ⟨p,q,rfl,⟨iB,gG⟩,eB,gB,rfl,rfl⟩;apply(dA);intro h8;apply i3∘y1;have l5:p.l.length=f.aT.l.length:=by rw[eB]
 have aTN:=wF.2.1;have hg:=bJ p.l s.toNat default;obtain⟨x,K⟩:∃x,x=p.l.getD s.toNat default:=⟨_,rfl⟩;rw[<-K]at hg;apply eK∘gE∘aMD∘U9∘WM;refine aG iQ ?_;apply k7∘aLS∘b3;apply(W)<;>intro bF;·
  have e6:=J.p4 (f:=bL.cells) (aR:=5) (p:=p) (i:=s.toNat) (x:=⟨x.bB,x.cQ,x.cY,false,x.bV⟩) bI iB;have DA:(p.l.set s.toNat ⟨x.bB,x.cQ,x.cY,false,x.bV⟩)[s.toNat]?=some ⟨x.bB,x.cQ,x.cY,false,x.bV⟩:=tQ D;have hK:=J.p4 (f:=bL.cells) (aR:=5) (p:=⟨p.o,(p.l.set s.toNat ⟨x.bB,x.cQ,x.cY,false,x.bV⟩)⟩) (i:=s.toNat) (x:=⟨x.bB,t,x.cY,false,x.bV⟩) bI e6;have jM:((p.l.set s.toNat ⟨x.bB,x.cQ,x.cY,false,x.bV⟩).set s.toNat ⟨x.bB,t,x.cY,false,x.bV⟩)[s.toNat]?=some ⟨x.bB,t,x.cY,false,x.bV⟩:=tQ Qs;have l4:=J.p4 (f:=bL.cells) (aR:=5) (p:=⟨p.o,((p.l.set s.toNat ⟨x.bB,x.cQ,x.cY,false,x.bV⟩).set s.toNat ⟨x.bB,t,x.cY,false,x.bV⟩)⟩) (i:=s.toNat) (x:=⟨x.bB,t,0,false,x.bV⟩) bI hK;have fD:(((p.l.set s.toNat ⟨x.bB,x.cQ,x.cY,false,x.bV⟩).set s.toNat ⟨x.bB,t,x.cY,false,x.bV⟩).set s.toNat ⟨x.bB,t,0,false,x.bV⟩)[s.toNat]?=some ⟨x.bB,t,0,false,x.bV⟩:=tQ aIt;have m4:=J.p4 (f:=bL.cells) (aR:=5) (p:=⟨p.o,(((p.l.set s.toNat ⟨x.bB,x.cQ,x.cY,false,x.bV⟩).set s.toNat ⟨x.bB,t,x.cY,false,x.bV⟩).set s.toNat ⟨x.bB,t,0,false,x.bV⟩)⟩) (i:=s.toNat) (x:=⟨x.bB,t,0,false,false⟩) bI l4;apply(eK);iterate 4 apply(hS)
  apply(b1);refine aG iQ ?_;apply k7∘aJq;rintro v E G ⟨rfl,rfl⟩;refine aG iQ ?_;apply k7∘aOd;rintro v E G ⟨rfl,rfl⟩;refine aG iQ ?_;apply k7∘aKI;rintro v E G ⟨rfl,rfl⟩;refine aG iQ ?_;apply k7∘aJS;rintro v E G ⟨rfl,rfl⟩;apply lP∘SQ∘pI;refine bN (q.L 3 aL++((⟨p.o,(((p.l.set s.toNat ⟨x.bB,x.cQ,x.cY,false,x.bV⟩).set s.toNat ⟨x.bB,t,x.cY,false,x.bV⟩).set s.toNat ⟨x.bB,t,0,false,x.bV⟩).set s.toNat ⟨x.bB,t,0,false,false⟩⟩:J bL).L 76 bL.cells++L)) R tR ?_;exact⟨⟨p.o,(((p.l.set s.toNat ⟨x.bB,x.cQ,x.cY,false,x.bV⟩).set s.toNat ⟨x.bB,t,x.cY,false,x.bV⟩).set s.toNat ⟨x.bB,t,0,false,x.bV⟩).set s.toNat ⟨x.bB,t,0,false,false⟩⟩,q,f.cA,by rw[Decidable.not_not.1 aO];simp only[J.val,p6],⟨m4,gG⟩,λ_=>⟨by rw[<-eB,rM,<-K,if_pos bF];show((((p.l.set _ _).set _ _).set _ _).set _ _)=_;rw[y6,y6,y6];rfl,gB,rfl⟩,rfl,rfl⟩
 apply eR∘SQ∘pI;refine bN (q.L 3 aL++(p.L 76 bL.cells++L)) R tR ?_;exact⟨p,q,f.cA,by rw[Decidable.not_not.1 aO],⟨iB,gG⟩,λ_=>⟨by rw[<-eB,rM,<-K,if_neg (by simp only[bF];decide)],gB,rfl⟩,rfl,rfl⟩
def aPx(x:bL)(L:aP)(R:aJ):
 aI prog 104 [x.val].toArray L R (λv E G=>v=.bool (Z6 x)/\L=E/\R=G):=by
 refine bW 16 call104 func104 ?_;apply(c8);intro gK;apply QU∘fH∘MF;apply iZ (aC:=[_,_,_]) (j:=3) (a7:=6) rfl rfl aE rfl aW rfl;·exact Jh
 intro iG;apply(c9);apply iZ (aC:=[_,_,_]) (j:=8) (a7:=11) rfl rfl aE rfl aW rfl;·intro gM;replace gM:=a8 gM;exact(fH) LQ
 intro wJ;apply(v9);refine lG L R ?_;exact⟨by rw[Z6];try simp[Bool.and_assoc],rfl,rfl⟩
def Ew(aF:List bL)(cG:List Int)(bT:Int):Int:=if i6 aF cG bT≠0 then 0 else QY aF bT
def Li(aF:List bL)(bT:Int)(k:Nat):Int:=(aF.take k).foldl (Kp bT) 1099511627776
def aKc{aF:List bL}{bT:Int}{k:Nat}{x:bL}(h:aF[k]?=some x):Li aF bT (k+1)=Kp bT (Li aF bT k) x:=by rw[Li,PM,h];simp[Li]
def b5w(f:hI)(L:aP)(R:aJ)(hf:k9 f R):
 aI prog 38 [f.val].toArray L R (λv E G=>v=.int .i64 (Ew f.aT.l f.aU.l f.cA)/\L=E/\R=G):=by
 have jA:=hf.aF;refine bW 27 call38 func38 ?_;apply(c8);intro gK;apply g7∘SQ;refine cC rfl (Fq f _ _ hf) ?_;apply(qP);apply(W)<;>intro aO;·exact aW0
 have hok:=zD (Decidable.not_not.1 aO);have HM:=hok.wN;have Hq:=hok.bT;apply eR∘g7∘r9;refine c7 [(1,.pointer _),(3,.int _ _),(10,.slice _ _ _),(11,.int _ _),(12,.int _ _)] bP λeZ=>?_;refine gP ([3,5]++b4 12 14) (λg:{k:Nat//k<=f.aT.l.length}=>[(12,.int .i64 ((g.1:Nat):Int)),(3,.int .i64 (Li f.aT.l f.cA g.1))]) (λg=>f.aT.l.length-g.1) (⟨0,by omega⟩) ?_;rintro⟨k,hk⟩ bZ;try dsimp only
 apply(h2);apply(W)<;>intro bF;·
  have hg:=bJ f.aT.l k default;have UR:=hok.cQ k D;have pB:=aKc (bT:=f.cA) hg;obtain⟨x,K⟩:∃x,x=f.aT.l.getD k default:=⟨_,rfl⟩;rw[<-K]at hg UR pB;apply j7∘aQV∘WJ;intro eH;apply(rP);refine aG E0 ?_;refine cC rfl (aPx x _ _) ?_;apply(b3);apply(W)<;>intro b2;·apply p8∘kJ∘l8;refine aG NR ?_;apply dE∘wB;exact oT ⟨k+1,by omega⟩ kG (by dsimp only;rw[pB,Kp,if_pos b2];exact⟨rfl,rfl,trivial⟩) a2 fF k1
  apply(n6);exact oT ⟨k+1,by omega⟩ kG (by dsimp only;rw[pB,Kp,if_neg (by simp only[b2];decide)];exact⟨rfl,rfl,trivial⟩) a2 fF k1
 exact b0R
def TR(h:A->B:=by exact(aG lR ·)):=h
def Yw(h:A->B:=by exact(aG Ra ·)):=h
def Yp(h:A->B:=by exact(a4 (qK O ((⟨p.o,aF⟩:J bL)) rfl rfl rfl c0 bC bI bC aE) ·)):=h
def aNk(h:B:=by exact⟨.nil,.nil,0,.nil,.nil,by rw[X];rfl,⟨J.g6,J.g6,J.g6,J.g6⟩,λh=>by omega,by rw[lT,lT];rfl,rfl⟩):=h
def a5M(h:A->B:=by exact(a4 b0w ·)):=h
def aBO(h:B:=by exact⟨.nil,.nil,0,by rw[X];rfl,⟨J.g6,J.g6⟩,λh=>by omega,by rw[lT,lT];rfl,rfl⟩):=h
def aLO(h:A->B:=by exact(eO (h4 O ((⟨p.o,p.l.set s.toNat ⟨x.bB,x.cQ,t,x.dM,x.bV⟩⟩:J bL)) _ rfl rfl ((show _=Value.slice _ _ _ from rfl).trans (by simp only[J.val,p6])) rfl bC (i:=s.toNat) cW iC) ·)):=h
def b9K(h:A->B:=by exact GO (jL O ((⟨p.o,p.l.set s.toNat ⟨x.bB,x.cQ,t,x.dM,x.bV⟩⟩:J bL)) (⟨x.bB,x.cQ,t,x.dM,lt⟩) rfl rfl rfl rfl c0 bC bI bC bH aE aE) rfl rfl):=h
def b5m(h:B:=by exact⟨⟨p.o,(p.l.set s.toNat ⟨x.bB,x.cQ,t,x.dM,x.bV⟩).set s.toNat ⟨x.bB,x.cQ,t,x.dM,lt⟩⟩,q,f.cA,by simp only[X,J.val,p6],⟨M2,gG⟩,λ_=>⟨by rw[LZ,<-K,<-eB,<-jH,y6],gB,rfl⟩,rfl,rfl⟩):=h
def aQd(h:A->B:=by exact(aG (h4 O ((⟨p.o,aF⟩:J bL)) _ rfl rfl ((show _=Value.slice _ _ _ from rfl).trans (by simp only[J.val,oA,l5])) rfl bC (i:=z.toNat) cW iC) ·)):=h
def aMS(h:A->B:=by exact gJ O [0,1,2,3,4,5,6,7,8,9,10,11,12,13,14,15] _ cX bE g3):=h
def aKQ(h:A->B:=by exact i4 (jL O ((⟨p.o,aF⟩:J bL)) (⟨x.bB,x.cQ,x.cY,x.dM,true⟩) rfl rfl rfl rfl c0 bC bI bC bH aE aE)):=h
def aLx(h:A->B:=by exact gO (j2 (f:=aL) (p:=BX) (a:=z) O rfl rfl rfl rfl (UH) c0 j8 rfl kH) rfl):=h
def aPn(h:A->B:=by exact(eO b0w ·)):=h
def aNj(h:A->B:=by exact gO (j2 (f:=aL) (p:=op) (a:=x.bB) O rfl rfl rfl rfl (n9) c0 j8 rfl kH) rfl):=h
def b6T(h:B:=by exact⟨(⟨p.o,aF⟩:J bL),q,f.cA,BX,op,by rw[X];simp only[J.val,oA,l5],⟨Hf,gG,UH,n9⟩,λ_=>⟨by rw[aEz],gB,rfl,by rw[aEz],by rw[aEz]⟩,rfl,rfl⟩):=h
def aMe(h:A->B:=by exact(a4 (h4 O ((⟨p.o,(aF.set z.toNat ⟨x.bB,x.cQ,x.cY,x.dM,true⟩)⟩:J bL)) _ rfl rfl ((show _=Value.slice _ _ _ from rfl).trans (by simp only[J.val,Az,l5])) rfl bC (i:=x.bB.toNat) cW iC) ·)):=h
def b7h(f:hI)(s t:Int)(L:aP)(R:aJ)(hf:k9 f R):
 aI prog 153 [f.val,.int .i64 s,.int .i64 t].toArray L R (λv E G=>∃(p:J bL) (q:J Int) (r:Int),v=.tuple #[.agg #[p.val,q.val,.int .i64 r],.int .i64 (sT f.aT.l f.aU.l f.cA s t)]/\(p.ok 5 bL.cells/\q.ok 1 aL)/\
  (sT f.aT.l f.aU.l f.cA s t=0->p.l=LZ f.aT.l s t/\q.l=f.aU.l/\r=f.cA)/\q.L 3 aL++(p.L 76 bL.cells++L)=E/\R=G):=by
 have jA:=hf.aF;refine bW 57 call153 func153 ?_;apply(c8);intro dG;apply(dA);intro hP;apply g7∘TR;refine cC rfl (Fq f _ _ hf) ?_;apply(kB);apply(W)<;>intro aO;·
  apply cO∘Yw∘tZ;refine bN L R tR ?_;have X:sT f.aT.l f.aU.l f.cA s t=i6 f.aT.l f.aU.l f.cA:=by rw[sT,if_pos aO]
  exact aBO
 apply(OB);apply cB (aC:=[_,_,_,_,_]) (j:=2) (a7:=18) rfl rfl aE rfl aW rfl;·exact Jg
 intro mY;apply(b3);apply(W)<;>intro bF;·
  apply cO∘Yw∘q4;refine bN L R tR ?_;have X:sT f.aT.l f.aU.l f.cA s t=16:=by rw[sT,if_neg D,if_pos D]
  exact aBO
 apply iK∘b1∘rO;apply iZ (aC:=[_,_]) (j:=2) (a7:=28) rfl rfl aE rfl aW rfl;·intro fD;replace fD:=a8 fD;exact(b1) HW
 intro mY;apply(b3);apply(W)<;>intro b2;·
  apply cO∘Yw∘q4;refine bN L R tR ?_;have X:sT f.aT.l f.aU.l f.cA s t=10:=by rw[sT,if_neg D,if_neg D,if_pos D]
  exact aBO
 have X:sT f.aT.l f.aU.l f.cA s t=0:=by rw[sT,if_neg D,if_neg D,if_neg D]
 have hok:=zD (aF:=f.aT.l) (cG:=f.aU.l) (bT:=f.cA) D;have HM:=hok.wN;have tL:=hok.yA;have hg:=bJ f.aT.l s.toNat default;obtain⟨x,K⟩:∃x,x=f.aT.l.getD s.toNat default:=⟨_,rfl⟩;rw[<-K]at hg;apply eR∘TR;refine cK (a5D f _ _ hf D) ?_;rintro v E G ⟨p,q,rfl,⟨iB,gG⟩,eB,gB,rfl,rfl⟩;apply(dA);intro h8;apply(G5);have BT:p.l[s.toNat]?=some x:=by rw[eB];exact hg
 have l5:p.l.length=f.aT.l.length:=by rw[eB]
 apply eK∘gE∘b1;refine aG a3d ?_;apply(k7);refine i4 b0Z ?_;rintro v E G ⟨rfl,rfl⟩;apply(jW);have X0:=J.p4 (f:=bL.cells) (aR:=5) (p:=p) (i:=s.toNat) (x:=⟨x.bB,x.cQ,t,x.dM,x.bV⟩) bI iB;have bEh:(p.l.set s.toNat ⟨x.bB,x.cQ,t,x.dM,x.bV⟩)[s.toNat]?=some ⟨x.bB,x.cQ,t,x.dM,x.bV⟩:=tQ D;refine hF O [] [0,1,2,3,4,5,6,7,8,9,10,11,12,13,14] [15] (_) _ cX bE a2 dT ?_;apply CN∘CN∘aLO∘EM;refine eO (qK O ((⟨p.o,p.l.set s.toNat ⟨x.bB,x.cQ,t,x.dM,x.bV⟩⟩:J bL)) rfl rfl rfl c0 bC bI bC aE) ?_;refine eO (A2 aW) ?_;refine aPJ (k:=50) aW (λgM=>?_) (λgM=>?_);·
  replace gM:=a8 gM;let lt:Bool:=decide (¬t= -1);have jH:lt=(if t= -1 then false else x.bV):=by simp only[lt,gM];split<;>simp_all
  have M2:=J.p4 (f:=bL.cells) (aR:=5) (p:=⟨p.o,p.l.set s.toNat ⟨x.bB,x.cQ,t,x.dM,x.bV⟩⟩) (i:=s.toNat) (x:=⟨x.bB,x.cQ,t,x.dM,lt⟩) bI X0;apply(wM);refine eO LR ?_;exact b09
 replace gM:=a8 gM;let lt:Bool:=false;have jH:lt=(if t= -1 then false else x.bV):=by simp only[lt,gM];split<;>rfl
 have M2:=J.p4 (f:=bL.cells) (aR:=5) (p:=⟨p.o,p.l.set s.toNat ⟨x.bB,x.cQ,t,x.dM,x.bV⟩⟩) (i:=s.toNat) (x:=⟨x.bB,x.cQ,t,x.dM,lt⟩) bI X0;refine aBu rfl rfl rfl ?_;refine aBu rfl rfl rfl ?_;exact b09
def IX(aF:List bL)(cG:List Int)(bT t:Int):Int:=if i6 aF cG bT≠0 then i6 aF cG bT else if J6 aF t then 0 else 8
def aMc{aF:List bL}{bT t z:Int}{y:Lb}(eC:0<=z/\z<aF.length)(h:L7 aF bT t (aF.length-1-z).toNat=y):L7 aF bT t (aF.length-1-(z-1)).toNat=Z5 bT t y z.toNat:=by
 have e:((aF.length:Int)-1-(z-1)).toNat=((aF.length:Int)-1-z).toNat+1:=by omega
 have eY:aF.length-1-((aF.length:Int)-1-z).toNat=z.toNat:=by omega
 rw[e,L7,h,eY]
def aPp{aF tP:List bL}{cG:List Int}{bT t:Int}(h:i6 aF cG bT=0)(k:vE aF tP t){i:Nat}(aA:i<aF.length):-1<=(tP.getD i default).bB/\(tP.getD i default).bB<i:=by rw[(k.kW i aA).1];exact(zD h).up i aA
def b6J{aF:List bL}{a t:Int}{i:Nat}(h:a.toNat≠i):(rM aF a t)[i]?=aF[i]?:=by
 rw[rM];split;·rw[JR h]
 ·rfl
def b84(f:hI)(t:Int)(L:aP)(R:aJ)(hf:k9 f R):
 aI prog 158 [f.val,.int .i64 t].toArray L R (λv E G=>∃(p:J bL) (q:J Int) (r:Int) (BX op:J Int),v=.tuple #[.agg #[p.val,q.val,.int .i64 r],BX.val,op.val,.int .i64 (IX f.aT.l f.aU.l f.cA t)]/\(p.ok 5 bL.cells/\q.ok 1 aL/\BX.ok 1 aL/\op.ok 1 aL)/\(IX f.aT.l f.aU.l f.cA t=0->p.l=(oL f.aT.l f.cA t).aF/\q.l=f.aU.l/\r=f.cA/\BX.l=(oL f.aT.l f.cA t).bV/\op.l=(oL f.aT.l f.cA t).U3)/\op.L 3 aL++(BX.L 3 aL++(q.L 3 aL++(p.L 76 bL.cells++L)))=E/\R=G):=by
 refine bW 86 call158 func158 ?_;apply(c8);intro cS;apply(dA);intro cT;apply yG∘g7∘TR;refine cC rfl (Fq f _ _ hf) ?_;apply(kB);apply(W)<;>intro aO;·exact aZ7
 apply iK∘TR∘b1;refine cC rfl (aJp f t _ _ hf) ?_;apply(oW);apply(W)<;>intro bF;·exact b0J
 have iJ:i6 f.aT.l f.aU.l f.cA=0:=by omega
 have rX:J6 f.aT.l t:=by simpa using bF
 have X:IX f.aT.l f.aU.l f.cA t=0:=by rw[IX,if_neg aO,if_pos rX]
 have hok:=zD iJ;have HM:=hok.wN;have tL:=hok.yA;have Hq:=hok.bT;apply eR∘TR;refine cK (a5D f _ _ hf D) ?_;rintro v E G ⟨p,q,rfl,⟨iB,gG⟩,eB,gB,rfl,rfl⟩;apply(dA);intro h8;apply rP∘yG∘y1;have l5:p.l.length=f.aT.l.length:=by rw[eB]
 apply eK∘lM∘kP∘mM;refine c7 [(1,.int _ _),(2,.pointer _),(4,.pointer _),(9,.pointer _),(10,.slice _ _ _),(11,.slice _ _ _),(12,.int _ _)] bP λeZ=>?_;refine mC ([10,11,12,13]++b4 31 52) ((⟨λg=>[(12,.int .i64 g.1.1),(10,g.1.2.1.1.val),(11,g.1.2.1.2.val)],λg=>g.1.2.1.2.L 3 aL++(g.1.2.1.1.L 3 aL++(⟨h8,[p.val,q.val,.int .i64 f.cA],42⟩::(q.L 3 aL++((⟨p.o,g.1.2.2⟩:J bL).L 76 bL.cells++(⟨cT,[.slice none 0 0,.slice none 0 0,.int .i64 0],42⟩::⟨cS,f.cells,42⟩::L))))),λ_=>R,λg=>(g.1.1+1).toNat⟩:dV {g:Int×(J Int×J Int)×List bL//(-1<=g.1/\g.1<f.aT.l.length)/\L7 f.aT.l f.cA t (f.aT.l.length-1-g.1).toNat=⟨g.2.2,g.2.1.1.l,g.2.1.2.l⟩/\(g.2.1.1.ok 1 aL/\g.2.1.2.ok 1 aL)})) (⟨((p.l.length:Int)-1,(J.nil,J.nil),p.l),by dsimp only;omega,by dsimp only;rw[show((f.aT.l.length:Int)-1-((p.l.length:Int)-1)).toNat=0 by omega,L7,eB],J.g6,J.g6⟩) bP (by simp only[lT,m0];exact a2) fF ?_;rintro⟨⟨z,⟨BX,op⟩,aF⟩,eC,dN,UH,n9⟩ bZ;try dsimp only
 dsimp only at eC dN UH n9;have UF:vE f.aT.l aF t:=by have:=Rz (bT:=f.cA) (t:=t) iJ (f.aT.l.length-1-z).toNat D;rw[dN]at this;exact this
 have oA:=UF.len;have Pb:=a0v (aF:=f.aT.l) (bT:=f.cA) (t:=t) (f.aT.l.length-1-z).toNat;rw[dN]at Pb;dsimp only at Pb;have Hf:(⟨p.o,aF⟩:J bL).ok 5 bL.cells:=J.oZ bI iB (oA.trans l5.symm);apply(ZY);apply(W)<;>intro b2;·
  have pY:=aMc (bT:=f.cA) (t:=t) (z:=z) D dN;have hg:=bJ aF z.toNat default;have Nj:=aPp iJ UF (i:=z.toNat) D;have UR:=UF.kW z.toNat D;have bEM:=hok.cQ z.toNat D;have bEW:=rX.1;rw[Z5]at pY;dsimp only at pY;obtain⟨x,K⟩:∃x,x=aF.getD z.toNat default:=⟨_,rfl⟩;rw[<-K]at hg Nj UR pY;rw[show Su x=⟨x.bB,x.cQ,x.cY,x.dM,true⟩from rfl]at pY;have bEN:=UR.2.1;apply CK∘aQd∘U9∘y1∘aMS∘S0;refine a4 (a30 (row:=[_,_,_,_,_]) O ((⟨p.o,aF⟩:J bL)) rfl rfl rfl c0 bC bI bC aE aE) ?_;refine k6 rfl (aPx x _ _) ?_;refine a4 (PX rfl) ?_;apply(tN);refine l0 (k:=44) aW (λgW=>?_) (λgW=>?_);·replace gW:=a8 gW;(iterate 9 apply(kQ));apply(m2);refine wR rfl ?_;exact aZH
  replace gW:=a8 gW;apply g1∘IR∘Yp∘yZ∘iI;refine a4 HY ?_;apply(m2);apply(W)<;>intro dZ;·exact aZH
  rw[if_pos ⟨by simpa using gW,by omega⟩]at pY;apply eR∘hS;refine aG iQ ?_;apply k7∘aKQ;rintro v E G ⟨rfl,rfl⟩;apply(jW);have e6:(⟨p.o,(aF.set z.toNat ⟨x.bB,x.cQ,x.cY,x.dM,true⟩)⟩:J bL).ok 5 bL.cells:=J.p4 (f:=bL.cells) (aR:=5) (p:=(⟨p.o,aF⟩:J bL)) (i:=z.toNat) (x:=⟨x.bB,x.cQ,x.cY,x.dM,true⟩) bI Hf;have DA:(aF.set z.toNat ⟨x.bB,x.cQ,x.cY,x.dM,true⟩)[z.toNat]?=some ⟨x.bB,x.cQ,x.cY,x.dM,true⟩:=tQ D;have Az:(aF.set z.toNat ⟨x.bB,x.cQ,x.cY,x.dM,true⟩).length=f.aT.l.length:=by rw[p6];exact oA
  obtain⟨e2,uI⟩:∃e2,e2=if 0<=x.bB then rM (aF.set z.toNat ⟨x.bB,x.cQ,x.cY,x.dM,true⟩) x.bB t else(aF.set z.toNat ⟨x.bB,x.cQ,x.cY,x.dM,true⟩):=⟨_,rfl⟩;apply yH∘zU;rintro v E G ⟨xM,rfl,rfl,My⟩;replace My:=My.symm;subst My;apply(aLx);rintro v E G ⟨aUE,rfl,aTv,rfl,rfl⟩;apply(FG);refine hF O [] [0,1,2,3,4,5,6,7,8,9,10,11] [12,13] (_) _ cX bE a2 dT ?_;apply(DK);refine eO iQ ?_;apply EM∘aPn;refine eO JU ?_;refine eO (A2 aW) ?_;refine aPJ (k:=67) aW (λgW=>?_) (λgW=>?_);·
   replace gW:=a8 gW;(have Tv:rM (aF.set z.toNat ⟨x.bB,x.cQ,x.cY,x.dM,true⟩) x.bB t=e2:=by rw[uI,if_pos gW]);have RH:=aJ6 (⟨p.o,(aF.set z.toNat ⟨x.bB,x.cQ,x.cY,x.dM,true⟩)⟩:J bL) q.val f.cA x.bB t R e6 k1;(have X1:(⟨p.o,(aF.set z.toNat ⟨x.bB,x.cQ,x.cY,x.dM,true⟩)⟩:J bL).val=p.val:=by simp only[J.val,Az,l5]);rw[X1]at RH;dsimp only at RH;rw[Tv]at RH;refine eO lR ?_;apply(DK);refine eO iQ ?_;apply EM∘aPn∘wM∘x1;refine q1 rfl (aI.at (by repeat(first|apply J4.mW|apply J4.cons|apply J4.xJ)) RH) rfl rfl ?_;rintro v E G ⟨_,rfl,rfl,hK,rfl,rfl⟩;refine⟨a2,gN,?_⟩;apply(m2);apply(W)<;>intro dX;·(have jM:e2[z.toNat]?=some ⟨x.bB,x.cQ,x.cY,x.dM,true⟩:=by rw[<-Tv,b6J D];exact DA);apply wC∘hS;refine aG iQ ?_;apply(k7);refine aG (qK O ((⟨p.o,e2⟩:J bL)) rfl rfl rfl c0 bC bI bC aE) ?_;apply(zU);rintro v E G ⟨bAn,rfl,rfl,Nc⟩;replace Nc:=Nc.symm;subst Nc;apply(aNj);rintro v E G ⟨aHi,rfl,aFM,rfl,rfl⟩;apply jS∘ZZ;exact dU ⟨(z-1,(⟨aUE,BX.l++[z]⟩,⟨aHi,op.l++[x.bB]⟩),e2),by dsimp only;omega,by dsimp only;rw[pY,if_pos ⟨gW,dX⟩,<-Tv,VF D],aTv,aFM⟩
   exact aV0
  replace gW:=a8 gW;have Tv:(aF.set z.toNat ⟨x.bB,x.cQ,x.cY,x.dM,true⟩)=e2:=by rw[uI,if_neg gW]
  have hK:(⟨p.o,e2⟩:J bL).ok 5 bL.cells:=by rw[<-Tv];exact e6
  rw[Tv];iterate 6 refine aBu rfl rfl rfl ?_
  apply x1∘kQ∘m2;refine QK rfl ?_;exact aV0
 exact aYs
def b3Z(f:hI)(t:Int)(L:aP)(R:aJ)(hf:k9 f R):
 aI prog 267 [f.val,.int .i64 t].toArray L R (λv E G=>∃(p:J bL) (q:J Int) (r:Int) (BX op:J Int),v=.tuple #[.agg #[p.val,q.val,.int .i64 r],BX.val,op.val,.int .i64 (IX f.aT.l f.aU.l f.cA t)]/\(p.ok 5 bL.cells/\q.ok 1 aL/\BX.ok 1 aL/\op.ok 1 aL)/\(IX f.aT.l f.aU.l f.cA t=0->p.l=(oL f.aT.l f.cA t).aF/\q.l=f.aU.l/\r=f.cA/\BX.l=(oL f.aT.l f.cA t).bV/\op.l=(oL f.aT.l f.cA t).U3)/\op.L 3 aL++(BX.L 3 aL++(q.L 3 aL++(p.L 76 bL.cells++L)))=E/\R=G):=by
 refine bW 121 call267 func267 ?_;apply(c8);intro cS;apply(dA);intro cT;apply yG∘g7∘TR;refine cC rfl (Ll f _ _ hf) ?_;apply(kB);apply(W)<;>intro aO;·exact aZ7
 apply iK∘TR∘b1;refine cC rfl (aL3 f t _ _ hf) ?_;apply(oW);apply(W)<;>intro bF;·exact b0J
 have iJ:i6 f.aT.l f.aU.l f.cA=0:=by omega
 have rX:J6 f.aT.l t:=by simpa using bF
 have X:IX f.aT.l f.aU.l f.cA t=0:=by rw[IX,if_neg aO,if_pos rX]
 have hok:=zD iJ;have HM:=hok.wN;have tL:=hok.yA;have Hq:=hok.bT;apply eR∘TR;refine cK (a5K f _ _ hf D) ?_;rintro v E G ⟨p,q,rfl,⟨iB,gG⟩,eB,gB,rfl,rfl⟩;apply(dA);intro h8;apply rP∘yG∘y1;have l5:p.l.length=f.aT.l.length:=by rw[eB]
 apply eK∘lM∘kP∘mM;refine c7 [(1,.int _ _),(4,.pointer _),(9,.pointer _),(10,.slice _ _ _),(11,.slice _ _ _),(12,.int _ _)] bP λeZ=>?_;refine mC ([10,11,12,13,14]++b4 32 86) ((⟨λg=>[(12,.int .i64 g.1.1),(10,g.1.2.1.1.val),(11,g.1.2.1.2.val)],λg=>g.1.2.1.2.L 3 aL++(g.1.2.1.1.L 3 aL++(⟨h8,[p.val,q.val,.int .i64 f.cA],42⟩::(q.L 3 aL++((⟨p.o,g.1.2.2⟩:J bL).L 76 bL.cells++(⟨cT,[.slice none 0 0,.slice none 0 0,.int .i64 0],42⟩::⟨cS,f.cells,42⟩::L))))),λ_=>R,λg=>(g.1.1+1).toNat⟩:dV {g:Int×(J Int×J Int)×List bL//(-1<=g.1/\g.1<f.aT.l.length)/\L7 f.aT.l f.cA t (f.aT.l.length-1-g.1).toNat=⟨g.2.2,g.2.1.1.l,g.2.1.2.l⟩/\(g.2.1.1.ok 1 aL/\g.2.1.2.ok 1 aL)})) (⟨((p.l.length:Int)-1,(J.nil,J.nil),p.l),by dsimp only;omega,by dsimp only;rw[show((f.aT.l.length:Int)-1-((p.l.length:Int)-1)).toNat=0 by omega,L7,eB],J.g6,J.g6⟩) bP (by simp only[lT,m0];exact a2) fF ?_;rintro⟨⟨z,⟨BX,op⟩,aF⟩,eC,dN,UH,n9⟩ bZ;try dsimp only
 dsimp only at eC dN UH n9;have UF:vE f.aT.l aF t:=by have:=Rz (bT:=f.cA) (t:=t) iJ (f.aT.l.length-1-z).toNat D;rw[dN]at this;exact this
 have oA:=UF.len;have Pb:=a0v (aF:=f.aT.l) (bT:=f.cA) (t:=t) (f.aT.l.length-1-z).toNat;rw[dN]at Pb;dsimp only at Pb;have Hf:(⟨p.o,aF⟩:J bL).ok 5 bL.cells:=J.oZ bI iB (oA.trans l5.symm);apply(ZY);apply(W)<;>intro b2;·
  have pY:=aMc (bT:=f.cA) (t:=t) (z:=z) D dN;have hg:=bJ aF z.toNat default;have Nj:=aPp iJ UF (i:=z.toNat) D;have UR:=UF.kW z.toNat D;have bEM:=hok.cQ z.toNat D;have bEW:=rX.1;rw[Z5]at pY;dsimp only at pY;obtain⟨x,K⟩:∃x,x=aF.getD z.toNat default:=⟨_,rfl⟩;rw[<-K]at hg Nj UR pY;rw[show Su x=⟨x.bB,x.cQ,x.cY,x.dM,true⟩from rfl]at pY;have bEN:=UR.2.1;have Bt:Z6 x=true↔(x.dM=false/\x.cY≠-1/\x.bV=false):=by rw[Z6];simp[and_assoc]
  apply CK∘aQd∘U9∘y1;refine gJ O [0,1,2,3,4,5,6,7,8,9,10,11,12,13,14,15,16,17,18,19,20,21,22,23,24,25,26,27] _ cX bE g3 ?_;apply IR∘Yp∘tN;refine l0 (k:=44) aW (λeN=>?_) (λeN=>?_);·replace eN:=a8 eN;(iterate 5 apply(kQ));apply(mU);(iterate 4 apply(kQ));exact(mU) aIr
  replace eN:=a8 eN;apply IR∘Yp;refine a4 B7 ?_;apply(mU);refine l0 (k:=51) aW (λqS=>?_) (λqS=>?_);·replace qS:=a8 qS;(iterate 4 apply(kQ));exact(mU) aIr
  replace qS:=a8 qS;apply IR∘Yp∘mU;refine l0 (k:=57) aW (λAO=>?_) (λAO=>?_);·replace AO:=a8 AO;exact aIr
  replace AO:=a8 AO;apply g1∘IR∘Yp∘yZ∘iI;refine a4 HY ?_;apply(m2);apply(W)<;>intro dZ;·exact b01
  rw[if_pos ⟨Bt.2 ⟨by simpa using eN,by simpa using qS,by simpa using AO⟩,by omega⟩]at pY;apply eR∘hS;refine aG iQ ?_;apply k7∘aKQ;rintro v E G ⟨rfl,rfl⟩;apply(jW);have e6:(⟨p.o,(aF.set z.toNat ⟨x.bB,x.cQ,x.cY,x.dM,true⟩)⟩:J bL).ok 5 bL.cells:=J.p4 (f:=bL.cells) (aR:=5) (p:=(⟨p.o,aF⟩:J bL)) (i:=z.toNat) (x:=⟨x.bB,x.cQ,x.cY,x.dM,true⟩) bI Hf;have DA:(aF.set z.toNat ⟨x.bB,x.cQ,x.cY,x.dM,true⟩)[z.toNat]?=some ⟨x.bB,x.cQ,x.cY,x.dM,true⟩:=tQ D;have Az:(aF.set z.toNat ⟨x.bB,x.cQ,x.cY,x.dM,true⟩).length=f.aT.l.length:=by rw[p6];exact oA
  apply yH∘zU;rintro v E G ⟨bAm,rfl,rfl,Na⟩;replace Na:=Na.symm;subst Na;apply(aLx);rintro v E G ⟨aHd,rfl,a7f,rfl,rfl⟩;apply FG∘aMS∘IR∘a5M;refine a4 JU ?_;apply(tN);refine l0 (k:=80) aW (λgW=>?_) (λgW=>?_);·
   replace gW:=a8 gW;have a1w:=bJ (aF.set z.toNat ⟨x.bB,x.cQ,x.cY,x.dM,true⟩) x.bB.toNat default;obtain⟨y,aN⟩:∃y,y=(aF.set z.toNat ⟨x.bB,x.cQ,x.cY,x.dM,true⟩).getD x.bB.toNat default:=⟨_,rfl⟩;rw[<-aN]at a1w;apply iI∘IR∘a5M∘aMe∘Il∘a5M∘m2;apply(W)<;>intro dX;·
    refine a6 ?_;refine gJ O [0,1,2,3,4,5,6,7] _ cX bE g3 ?_;apply iI∘IR∘a5M∘aMe;refine a4 (GN VH) ?_;apply(F7);(have iO:x.bB.toNat≠z.toNat:=by omega);(have XV:x.bB.toNat<(aF.set z.toNat ⟨x.bB,x.cQ,x.cY,x.dM,true⟩).length:=by omega);have hK:=J.p4 (f:=bL.cells) (aR:=5) (p:=(⟨p.o,(aF.set z.toNat ⟨x.bB,x.cQ,x.cY,x.dM,true⟩)⟩:J bL)) (i:=x.bB.toNat) (x:=⟨y.bB,y.cQ,y.cY,false,y.bV⟩) bI e6;have jM:((aF.set z.toNat ⟨x.bB,x.cQ,x.cY,x.dM,true⟩).set x.bB.toNat ⟨y.bB,y.cQ,y.cY,false,y.bV⟩)[x.bB.toNat]?=some ⟨y.bB,y.cQ,y.cY,false,y.bV⟩:=tQ XV;have l4:=J.p4 (f:=bL.cells) (aR:=5) (p:=⟨p.o,((aF.set z.toNat ⟨x.bB,x.cQ,x.cY,x.dM,true⟩).set x.bB.toNat ⟨y.bB,y.cQ,y.cY,false,y.bV⟩)⟩) (i:=x.bB.toNat) (x:=⟨y.bB,t,y.cY,false,y.bV⟩) bI hK;have fD:(((aF.set z.toNat ⟨x.bB,x.cQ,x.cY,x.dM,true⟩).set x.bB.toNat ⟨y.bB,y.cQ,y.cY,false,y.bV⟩).set x.bB.toNat ⟨y.bB,t,y.cY,false,y.bV⟩)[x.bB.toNat]?=some ⟨y.bB,t,y.cY,false,y.bV⟩:=tQ (by rw[p6];exact XV);have m4:=J.p4 (f:=bL.cells) (aR:=5) (p:=⟨p.o,(((aF.set z.toNat ⟨x.bB,x.cQ,x.cY,x.dM,true⟩).set x.bB.toNat ⟨y.bB,y.cQ,y.cY,false,y.bV⟩).set x.bB.toNat ⟨y.bB,t,y.cY,false,y.bV⟩)⟩) (i:=x.bB.toNat) (x:=⟨y.bB,t,0,false,y.bV⟩) bI l4;have bJv:((((aF.set z.toNat ⟨x.bB,x.cQ,x.cY,x.dM,true⟩).set x.bB.toNat ⟨y.bB,y.cQ,y.cY,false,y.bV⟩).set x.bB.toNat ⟨y.bB,t,y.cY,false,y.bV⟩).set x.bB.toNat ⟨y.bB,t,0,false,y.bV⟩)[x.bB.toNat]?=some ⟨y.bB,t,0,false,y.bV⟩:=tQ (by rw[p6,p6];exact XV);have uJ:=J.p4 (f:=bL.cells) (aR:=5) (p:=⟨p.o,((((aF.set z.toNat ⟨x.bB,x.cQ,x.cY,x.dM,true⟩).set x.bB.toNat ⟨y.bB,y.cQ,y.cY,false,y.bV⟩).set x.bB.toNat ⟨y.bB,t,y.cY,false,y.bV⟩).set x.bB.toNat ⟨y.bB,t,0,false,y.bV⟩)⟩) (i:=x.bB.toNat) (x:=⟨y.bB,t,0,false,false⟩) bI m4;(have bJw:(((((aF.set z.toNat ⟨x.bB,x.cQ,x.cY,x.dM,true⟩).set x.bB.toNat ⟨y.bB,y.cQ,y.cY,false,y.bV⟩).set x.bB.toNat ⟨y.bB,t,y.cY,false,y.bV⟩).set x.bB.toNat ⟨y.bB,t,0,false,y.bV⟩).set x.bB.toNat ⟨y.bB,t,0,false,false⟩)[z.toNat]?=some ⟨x.bB,x.cQ,x.cY,x.dM,true⟩:=by rw[JR iO,JR iO,JR iO,JR iO];exact DA);apply(eK);(iterate 4 apply(hS));apply(b1);refine aG iQ ?_;apply(k7);refine i4 (jL O ((⟨p.o,(aF.set z.toNat ⟨x.bB,x.cQ,x.cY,x.dM,true⟩)⟩:J bL)) (⟨y.bB,y.cQ,y.cY,false,y.bV⟩) rfl rfl rfl rfl c0 bC bI bC bH aE aE) ?_;rintro v E G ⟨rfl,rfl⟩;refine aG iQ ?_;apply(k7);refine i4 (jL O ((⟨p.o,((aF.set z.toNat ⟨x.bB,x.cQ,x.cY,x.dM,true⟩).set x.bB.toNat ⟨y.bB,y.cQ,y.cY,false,y.bV⟩)⟩:J bL)) (⟨y.bB,t,y.cY,false,y.bV⟩) rfl rfl rfl rfl c0 bC bI bC bH aE aE) ?_;rintro v E G ⟨rfl,rfl⟩;refine aG iQ ?_;apply(k7);refine i4 (jL O ((⟨p.o,(((aF.set z.toNat ⟨x.bB,x.cQ,x.cY,x.dM,true⟩).set x.bB.toNat ⟨y.bB,y.cQ,y.cY,false,y.bV⟩).set x.bB.toNat ⟨y.bB,t,y.cY,false,y.bV⟩)⟩:J bL)) (⟨y.bB,t,0,false,y.bV⟩) rfl rfl rfl rfl c0 bC bI bC bH aE aE) ?_;rintro v E G ⟨rfl,rfl⟩;refine aG iQ ?_;apply(k7);refine i4 (jL O ((⟨p.o,((((aF.set z.toNat ⟨x.bB,x.cQ,x.cY,x.dM,true⟩).set x.bB.toNat ⟨y.bB,y.cQ,y.cY,false,y.bV⟩).set x.bB.toNat ⟨y.bB,t,y.cY,false,y.bV⟩).set x.bB.toNat ⟨y.bB,t,0,false,y.bV⟩)⟩:J bL)) (⟨y.bB,t,0,false,false⟩) rfl rfl rfl rfl c0 bC bI bC bH aE aE) ?_;rintro v E G ⟨rfl,rfl⟩;refine eI (aZ (cR ?_));apply hM∘hS;refine aG iQ ?_;apply(k7);refine aG (qK O ((⟨p.o,(((((aF.set z.toNat ⟨x.bB,x.cQ,x.cY,x.dM,true⟩).set x.bB.toNat ⟨y.bB,y.cQ,y.cY,false,y.bV⟩).set x.bB.toNat ⟨y.bB,t,y.cY,false,y.bV⟩).set x.bB.toNat ⟨y.bB,t,0,false,y.bV⟩).set x.bB.toNat ⟨y.bB,t,0,false,false⟩)⟩:J bL)) rfl rfl rfl c0 bC bI bC aE) ?_;apply(zU);rintro v E G ⟨bIr,rfl,rfl,aDT⟩;replace aDT:=aDT.symm;subst aDT;apply(aNj);rintro v E G ⟨bFW,rfl,bDA,rfl,rfl⟩;apply jS∘ZZ;exact oQ ⟨(z-1,(⟨aHd,BX.l++[z]⟩,⟨bFW,op.l++[x.bB]⟩),(((((aF.set z.toNat ⟨x.bB,x.cQ,x.cY,x.dM,true⟩).set x.bB.toNat ⟨y.bB,y.cQ,y.cY,false,y.bV⟩).set x.bB.toNat ⟨y.bB,t,y.cY,false,y.bV⟩).set x.bB.toNat ⟨y.bB,t,0,false,y.bV⟩).set x.bB.toNat ⟨y.bB,t,0,false,false⟩)),by dsimp only;omega,by
    dsimp only;(have bAE:rM (aF.set z.toNat ⟨x.bB,x.cQ,x.cY,x.dM,true⟩) x.bB t=(((((aF.set z.toNat ⟨x.bB,x.cQ,x.cY,x.dM,true⟩).set x.bB.toNat ⟨y.bB,y.cQ,y.cY,false,y.bV⟩).set x.bB.toNat ⟨y.bB,t,y.cY,false,y.bV⟩).set x.bB.toNat ⟨y.bB,t,0,false,y.bV⟩).set x.bB.toNat ⟨y.bB,t,0,false,false⟩):=by rw[rM,<-aN,if_pos dX,y6,y6,y6];rfl);rw[pY,if_pos ⟨gW,by rw[<-aN];exact dX⟩,<-bAE,VF D],a7f,bDA⟩
   exact aV4
  replace gW:=a8 gW;iterate 9 apply(kQ)
  apply(m2);refine QK rfl ?_;exact aV4
 exact aYs
def b8H(f:hI)(L:aP)(R:aJ)(hf:k9 f R):
 aI prog 138 [f.val].toArray L R (λv E G=>v=.int .i64 (Ew f.aT.l f.aU.l f.cA)/\L=E/\R=G):=by
 have jA:=hf.aF;refine bW 42 call138 func138 ?_;apply(c8);intro gK;apply mL∘g7∘TR;refine cC rfl (Ll f _ _ hf) ?_;apply(qP);apply(W)<;>intro aO;·exact aW0
 have hok:=zD (Decidable.not_not.1 aO);have HM:=hok.wN;have Hq:=hok.bT;apply(zH);refine c7 [(1,.pointer _),(3,.int _ _),(4,.int _ _)] bP λeZ=>?_;refine gP ([3,4,5]++b4 9 32) (λg:{k:Nat//k<=f.aT.l.length}=>[(4,.int .i64 ((g.1:Nat):Int)),(3,.int .i64 (Li f.aT.l f.cA g.1))]) (λg=>f.aT.l.length-g.1) (⟨0,by omega⟩) ?_;rintro⟨k,hk⟩ bZ;try dsimp only
 apply(oJ);apply(W)<;>intro bF;·
  have hg:=bJ f.aT.l k default;have UR:=hok.cQ k D;have pB:=aKc (bT:=f.cA) hg;obtain⟨x,K⟩:∃x,x=f.aT.l.getD k default:=⟨_,rfl⟩;rw[<-K]at hg UR pB;have Bt:Z6 x=true↔((x.dM=false/\x.cY≠-1)/\x.bV=false):=by rw[Z6];simp
  apply(CK);refine aG qH ?_;apply(WJ);intro eH;apply CL∘MF;apply iZ (aC:=[_,_,_]) (j:=3) (a7:=24) rfl rfl aE rfl aW rfl;·exact Jh
  intro iG;apply(c9);apply iZ (aC:=[_,_,_]) (j:=8) (a7:=29) rfl rfl aE rfl aW rfl;·intro gM;replace gM:=a8 gM;exact(fH) LQ
  intro wJ;apply(b3);apply(W)<;>intro b2;·apply p8∘kJ∘l8;refine aG NR ?_;apply dE∘GV;exact oT ⟨k+1,by omega⟩ kG (by dsimp only;rw[pB,Kp,if_pos (Bt.2 PN)];exact⟨rfl,rfl,trivial⟩) a2 fF k1
  apply(mD);exact oT ⟨k+1,by omega⟩ kG (by dsimp only;rw[pB,Kp,if_neg (λh=>by have:=Bt.1 h;simp_all)];exact⟨rfl,rfl,trivial⟩) a2 fF k1
 exact b0R
end Go.Proofs.YtchfclmokpbldaaGreat
/-
  What an append to a full read-only slice gives. By an AI agent; no person has read it.
-/
namespace Go.Aw
open Go
section
variable{P:Program}{bA:Operand->Value}{L:aP}{R:aJ}{dst:Option Tmp}{ty:TypeId}{pos:String}{after:Array Edge}{guard:Option (Nat×Bool)}(O:pP P){T:TypeId}{x y:Operand}
def aNi{n:Nat}: ∀{rows:List (List Value)},(∀r∈rows,r.length=n)->rows.flatten.length=rows.length*n
 |[],_=>by simp
 |r::rows,h=>by rw[aIc,iD,aNi λr M=>h r EZ,h r fX,sK,PK];omega
end
end Go.Aw
namespace Go.Proofs.YtchfclmokpbldaaGreat
open Go.Aw Go Go.Proofs.Tryz
def b8I{P:Program}{bA:Operand->Value}{L:aP}{R:aJ}{dst:Option Tmp}{ty:TypeId}{pos:String}{after:Array Edge}{guard:Option (Nat×Bool)}(O:pP P){T:TypeId}{x y:Operand}{k:IntKind}{len cap m:Nat}{h:Int}{j6:Option Addr}{e sC Z g5 z eE fL qR nC iX}
 (dN:hT O.g2 T=some ⟨.slice e,sC,Z,g5,z⟩) (c1:hT O.g2 e=some ⟨eE,fL,qR,nC,iX⟩) (K:bA x=.slice j6 len cap) (aN:bA y=.int k h) (bX:h=(m:Int)) (N:1<=m) (hn:m<=len):
 cJ P ⟨dst,.slice T x (some y) none none,ty,pos,after,guard⟩ bA L R (.slice (if cap=m then j6 else j6.map (·.add (m*fL))) (len-m) (cap-m)):=λ_ w _=>by
 have c4:=QX (O.ok _ _ dN) rfl
 have X:P.elem T=e:=by simp[Program.elem,c4]
 have RL:P.underlying T=some (.slice (P.elem T)):=by rw[X];exact c4
 have hs:=Go.Aw.run_sizeOf (O.ok _ _ c1) w
 simp only at hs
 subst bX
 have N:=run_slice_l (P:=P) w T j6 len cap RL k (m:Int) D D
 rw[X,hs,wO,vY]at N
 simp[execOp,K,aN,run_sliceAt_slice w T _ _ _ _ RL,N,sliced]
def aRr{w:World}{aC:Nat->Prop}{aR len cap m:Nat}{a:Option Addr}{rows:List (List Value)}{eQ:aJ}(h:tW w aC (.mk aR a len cap rows eQ))(N:1<=m)(hk:m<=len)(hp:0<aR):tW w aC (.mk aR (if cap=m then a else a.map (·.add (m*aR))) (len-m) (cap-m) (rows.drop m) eQ):=by
 cases h with
 |mk hl hc hm cV M hs=>
  refine .mk B6 D D (λr M=>cV r (Jf M)) ?_ hs;rcases gY m len with V|V;·
   rcases M with bQ|⟨b,off,ha,hg,MH⟩;·exact .inl (by rw[bQ];simp)
   ·have bJK:0<m*aR:=Nat.mul_pos N hp;refine .inr ⟨b,off+m*aR,by rw[if_neg D,ha,Jc,Addr.add,if_neg D],hg,λi j aA aY=>?_⟩;have:=MH (i+m) j D aY;(have e:off+m*aR+i*aR+j=off+(i+m)*aR+j:=by rw[Qd];omega);rw[List.getElem?_drop,Nat.add_comm m i,<-this,e]
  ·exact .inl (a8Q D)
abbrev oK{aV:Type}(y:a0 aV)(m aR:Nat):a0 aV:=⟨if y.cap=m then y.a else y.a.map (·.add (m*aR)),y.cap-m,y.l.drop m⟩
abbrev IF{aV:Type}(y:a0 aV)(m:Nat):a0 aV:=⟨y.a,y.cap,y.l.take m⟩
def ZN{aV:Type}{P n code t L R}{Q:gA}{aR m:Nat}{f:aV->List Value}{eQ:aJ}{y:a0 aV}(bD:aH (y.fI aR f eQ) R)(N:1<=m)(hk:m<=y.l.length)(hp:0<aR)(h:cH P n code t L ((oK y m aR).fI aR f eQ::R) Q):cH P n code t L R Q:=by
 refine aAy (s:=(oK y m aR).fI aR f eQ) (λw aC bX=>?_) h;obtain⟨r,M,hs⟩:=bD;have V:=aRr ((bX r M).sub hs) N hk hp;have dY:y.l.length-m=(y.l.drop m).length:=by rw[F9]
 have eY:(y.l.map f).drop m=(y.l.drop m).map f:=by rw[List.map_drop]
 rw[dY,eY]at V;exact V
section
variable{P:Program}{bA:Operand->Value}{L:aP}{R:aJ}{dst:Option Tmp}{ty:TypeId}{pos:String}{after:Array Edge}{guard:Option (Nat×Bool)}(O:pP P){T:TypeId}{x y:Operand}
def b52{aV:Type}{f:aV->List Value}{xs:a0 aV}{fL:Nat}{eQ:aJ}(bD:aH (xs.fI fL f eQ) R)(bQ:0<fL)(M4:0<xs.l.length){c:y7}{w:World}(cI:dL c L R w):Fm L R xs.val xs.l.length fL (xs.l.flatMap f):=by
 obtain⟨j6,cap,l⟩:=xs;dsimp only at bD M4|-;have cV:∀r∈l.map f,r.length=fL:=by
  have rA:=cI;obtain⟨⟨aC,bX,_⟩,_,_⟩:=rA;obtain⟨r,M,l6⟩:=bD;have HK:=(bX.p3 r M).sub l6;cases HK with
  |mk _ _ _ cV _ _=>exact cV
 have vN:(l.map f).flatten=l.flatMap f:=a5l _;have fW:(l.map f).flatten.length=l.length*fL:=by rw[aNi cV,uQ]
 have aTQ:=aMd (L:=L) bD bQ (λc w cI=>by
  obtain⟨⟨aC,bX,_⟩,_,_⟩:=cI;obtain⟨r,M,l6⟩:=bD;have HK:=(bX.p3 r M).sub l6;cases HK with
  |mk _ _ _ _ hm _=>
   rcases hm with h|⟨b,off,ha,_⟩;·have cN:=congrArg List.length h;simp at cN;rw[cN]at M4;simp at M4
   ·exact⟨b,off,ha⟩) fW ⟨c,w,cI⟩
 rw[vN]at aTQ;exact aTQ
def Zd{aV:Type}{e n Z g5 z eE fL qR nC iX}{f:aV->List Value}(p:J aV)(xs:a0 aV){eQ:aJ}{F:J aV->aP}(dN:hT O.g2 T=some ⟨.slice e,n,Z,g5,z⟩)(c1:hT O.g2 e=some ⟨eE,fL,qR,nC,iX⟩)(zM:iX.length=fL)(bQ:0<fL)
 (K:bA x=p.val) (aN:bA y=xs.val) (hok:p.ok fL f) (bD:aH (xs.fI fL f eQ) R) (vQ:sR e f p L F) (N:∀x,(f x).all (·.oneCell')=true) (MR:(p.l.length+xs.l.length)*(nC+1)<=140737488355328):
 eD P ⟨dst,.call ⟨.builtin .append,#[x,y],#[T,T]⟩,ty,pos,after,guard⟩ bA L R (λv E G=>∃o:gZ,v=(⟨o,p.l++xs.l⟩:J aV).val/\(⟨o,p.l++xs.l⟩:J aV).ok fL f/\F ⟨o,p.l++xs.l⟩=E/\R=G):=by
 obtain⟨A,B,c2,h1⟩:=vQ.split;intro c w cI Tl next Q hB
 have yQ:(p.l.length+xs.l.length)*nC<=140737488355328:=GB (a8v _ (Nat.le_succ _)) MR;have AJ:p.l.length+xs.l.length<=140737488355328:=GB (a8M _ (a8R _)) MR;have Bw:bA x=p.o.val p.l.length:=by rw[K,gZ.aHV hok];rfl
 rcases a8y xs.l.length with eC|eC;·
  have Hi:xs.l=[]:=Ql eC;have a2f:bA y=.slice xs.a 0 xs.cap:=by rw[aN,a0.val,eC]
  have a7t:F p=L:=by rw[h1,c2]
  cases ho:p.o with
  |nil=>
   have c4:=QX (O.ok _ _ dN) rfl;obtain⟨jB,u,qJ,UV,Pl,Cb,Vm⟩:=MA (O.ok _ _ c1);(have dY:execOp bA ⟨dst,.call ⟨.builtin .append,#[x,y],#[T,T]⟩,ty,pos,after,guard⟩=(do pure (.value (<-Builtin.append_ #[T,T] ty #[bA x,bA y]))):=by exact a8o);have M:=aKZ w T ty e jB c4 UV xs.a xs.cap;(have eB:p.l=[]:=by have FZ:=hok;rw[J.ok,ho]at FZ;exact Ql FZ.1);(have OZ:bA x=.slice none 0 0:=by rw[K,J.val,ho,eB];rfl);refine TQ (w':=w) (v:=.slice none 0 0) ?_ (hB _ _ _ w ⟨.nil,by rw[Hi,eB];rfl,by rw[Hi,eB];exact⟨rfl,rfl⟩,?_,rfl⟩ cI);·rw[dY,OZ,a2f];simp only[y5,M,wO,NL]
   ·rw[<-a7t,Hi,EX,<-ho]
  |own g cap spare=>(have MS:p.l.length<=cap:=by have FZ:=hok;rw[J.ok,ho]at FZ;exact FZ.2.1);(have Pf:bA x=.slice (some ⟨g,0,none⟩) p.l.length cap:=by rw[K,J.val,ho];rfl);(refine b5s (L:=L) (R:=R) (dst:=dst) (ty:=ty) (pos:=pos) (after:=after) (guard:=guard) O dN c1 Pf a2f MS c w cI Tl next Q ?_);rintro v E G w' ⟨rfl,rfl,rfl⟩ rA;rw[Hi,EX]at hB;exact hB _ _ _ w' ⟨p.o,by rw[J.val,ho];rfl,hok,a7t,rfl⟩ rA
 ·
  have RK:=b52 (L:=L) bD bQ eC cI;rw[<-aN]at RK;subst c2;refine a43 (dst:=dst) (ty:=ty) (pos:=pos) (after:=after) (guard:=guard) O dN c1 zM Bw hok (a9N A _ B) RK eC (a9W N _) D yQ c w cI Tl next Q ?_
  rintro v E G w' ⟨g,cap,spare,rfl,FZ,rfl,rfl⟩ rA;have e:p.l.flatMap f++xs.l.flatMap f=(p.l++xs.l).flatMap f:=by simp
  rw[e]at FZ;have hl:(p.l++xs.l).length=p.l.length+xs.l.length:=by simp
  exact aHF
end
section
variable{P:Program}{bA:Operand->Value}{L:aP}{R:aJ}{dst:Option Tmp}{ty:TypeId}{pos:String}{after:Array Edge}{guard:Option (Nat×Bool)}(O:pP P){T:TypeId}{x y z:Operand}
def a4S{aV:Type}{u:a0 aV}{m aR:Nat}{h:Int}{k:IntKind}{e sC Z g5 z eE fL qR nC iX}(dN:hT O.g2 T=some ⟨.slice e,sC,Z,g5,z⟩)(c1:hT O.g2 e=some ⟨eE,fL,qR,nC,iX⟩)(K:bA x=u.val)(aN:bA y=.int k h)(bX:h=(m:Int))(N:1<=m)(hn:m<=u.l.length)(cV:fL=aR):
 cJ P ⟨dst,.slice T x (some y) none none,ty,pos,after,guard⟩ bA L R (oK u m aR).val:=by have V:=b8I (bA:=bA) (L:=L) (R:=R) (dst:=dst) (ty:=ty) (pos:=pos) (after:=after) (guard:=guard) O dN c1 K aN bX N hn;subst cV;rw[a0.val,F9];exact V
def aKx{aV:Type}{u:a0 aV}{m q aR:Nat}{h l:Int}{k i2:IntKind}{e sC Z g5 bIe eE fL qR nC iX}(dN:hT O.g2 T=some ⟨.slice e,sC,Z,g5,bIe⟩)(c1:hT O.g2 e=some ⟨eE,fL,qR,nC,iX⟩)(K:bA x=u.val)(aN:bA y=.int k l)(eC:bA z=.int i2 h)(hl:l=(m:Int))(bX:h=(m:Int)+(q:Int))(N:1<=m)(hn:m+q<=u.l.length)(hc:u.l.length<=u.cap)(cV:fL=aR):
 cJ P ⟨dst,.slice T x (some y) (some z) none,ty,pos,after,guard⟩ bA L R (IF (oK u m aR) q).val:=λ_ w _=>by
 subst cV
 subst hl
 have c4:=QX (O.ok _ _ dN) rfl
 have X:P.elem T=e:=by simp[Program.elem,c4]
 have RL:P.underlying T=some (.slice (P.elem T)):=by rw[X];exact c4
 have hs:=Go.Aw.run_sizeOf (O.ok _ _ c1) w
 simp only at hs
 have aQ:=run_slice_lh (P:=P) w T u.a u.l.length u.cap RL k i2 (m:Int) h D D D
 have dY:h.toNat-m=q:=by omega
 have eY:((u.l.drop m).take q).length=q:=by rw[Cx,F9];omega
 rw[X,hs,wO,vY]at aQ
 rw[a0.val,IF,oK,eY]
 simp[execOp,K,aN,eC,run_sliceAt_slice w T _ _ _ _ RL,aQ,sliced,dY]
end
def a5q{aV:Type}{P n code t L R}{Q:gA}{aR:Nat}{f:aV->List Value}{eQ:aJ}{y:a0 aV}(bD:aH (y.fI aR f eQ) R)(h:y.l.length<=y.cap->cH P n code t L R Q):cH P n code t L R Q:=λc a w hf hs=>by
 have MS:y.l.length<=y.cap:=by
  have rA:=hs
  obtain⟨⟨aC,bX,_⟩,_,_⟩:=rA
  obtain⟨r,M,l6⟩:=bD
  have HK:=(bX.p3 r M).sub l6
  cases HK with
  |mk _ hc _ _ _ _=>exact hc
 exact h MS c a w hf hs
def a3H{aV:Type}{P n code t L R}{Q:gA}{aR m:Nat}{f:aV->List Value}{eQ:aJ}{y:a0 aV}(q:Nat)(bD:aH (y.fI aR f eQ) R)(N:1<=m)(hk:m<=y.l.length)(hp:0<aR)(h:cH P n code t L ((IF (oK y m aR) q).fI aR f eQ::R) Q):cH P n code t L R Q:=by
 refine ZN bD N hk hp ?_;refine a0t q n1 ?_;exact uV g3 (λr M=>by
  rcases List.mem_cons.1 M with h|h;·exact aM (by rw[h];exact .head _)
  ·exact aM (.tail _ (.tail _ h))) h
section
def aRg(h:A->B:=by exact(a4 lR ·)):=h
def aI.bGt{P:Program}{f:FuncId}{args:Array Value}{L:aP}{R:aJ}{Post xA:oY}(h:aI P f args L R Post)(k:∀v E G,Post v E G->∃iM,E.Perm iM/\xA v iM G):aI P f args L R xA:=
 ⟨h.1,λw aC bX=>(h.2 w aC bX).mono λ_ _ ⟨v,E,G,e,p,s⟩=>let ⟨iM,hp,O7⟩:=k v E G p;⟨v,iM,G,e,O7,s.DJ hp⟩⟩
attribute [local irreducible] cH c6 dP aI cJ eD e9 e0 e1 e5 eS e8 J.L
def V5(x:cF)(bS:J fK)(b:Nat)(k z u:Int)(L:aP)(R:aJ)(hk:bS.ok 4 fK.cells)(hn:bS.l.length<=400):
 aI prog 85 [.pointer (some ⟨b,0,none⟩),.int .i64 k,.int .i64 z,.int .i64 u].toArray (⟨b,({x with eM:=bS.U}:cF).cells,54⟩::(bS.L 150 fK.cells++L)) R
  (λv E G=>∃q:J fK,q.ok 4 fK.cells/\q.l=SC bS.l ⟨x.time,k,z,u⟩/\⟨b,({x with eM:=q.U}:cF).cells,54⟩::(q.L 150 fK.cells++L)=E/\R=G):=by
 refine aI.bGt (Post:=λv E G=>∃q:J fK,q.ok 4 fK.cells/\q.l=SC bS.l ⟨x.time,k,z,u⟩/\(⟨b,({x with eM:=q.U}:cF).cells,54⟩::(q.L 150 fK.cells++L)=E\/q.L 150 fK.cells++(⟨b,({x with eM:=q.U}:cF).cells,54⟩::L)=E)/\R=G) ?_ (λv E G ⟨q,N,V,aQ,b7⟩=>⟨_,by
  rcases aQ with rfl|rfl;·exact YN _
  ·exact a8P,q,N,V,rfl,b7⟩)
 refine bW 44 call85 func85 ?_;refine a6 ?_;refine hF O [9] [0,1,2,3,4,5,6,7,8,9,10,11,12,13] [14,15,16,17] (_) _ cX bE a2 dT ?_;refine m5 (A2 VH) ?_;apply(DK);refine eO iQ ?_;apply(IP);refine eO iQ ?_;apply(l1);iterate 3 apply(wM)
 refine eO aZK ?_;refine MG Dg rfl rfl rfl ?_;rintro v E G ⟨KR,rfl,rfl,K0⟩;replace K0:=K0.symm;subst K0;apply(xF);refine o4 (j2 (f:=fK.cells) (p:=bS) (a:=⟨x.time,k,z,u⟩) O rfl rfl rfl rfl (hk) c0 j8 rfl kH) rfl rfl rfl ?_;rintro v E G ⟨B0,rfl,XW,rfl,rfl⟩;apply fS∘Vw∘Sg∘F7;have gB:(⟨B0,bS.l++[⟨x.time,k,z,u⟩]⟩:J fK).l.length=bS.l.length+1:=by simp
 have Bj:(bS.l++[(⟨x.time,k,z,u⟩:fK)]).length=bS.l.length+1:=by simp
 apply(A9);refine aG iQ ?_;apply lM∘kP∘pQ∘BA;apply(W)<;>intro aO;·
  obtain⟨gC,kE⟩:∃gC:J fK,gC=⟨B0,bS.l++[⟨x.time,k,z,u⟩]⟩:=⟨_,rfl⟩;have aTA:(bS.l++[(⟨x.time,k,z,u⟩:fK)]).length=gC.l.length:=by rw[kE]
  rw[<-kE]at XW gB|-;refine hG 150 fK.cells 4 gC [] XW ?_;refine fU ?_;refine ZN (y:=gC.U) (m:=gC.l.length-400) n1 D aIw bH ?_;have JA:(oK gC.U (gC.l.length-400) 4).l.length<=1000:=by show(gC.l.drop _).length<=_;rw[F9];omega
  apply A9∘hS;refine aG iQ ?_;apply(gE);refine aG aZr ?_;refine gO (tV (f:=fK.cells) (xs:=oK gC.U (gC.l.length-400) 4) O rfl rfl rfl bH rfl rfl ((aM (.head _))) bI D) rfl ?_;rintro v E G ⟨U0,rfl,Uy,rfl,rfl⟩;refine aG iQ ?_;apply uY∘zT;refine Sb (E:=(⟨U0,gC.l.drop (gC.l.length-400)⟩:J fK).L 150 fK.cells++(⟨b,({x with eM:=(⟨U0,gC.l.drop (gC.l.length-400)⟩:J fK).U}:cF).cells,54⟩::L)) (G:=R) (Sx rfl) ?hp ?c2 ?bD;case hp=>exact⟨⟨U0,gC.l.drop (gC.l.length-400)⟩,Uy,by show gC.l.drop _=_;rw[SC,gB,kE],.inr rfl,rfl⟩
  case c2=>exact a2
  case bD=>exact λr M=>aM (.tail _ (.tail _ M))
 refine dK ?_;refine Sb (E:=⟨b,({x with eM:=(⟨B0,bS.l++[⟨x.time,k,z,u⟩]⟩:J fK).U}:cF).cells,54⟩::((⟨B0,bS.l++[⟨x.time,k,z,u⟩]⟩:J fK).L 150 fK.cells++L)) (G:=R) (Sx rfl) ?hp ?c2 ?bD;case hp=>exact⟨⟨B0,bS.l++[⟨x.time,k,z,u⟩]⟩,XW,by rw[SC,show bS.l.length+1-400=0 by omega,Jd],.inl rfl,rfl⟩
 case c2=>exact a2
 case bD=>exact mB _
def h5.AR{g:hQ}{p:b0}{x:cF}(h:h5 g p x){l:a0 fK}{k z u:Int}(hl:l.l=SC x.eM.l ⟨x.time,k,z,u⟩):h5 g (o7 p k z u) ({x with eM:=l}:cF):={h with eM:=by rw[o7,<-h.eM,<-h.time];exact hl}
def Sa(x:cF)(t:Int)(L:aP)(R:aJ):
 aI prog 81 [x.val,.int .i64 t].toArray L R (λv E G=>v=.bool (decide (t<x.time\/2147483648<t))/\L=E/\R=G):=by
 refine bW 13 call81 func81 ?_;apply(c8);intro cS;apply QU∘b1∘r8;apply cB (aC:=[_,_]) (j:=4) (a7:=9) rfl rfl aE rfl aW rfl;·intro gW;replace gW:=a8 gW;exact(a5g) hL
 intro yU;exact a8n
def TP(x:bL):Bool:=!x.dM||decide (x.cY= -1)
def a5v{l:List Int}{f:Int->Bool}(h:∀j:Nat,j<l.length->f (l.getD j 0)=false):l.any f=false:=by rw[List.any_eq_false];intro y aN;obtain⟨j,aY,rfl⟩:=Qm aN;have:=h j aY;rw[iW,ET aY]at this;rw[show(some l[j]).getD 0=l[j]from rfl]at this;rw[this];decide
def b77(f:hI)(z:Int)(L:aP)(R:aJ)(hf:k9 f R)(iJ:i6 f.aT.l f.aU.l f.cA=0)(eC:0<=z/\z<f.aU.l.length):
 aI prog 159 [f.val,.int .i64 z].toArray L R (λv E G=>v=.bool ((xC f.aT.l f.aU.l f.cA (f.aU.l.getD z.toNat 0)).any λk=>TP (f.aT.l.getD k.toNat default))/\L=E/\R=G):=by
 have jA:=hf.aF;have pL:=hf.cG;have rZ:=bJ f.aU.l z.toNat 0;refine bW 34 call159 func159 ?_;apply(c8);intro cS;apply uN∘y1;refine gJ O [0,1,2,3,4,5,8,6,7] _ cX bE g3 ?_;apply aRg∘oV;refine a4 Xx ?_;apply lW∘g1;refine q1 rfl (a93 f (f.aU.l.getD z.toNat 0) _ _ hf) rfl rfl ?_;rintro v E G ⟨q,rfl,gG,gB,rfl,rfl⟩;refine⟨a2,gN,?_⟩;refine a4 vZ ?_;refine gS (aZ (e3 ?_));refine c7 [(2,.pointer _),(14,.slice _ _ _),(15,.int _ _),(16,.int _ _)] bP λeZ=>?_;have Bk:∀y∈q.l,0<=y/\y<f.aT.l.length:=λy aN=>by exact aWM
 refine hG 3 aL 1 q [] gG ?_;refine fU ?_;have Bi:aH (cZ q.U) (cZ q.U::R):=aM (.head _);have rV:q.l.length<=32:=by rw[gB];exact Yy
 have a13:=jA.mono λr M=>aM (R:=cZ q.U::R) (.tail _ M);refine gP ([4,6,7]++b4 16 18) (λg:{k:Nat//k<=q.l.length/\∀j:Nat,j<k->TP (f.aT.l.getD (q.l.getD j 0).toNat default)=false}=>[(16,.int .i64 ((g.1:Nat):Int))]) (λg=>q.l.length-g.1) (⟨0,by omega,λj aY=>by omega⟩) ?_;rintro⟨k,hk,hD⟩ bZ;try dsimp only
 apply(h2);apply(W)<;>intro aO;·
  have DE:=bJ q.l k 0;have a10:=Bk _ (gU DE);have xS:=bJ f.aT.l ((q.l.getD k 0).toNat) default;apply(j7);refine aG qH ?_;apply ZW∘gE;refine aG aIU ?_;apply(WJ);intro kL;apply CL∘MF;apply cB (aC:=[_,_,_]) (j:=3) (a7:=28) rfl rfl aE rfl aW rfl;·exact a3w
  intro iG;apply(b3);apply(W)<;>intro bF;·
   apply(FC);refine lJ (E:=L) (G:=R) (pG rfl VO) ?hp ?c2 ?bD;case hp=>exact⟨by rw[<-gB,List.any_eq_true.2 ⟨_,gU DE,by rw[TP];simpa using bF⟩],rfl,rfl⟩
   case c2=>exact a2
   case bD=>exact λr M=>aM (.tail _ M)
  apply(n6);exact oQ ⟨k+1,by omega,λj aY=>by
  rcases gY j k with h|h;·exact hD j h
  ·(obtain rfl:j=k:=by omega);rw[TP];simpa using bF⟩
 apply(WF);refine lJ (E:=L) (G:=R) (pG rfl VO) ?hp ?c2 ?bD;case hp=>exact⟨by rw[<-gB,a5v λj aY=>hD j D],rfl,rfl⟩
 case c2=>exact a2
 case bD=>exact λr M=>aM (.tail _ M)
def aNR(g:hQ)(p:b0)(x:cF)(eW:J b8)(bS:J fK)(b:Nat)(z:Int)(L:aP)(R:aJ)(dR:Inv g p)(K:h5 g p ({x with aS:=eW.U,eM:=bS.U}:cF))(hf:k9 x.cP R)(AK:eW.ok 3 b8.cells)(UH:bS.ok 4 fK.cells)(eC:0<=z/\z<p.aS.length):
 aI prog 156 [.pointer (some ⟨b,0,none⟩),.int .i64 z].toArray (⟨b,({x with aS:=eW.U,eM:=bS.U}:cF).cells,54⟩::(bS.L 150 fK.cells++(eW.L 71 b8.cells++L))) R
  (λv E G=>∃(f:hI) (q:J fK) (S:aJ),q.ok 4 fK.cells/\h5 g (zB g p z) ({x with aS:=eW.U,cP:=f,eM:=q.U}:cF)/\k9 f (S++R)/\⟨b,({x with aS:=eW.U,cP:=f,eM:=q.U}:cF).cells,54⟩::(q.L 150 fK.cells++(eW.L 71 b8.cells++L))=E/\S++R=G):=by
 have i1:eW.l=p.aS:=K.aS;have pK:bS.l=p.eM:=K.eM;have kD:=dR.eM;have M5:x.cP.aU.l=g.cG:=K.cG;have HN:x.cP.aT.l=p.aF:=K.aF;have Hq:x.cP.cA=g.bT:=K.bT;have rX:x.time=p.time:=K.time;have tL:=dR.Qx;have Gu:=dR.D5;have rT:=dR.Gg;have aEN:z.toNat<eW.l.length:=by rw[i1];omega
 have aGV:z.toNat<x.cP.aU.l.length:=by rw[M5];omega
 have rR:=iL (l:=eW.l) (k:=z.toNat) default aEN;have rZ:=iL (l:=x.cP.aU.l) (k:=z.toNat) 0 aGV;have DH:=rT.Dh z.toNat D;rw[<-M5,<-HN]at DH;obtain⟨s,hs⟩:∃s,s=x.cP.aU.l.getD z.toNat 0:=⟨_,rfl⟩;rw[<-hs]at rZ DH;have xS:=bJ x.cP.aT.l s.toNat default;obtain⟨y,aN⟩:∃y,y=x.cP.aT.l.getD s.toNat default:=⟨_,rfl⟩;rw[<-aN]at xS;obtain⟨c,hc⟩:∃c,c=eW.l.getD z.toNat default:=⟨_,rfl⟩;rw[<-hc]at rR;have wF:v5 x.cP.aT.l x.cP.aU.l x.cP.cA s x.time=0:=by rw[M5,HN,Hq,rX,v5,if_neg (by rw[dR.BN];decide),if_neg (by rw[HN]at DH;omega),if_pos dR.a2A]
 have jA:=hf.aF;have pL:=hf.cG;dsimp only[cF.cells];refine bW 59 call156 func156 ?_;apply cO∘G4∘hS;refine aG iQ ?_;apply(gE);refine aG (h4 O (eW) _ rfl rfl rfl rfl bC (i:=z.toNat) cW iC) ?_;apply(k7);refine aG (qK O (eW) rfl rfl rfl c0 bC bI bC aE) ?_;refine cK (V5 {x with aS:=eW.U} bS b 1 z c.jJ _ _ UH (by rw[pK];exact kD)) ?_;rintro v E G ⟨q,gG,gB,rfl,rfl⟩;dsimp only[cF.cells];apply(WM);refine aG iQ ?_;apply(FD);refine aG Xx ?_;apply ZW∘hS;refine aG iQ ?_;apply(FD);refine aG a9g ?_;apply sW∘uN∘jW;refine gJ O [0,1,2,3,4,5,6,7,8,9,10,11,12,13,14,15] _ cX bE g3 ?_;apply S0∘kT∘aRg∘g1∘TI;refine q1 rfl (aJv x.cP s x.time _ _ hf) rfl rfl ?_;rintro v E G ⟨r0,x4,bT,rfl,⟨On,Ot⟩,RH,rfl,rfl⟩;refine⟨a2,gN,?_⟩;refine a4 iR ?_;refine a4 sL ?_;refine a4 sL ?_;apply(p2);intro hP;apply wX∘LI∘b1∘qP;apply(W)<;>intro aO;·exact absurd wF aO
 obtain⟨Vd,Ou,rfl⟩:=RH wF;refine hG 76 bL.cells 5 r0 [] On ?_;refine fU ?_;refine hG 3 aL 1 x4 [] Ot ?_;refine fU ?_;have Gz:k9 ⟨r0.U,x4.U,x.cP.cA⟩ ([cZ x4.U,uT r0.U]++R):=⟨aM (.tail _ (.head _)),aM (.head _)⟩;have UN:q.l=(o7 p 1 z (p.aS.getD z.toNat default).jJ).eM:=by rw[gB,o7,<-pK,<-i1,<-hc,<-rX]
 have BU:g.cG.getD z.toNat 0=s:=by rw[hs,M5]
 have aTR:p.aF.getD s.toNat default=y:=by rw[aN,HN]
 have JE:r0.l=rM p.aF s p.time:=by rw[Vd,HN,rX]
 apply eR∘hS;refine aG lR ?_;refine aG iQ ?_;apply(eP);refine PW O rfl rfl rfl rfl s6 aE aE aE ?_;apply(jW);refine uV (E:=⟨b,({x with aS:=eW.U,cP:=⟨r0.U,x4.U,x.cP.cA⟩,eM:=q.U}:cF).cells,54⟩::(q.L 150 fK.cells++(eW.L 71 b8.cells++L))) a2 fF ?_;apply eK∘c9∘b3;apply(W)<;>intro bF;·
  apply A9∘b1;refine cK (V5 {x with aS:=eW.U,cP:=⟨r0.U,x4.U,x.cP.cA⟩} q b 2 s 0 _ _ gG (by rw[UN];exact(dR.AR _ _ _).eM)) ?_;rintro v E G ⟨fB,K9,F0,rfl,rfl⟩;apply(zT);refine Sb (E:=⟨b,({x with aS:=eW.U,cP:=⟨r0.U,x4.U,x.cP.cA⟩,eM:=fB.U}:cF).cells,54⟩::(fB.L 150 fK.cells++(eW.L 71 b8.cells++L))) (G:=[cZ x4.U,uT r0.U]++R) (Sx rfl) ?hp ?c2 ?bD;case hp=>(have e:zB g p z=o7 {o7 p 1 z (p.aS.getD z.toNat default).jJ with aF:=rM p.aF s p.time} 2 s 0:=by rw[zB,BU,aTR,if_pos bF]);exact⟨⟨r0.U,x4.U,x.cP.cA⟩,fB,[cZ x4.U,uT r0.U],K9,by rw[e];exact{K with aF:=JE,cG:=Ou.trans M5,eM:=by show fB.l=_;rw[F0,UN,rX];rfl},Gz,rfl,rfl⟩
  case c2=>exact a2
  case bD=>exact mB _
 refine dK ?_;refine Sb (E:=⟨b,({x with aS:=eW.U,cP:=⟨r0.U,x4.U,x.cP.cA⟩,eM:=q.U}:cF).cells,54⟩::(q.L 150 fK.cells++(eW.L 71 b8.cells++L))) (G:=[cZ x4.U,uT r0.U]++R) (Sx rfl) ?hp ?c2 ?bD;case hp=>
  have e:zB g p z={o7 p 1 z (p.aS.getD z.toNat default).jJ with aF:=rM p.aF s p.time}:=by rw[zB,BU,aTR,if_neg (by rw[bF];decide)]
  exact⟨⟨r0.U,x4.U,x.cP.cA⟩,q,[cZ x4.U,uT r0.U],gG,by rw[e];exact{K with aF:=JE,cG:=Ou.trans M5,eM:=UN},Gz,rfl,rfl⟩
 case c2=>exact a2
 case bD=>exact mB _
end
end Go.Proofs.YtchfclmokpbldaaGreat
