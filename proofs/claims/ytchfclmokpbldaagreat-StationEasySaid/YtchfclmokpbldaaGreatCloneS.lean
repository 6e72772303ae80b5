/-
  Merged texts. By an AI agent.
-/
import Derived.Test.YtchfclmokpbldaaGreatTelF
import Derived.Test.YtchfclmokpbldaaGreatTelW
set_option linter.all false
set_option maxHeartbeats 4000000
set_option maxRecDepth 20000
variable{A B:Prop}
namespace Go.Proofs.YtchfclmokpbldaaGreat
open Go.Aw Go Go.Proofs.Tryz
section
attribute [local irreducible] cQ dF dV aM cP eC e5 e1 e2 e6 eX e4 J.L
def aDV(h:A->B:=by exact fP xR rfl rfl rfl rfl):=h
def fX.set{s s':eA}(h:fX s s')(m:List eE)(t:Int):UW s m t=UW s' m t:=by rw[UW,UW,EF,EF,HH,HH,h.XF,h.T3,h.OP];have e:∀i:Nat,(s.b0.cM.l.getD i default).hS.l=(s'.b0.cM.l.getD i default).hS.l:=h.H4;simp only[e]
def fX.vI{s s':eA}(h:fX s s')(A:List Bool)(m:List eE)(t:Int):HL s A m t=HL s' A m t:=by
 have e:∀q:Qb,ZM s.b0 A q=ZM s'.b0 A q:=λq=>by rw[ZM,ZM,(pM.of (s:=Ax q) (s':=Ax q) h.b0 rfl).aLq A]
 rw[HL,HL,h.set,e,h.OP]
def aHR{m:h4}{u v:Nat}(h:sY (YQ m) u v):sY m u v:=by
 induction h with
 |refl=>exact .refl
 |tail _ k c6=>exact .tail c6 k
def aJI{m:h4}{u v:Nat}(h:sY m u v):sY (YQ m) u v:=by
 induction h with
 |refl=>exact .refl
 |tail _ k c6=>exact .tail c6 k
def aHt(m:h4)(A:List Bool):lB (YQ m) A↔lB m A:=
 ⟨λh=>⟨h.len,λi aE=>(h.KD i aE).trans ⟨λ⟨j,O,X,aU⟩=>⟨j,O,X,aHR aU⟩,λ⟨j,O,X,aU⟩=>⟨j,O,X,aJI aU⟩⟩⟩,λh=>⟨h.len,λi aE=>(h.KD i aE).trans ⟨λ⟨j,O,X,aU⟩=>⟨j,O,X,aJI aU⟩,λ⟨j,O,X,aU⟩=>⟨j,O,X,aHR aU⟩⟩⟩⟩
def fX.xA{s s':eA}(h:fX s s'){A:List Bool}(gE:lB s'.b0.aC A):lB s.b0.aC A:=by have e:YQ s.b0.aC=YQ s'.b0.aC:=congrArg b3.aC h.b0;rw[<-aHt,e,aHt];exact gE
def aGF{S:List gP}{kind target:Int}{k:Nat}(aG:k<S.length)(h:(S.getD k default).kind=kind/\(S.getD k default).target=target)(hC:∀j:Nat,j<k->¬((S.getD j default).kind=kind/\(S.getD j default).target=target)):Ql S kind target=some k:=by rw[Ql,a3z];exact⟨by simpa using h,by rw[XP];exact aG,λj a6=>by have:=hC j a6;simp only[Wj,decide_eq_false_iff_not];exact this⟩
def aUh{S:List gP}{kind target:Int}(hC:∀j:Nat,j<S.length->¬((S.getD j default).kind=kind/\(S.getD j default).target=target)):Ql S kind target=none:=by rw[Ql,List.find?_eq_none];intro j a6;rw[XP]at a6;simpa using hC j a6
structure u6(x:cL)(R:aO):Prop where
 aK:zY x.aK R
 c7:aL (gT x.c7) R
 IK:∀m∈x.c7.l,v2 m
 aND:x.c7.l.length<=1000
 time:0<=x.time/\x.time<=2147483648
 ok:nO x.aK=0
def u6.of{g:hL}{p:bZ}{x:cL}{R:aO}(eT:Inv g p)(K:h3 g p x)(O:zY x.aK R)(X:aL (gT x.c7) R):u6 x R:=
 ⟨O,X,by rw[K.c7];exact eT.IK,by rw[K.c7,eT.c7];have:=eT.OQ.len;omega,by rw[K.time];exact eT.time,by rw[K.aK.AM];exact eT.aK⟩
def aEN(x:cL)(kind target n:Int)(L:aR)(R:aO)(h:u6 x R):
 aM prog 128 [x.val,.int .i64 kind,.int .i64 target,.int .i64 n].toArray L R (λv E G=>v=.int .i64 (CW x.aK.cO.l x.c7.l x.time kind target n)/\L=E/\R=G):=by
 have jB:=h.aK.cO;have j1:=(JT h.ok).len;refine b6 58 call128 func128 rfl rfl rfl ?_;apply(dB);intro eD;apply hH∘e7∘qP;refine dS [(1,.int _ _),(2,.int _ _),(3,.int _ _),(4,.pointer _),(14,.slice _ _ _),(15,.int _ _),(16,.int _ _)] bV λfK=>?_;refine gY ([8,9,10,11]++cN 16 42) (λg:{k:Nat//k<=x.aK.cO.l.length/\∀j:Nat,j<k->¬((x.aK.cO.l.getD j default).kind=kind/\(x.aK.cO.l.getD j default).target=target)}=>[(16,.int .i64 ((g.1:Nat):Int))]) (λg=>x.aK.cO.l.length-g.1) (⟨0,by omega,λj a6=>by omega⟩) ?_;rintro⟨k,aG,hC⟩ cH;try dsimp only
 apply(h0);refine U ?_ ?_<;>intro aQ;·
  have b7:=bJ (l:=x.aK.cO.l) (k:=k) default D;apply(oJ);refine aI pL rfl ?_;refine aI Ck rfl ?_;apply(dZ);intro i0;apply dM∘rT∘gK∘p9;apply cA (Z:=[_,_,_,_]) (j:=4) (a9:=25) rfl rfl aB rfl aY rfl;·intro hD;replace hD:=bB hD;exact(gK) E2
  intro wP;apply(b9);refine U ?_ ?_<;>intro bL;·refine mD (mF (mB (a8 (c2 ?_))));apply(s6);exact aCc
  have AQ:=aGF (S:=x.aK.cO.l) (kind:=kind) (target:=target) (k:=k) D D hC;apply hN∘e7;refine aI q1 rfl ?_;apply gK∘fD;refine cD rfl (a4Z x.aK x.c7 (k:Int) x.time _ _ jB h.c7 h.IK h.time) ?_;apply(dZ);intro H1;apply sI∘j0∘sG;apply iR (Z:=[_,_,_]) (j:=5) (a9:=44) rfl rfl aB rfl aY rfl;·intro kL;replace kL:=bB kL;exact(Y7) g4
  intro XC;apply(dE);apply iR (Z:=[_,_,_,_]) (j:=10) (a9:=49) rfl rfl aB rfl aY rfl;·intro pE;replace pE:=bB pE;exact(gK) DU
  exact aQc
 exact aPJ
def aUK(x:cL)(L:aR)(R:aO)(h:u6 x R):
 aM prog 54 [x.val].toArray L R (λv E G=>∃iO lV:a4 Int,v=.agg #[iO.val,lV.val]/\iO.l=EF x.aK x.c7.l x.time x.aK.b0.c3.l.length/\lV.l=HH x.aK x.c7.l x.time x.aK.b0.cM.l.length/\L=E/\dU lV::dU iO::R=G):=by
 have Z3:=h.aK.b0.c3;have a9v:=h.aK.b0.cM;have ZV:=yR (JT h.ok).b0;have QT:=ZV.XF;have tW:=ZV.T3;refine b6 47 call54 func54 rfl rfl rfl ?_;apply(dB);intro gL;apply(dZ);intro eH;apply j8∘dZ;intro eS;apply(rF);iterate 3 apply(e7)
 apply SI∘VM;refine dS [(1,.pointer _),(2,.pointer _),(3,.pointer _),(11,.int _ _),(12,.int _ _)] bV λfK=>?_;refine qK ([4]++cN 12 12) ((⟨λg=>[(12,.int .i64 ((g.1.1:Nat):Int))],λg=>⟨eS,[g.1.2.val,.slice none 0 0],80⟩::(g.1.2.L 3 a1++(⟨eH,[.slice none 0 0,.slice none 0 0],80⟩::⟨gL,x.cells,54⟩::L)),λ_=>R,λg=>x.aK.b0.c3.l.length-g.1.1⟩:fB {g:Nat×J Int//g.1<=x.aK.b0.c3.l.length/\g.2.ok 1 a1/\g.2.l=EF x.aK x.c7.l x.time g.1})) (⟨(0,J.nil),by dsimp only;omega,J.iJ,rfl⟩) bV X3 eN ?_;rintro⟨⟨k,iO⟩,aG,TH,gA⟩ cH;try dsimp only
 dsimp only at aG TH gA;have AP:iO.l.length=k:=by rw[gA,a0N]
 apply(h0);refine U ?_ ?_<;>intro aQ;·apply oJ∘dM∘b9;refine iS N [] [0,1,2,3,4,5] [6,7,8] (_) _ dO bI bA fM ?_;apply mH∘aDV∘zO;refine rQ rfl (aEN x 5 (k:Int) 3 _ _ h) rfl rfl ?_;rintro v E G ⟨rfl,rfl,rfl⟩;refine⟨bA,iQ,?_⟩;apply(Bf);rintro v E G ⟨AG,rfl,rfl,H8⟩;replace H8:=H8.symm;subst H8;apply(NG);refine uN aSD rfl rfl rfl ?_;rintro v E G ⟨aNL,rfl,aMP,rfl,rfl⟩;exact(gJ∘PQ∘PV) aS0
 obtain rfl:k=x.aK.b0.c3.l.length:=by omega
 apply(xN);iterate 3 apply(e7)
 apply SI∘VM;refine dS [(1,.pointer _),(2,.pointer _),(3,.pointer _),(27,.slice _ _ _),(28,.int _ _),(29,.int _ _)] bV λoA=>?_;refine qK ([5,6]++cN 29 17) ((⟨λg=>[(29,.int .i64 ((g.1.1:Nat):Int))],λg=>⟨eS,[iO.val,g.1.2.val],80⟩::(g.1.2.L 3 a1++(iO.L 3 a1++(⟨eH,[.slice none 0 0,.slice none 0 0],80⟩::⟨gL,x.cells,54⟩::L))),λ_=>R,λg=>x.aK.b0.cM.l.length-g.1.1⟩:fB {g:Nat×J Int//g.1<=x.aK.b0.cM.l.length/\g.2.ok 1 a1/\g.2.l=HH x.aK x.c7.l x.time g.1})) (⟨(0,J.nil),by dsimp only;omega,J.iJ,rfl⟩) bV X3 eN ?_;rintro⟨⟨j,lV⟩,a6,GC,ID⟩ cH;try dsimp only
 dsimp only at a6 GC ID;have LS:lV.l.length=j:=by rw[ID,Yc]
 apply(h0);refine U ?_ ?_<;>intro bL;·have b7:=bJ (l:=x.aK.b0.cM.l) (k:=j) default D;apply(oJ);refine aI Cl rfl ?_;apply Hm∘dZ;intro i1;apply dM∘jZ∘b9;refine iS N [] [0,1,2,3,4,5,6,7,8] [9,10,11] (_) _ dO bI bA fM ?_;apply mH∘aDV∘zO∘mH;refine fP yG rfl rfl rfl rfl ?_;refine rQ rfl (aEN x 6 (j:Int) _ _ _ h) rfl rfl ?_;rintro v E G ⟨rfl,rfl,rfl⟩;refine⟨bA,iQ,?_⟩;apply(Bf);rintro v E G ⟨b1i,rfl,rfl,Ff⟩;replace Ff:=Ff.symm;subst Ff;apply(NG);refine uN aRU rfl rfl rfl ?_;rintro v E G ⟨aBC,rfl,aAg,rfl,rfl⟩;apply gJ∘PQ∘PV;exact eO ⟨(j+1,⟨aBC,lV.l++[CW x.aK.cO.l x.c7.l x.time 6 (j:Int) ((x.aK.b0.cM.l.getD j default).hS.l.length:Int)]⟩),by dsimp only;omega,aAg,by dsimp only;rw[aHp,ID]⟩
 exact aRK
def aFZ(s:eA)(A:List Bool)(m:List eE)(t:Int){iO lV:a4 Int}(O:iO.l=EF s m t s.b0.c3.l.length)(X:lV.l=HH s m t s.b0.cM.l.length):HL s A m t=(M2 (rM s.b0 ⟨iO,lV⟩ A).2 kH 3 s.cO.l m t).dD:=by
 rw[HL,<-b0d s.b0 ⟨iO,lV⟩ A];have e:R6 (⟨iO,lV⟩:cS)=UW s m t:=by show(iO.l,lV.l)=_;rw[O,X,UW]
 rw[e]
def a6y(x:cL)(A:List Bool)(L:aR)(R:aO)(h:u6 x R)(gE:lB x.aK.b0.aC A):
 aM prog 58 [x.val].toArray L R (λv E G=>∃aA:a4 bC,v=aA.val/\aA.l=HL x.aK A x.c7.l x.time/\L=E/\sU aA::R=G):=by
 have jB:=h.aK.cO;have wO:=JT h.ok;have j1:=wO.len;have ER:=(yR wO.b0).aC.aJ;refine b6 27 call58 func58 rfl rfl rfl ?_;apply(dB);intro gL;apply(BK);refine gZ N [0,1,2,3,4,5,6,7,8,9,10] _ dO bI hA ?_;apply lA∘lA∘KI;refine bE xR rfl rfl rfl ?_;refine tP rfl (aUK x _ _ h) rfl rfl ?_;rintro v E G ⟨iO,lV,rfl,gA,ID,rfl,rfl⟩;refine⟨bA,iQ,?_⟩;refine tP rfl (b0s x.aK.b0 ⟨iO,lV⟩ A _ _ (FN h.aK.b0 λr M=>aT (.tail _ (.tail _ M))) ⟨aT (.tail _ (.head _)),aT (.head _)⟩ (λ_=>gE)) rfl rfl ?_;rintro v E G ⟨q,rfl,gR,fT,rfl,rfl⟩;refine⟨bA,iQ,?_⟩;refine bE iL rfl rfl rfl ?_;refine bE q2 rfl rfl rfl ?_;refine bE q2 rfl rfl rfl ?_;refine bE zT rfl rfl rfl ?_;apply qV∘IP;have qT:l0 x.aK.b0 ⟨iO,lV⟩=true:=by exact aQT
 have sO:q.l.length=x.aK.b0.aC.aJ.l.length:=by rw[fT];exact a1i wO.b0 qT gE
 refine hB (T:=90) (f:=bC.cells) (aN:=2) q [] cF bD aW gR e8 ?_;refine eM gD ?_;have cK:∀r∈R,aL r (sU q.V::dU lV::dU iO::R):=λr M=>aT (.tail _ (.tail _ (.tail _ M)));apply BL∘e7∘j0∘fD;refine dT rfl (aYS q.V x.aK.cO x.c7 x.time _ _ mA (jB.mono cK) (h.c7.mono cK) (by show q.l.length<=1000;omega) D h.aND h.IK h.time) rfl ?_;rintro v E G ⟨eF,fW,rfl,⟨aAp,IG⟩,aAq,DB,rfl,rfl⟩;refine aI iL rfl ?_;apply CO∘BK;refine hB (T:=90) (f:=bC.cells) (aN:=2) eF [] cF bD aW aAp e8 ?_;refine eM gD ?_;apply BL∘SH;refine lH (E:=L) (G:=sU eF.V::R) w2 ?aP ?dI ?bO;case aP=>exact⟨eF.V,rfl,by show eF.l=_;rw[aAq,aFZ x.aK A x.c7.l x.time gA ID,<-fT],rfl,rfl⟩
 case dI=>exact bA
 case bO=>
  exact λr M=>by
   rcases List.mem_cons.1 M with h|h;·rw[h];exact aT (.head _)
   ·exact aT (.tail _ (.tail _ (.tail _ (.tail _ h))))
def aGf(h:A->B:=by exact aI aDk rfl):=h
def aGH(h:A->B:=by exact aI mM rfl):=h
def aUB(h:A->B:=by exact aI DT rfl):=h
def aZM(l:yW)(w:fU)(L:aR)(R:aO)(dH:w.A2<=2147483648/\w.cZ<=w.A2):
 aM prog 102 [l.val,w.val].toArray L R (λv E G=>v=.int .i64 (Ef l w)/\L=E/\R=G):=by refine b6 18 call102 func102 rfl rfl rfl ?_;apply(dB);intro eH;apply(iV);intro eS;apply hH∘aGH;refine cD rfl (a6i l _ _) ?_;exact aOR
def aTZ(l:yW)(w:fU)(L:aR)(R:aO)(dH:w.A2<=2147483648/\w.cZ<=w.A2):
 aM prog 140 [l.val,w.val].toArray L R (λv E G=>v=.int .i64 (Ef l w)/\L=E/\R=G):=by refine b6 18 call140 func140 rfl rfl rfl ?_;apply(dB);intro eH;apply(iV);intro eS;apply hH∘aGH;refine cD rfl (a6K l _ _) ?_;exact aOR
def aZ4(L:aR)(R:aO):
 aM prog 79 ([]:List Value).toArray L R (λv E G=>v=(⟨true,-1,0⟩:fU).val/\L=E/\R=G):=by refine b6 2 call79 func79 rfl rfl rfl ?_;apply dC∘dZ;intro a1E;apply(j8);refine aI aRT rfl ?_;apply(CQ);refine bQ L R (sD rfl Ii) ?_;exact MK
def aDv(L:aR)(R:aO):aM prog 123 ([]:List Value).toArray L R (λv E G=>v=xK.val/\L=E/\R=G):=by refine b6 2 call123 func123 rfl rfl rfl ?_;exact aR6
def aWC(c:a4 b8)(r:jP)(L:aR)(R:aO)(cG:aL (sE c) R):
 aM prog 157 [c.val,r.val].toArray L R (λv E G=>v=(nQ c.l r).val/\L=E/\R=G):=by
 refine m1 call157 cG λEN=>?_;refine b6 39 call157 func157 rfl rfl rfl ?_;apply(dB);intro eS;apply(dZ);intro eD;apply rF∘fD∘sG;apply cA (Z:=[_,_,_,_,_,_,_,_,_,_,_,_,_,_,_,_,_,_,_,_,_,_,_,_,_,_,_]) (j:=3) (a9:=8) rfl rfl aB rfl aY rfl;·exact aOK
 intro h8;apply(b9);refine U ?_ ?_<;>intro aQ;·exact aSa
 apply(e0);refine cD rfl (a7M _ _) ?_;exact aO0
def aUm(c:a4 b8)(r:jP)(L:aR)(R:aO)(cG:aL (sE c) R):
 aM prog 266 [c.val,r.val].toArray L R (λv E G=>v=(nQ c.l r).val/\L=E/\R=G):=by
 refine m1 call266 cG λEN=>?_;refine b6 39 call266 func266 rfl rfl rfl ?_;apply(dB);intro eS;apply(dZ);intro eD;apply rF∘fD∘sG;apply cA (Z:=[_,_,_,_,_,_,_,_,_,_,_,_,_,_,_,_,_,_,_,_,_,_,_,_,_,_,_]) (j:=3) (a9:=8) rfl rfl aB rfl aY rfl;·exact aOK
 intro h8;apply(b9);refine U ?_ ?_<;>intro aQ;·exact aSa
 apply(e0);refine cD rfl (aDv _ _) ?_;exact aO0
def aV0{A:aR}{R:aO}{p:J b8}(r:jP)(aP:xT (p.L 71 b8.cells) A)(b6K:p.ok 3 b8.cells):
 aM prog 157 [p.val,r.val].toArray A R (λv E G=>v=(nQ p.l r).val/\A=E/\R=G):=
 aM.a2J (S:=[sE p.V]) (λw Z b4 s aH=>by
  rw[List.mem_singleton.1 aH]
  exact VF (T:=71) b4 aP b6K bD aW e8) (aWC p.V r [] _ mA)
end
end Go.Proofs.YtchfclmokpbldaaGreat
namespace Go.Proofs.YtchfclmokpbldaaGreat
open Go.Aw Go Go.Proofs.Tryz
def aE7(h:A->B:=by exact aI pL rfl):=h
def aJn(h:A->B:=by exact hT Xf rfl):=h
def aFn(h:A->B:=by exact aI q1 rfl):=h
def aM.aOj{P:Program}{f:FuncId}{args:Array Value}{L:aR}{R:aO}{Post CM:oK}(h:aM P f args L R Post)(k:∀v E G c w,Post v E G->dQ c E G w->∃i6 u5,dQ c i6 u5 w/\CM v i6 u5):aM P f args L R CM:=
 ⟨h.1,λw Z b4=>(h.2 w Z b4).mono λ_ _ ⟨v,E,G,e,p,s⟩=>let ⟨i6,u5,s',L2⟩:=k v E G _ _ p s;⟨v,i6,u5,e,L2,s'⟩⟩
set_option maxRecDepth 20000
attribute [local irreducible] cQ dF dV aM cP eC e5 e1 e2 e6 eX e4 J.L
def a5V(x:a4 Int)(L:aR)(R:aO)(K:aL (dU x) R)(b1:x.l.length<=1000):
 aM prog 149 [x.val].toArray L R (λv E G=>∃o:g6,v=(⟨o,x.l⟩:J Int).val/\(⟨o,x.l⟩:J Int).ok 1 a1/\(⟨o,x.l⟩:J Int).L 3 a1++L=E/\R=G):=by refine b6 5 call149 func149 rfl rfl rfl ?_;apply dC∘vD∘gU;refine hT (r9 (f:=a1) (xs:=x) N rfl rfl rfl aW rfl rfl (K) bD D) rfl ?_;rintro v E G ⟨Vn,rfl,aAf,rfl,rfl⟩;apply(SH);refine bQ ((⟨Vn,x.l⟩:J Int).L 3 a1++L) R w2 ?_;exact⟨Vn,rfl,aAf,rfl,rfl⟩
structure Xy(l:List lR)(k:Nat)(R:aO)(iO:J lR)(S:aO):Prop where
 ok:iO.ok 4 lR.cells
 len:iO.l.length=k
 eq:iO.l.map YJ=(l.take k).map YJ
 sub:∀f∈iO.l,aL f.gN S
 ext:∀r∈R,aL r S
structure Xx(l:List kI)(k:Nat)(R:aO)(lV:J kI)(S:aO):Prop where
 ok:lV.ok 3 kI.cells
 len:lV.l.length=k
 eq:lV.l.map FE=(l.take k).map FE
 sub:∀f∈lV.l,aL f.gN S
 ext:∀r∈R,aL r S
structure a1r(l:List kW)(k:Nat)(R:aO)(oQ:J kW)(S:aO):Prop where
 ok:oQ.ok 4 kW.cells
 len:oQ.l.length=k
 eq:oQ.l.map R1=(l.take k).map R1
 sub:∀f∈oQ.l,∀s∈kW.eU f,aL s S
 ext:∀r∈R,aL r S
def a7C{a7 rK:Type}{f:a7->rK}{l mY:List a7}{k:Nat}{x y:a7}(h:mY.map f=(l.take k).map f)(K:l[k]?=some x)(W:f y=f x):(mY++[y]).map f=(l.take (k+1)).map f:=by rw[ME,K,u1,u1,h];show _++[f y]=_++[f x];rw[W]
def Xy.next{l:List lR}{k:Nat}{R S:aO}{iO:J lR}(h:Xy l k R iO S){x y:lR}(K:l[k]?=some x)(W:YJ y=YJ x){o:g6}(bH:(⟨o,iO.l++[y]⟩:J lR).ok 4 lR.cells):Xy l (k+1) R ⟨o,iO.l++[y]⟩ (y.gN::S):=
 ⟨bH,by show(iO.l++[y]).length=_;rw[l9,h.len];rfl,a7C h.eq K W,λf aF=>by
  rcases List.mem_append.1 aF with aF|aF
  ·exact(h.sub f aF).mono λr M=>aT (.tail _ M)
  ·rw[List.mem_singleton.1 aF];exact aT (.head _),λr M=>(h.ext r M).mono λr M=>aT (.tail _ M)⟩
def Xx.next{l:List kI}{k:Nat}{R S:aO}{iO:J kI}(h:Xx l k R iO S){x y:kI}(K:l[k]?=some x)(W:FE y=FE x){o:g6}(bH:(⟨o,iO.l++[y]⟩:J kI).ok 3 kI.cells):Xx l (k+1) R ⟨o,iO.l++[y]⟩ (y.gN::S):=
 ⟨bH,by show(iO.l++[y]).length=_;rw[l9,h.len];rfl,a7C h.eq K W,λf aF=>by
  rcases List.mem_append.1 aF with aF|aF
  ·exact(h.sub f aF).mono λr M=>aT (.tail _ M)
  ·rw[List.mem_singleton.1 aF];exact aT (.head _),λr M=>(h.ext r M).mono λr M=>aT (.tail _ M)⟩
def a1r.next{l:List kW}{k:Nat}{R S:aO}{iO:J kW}(h:a1r l k R iO S){x y:kW}(K:l[k]?=some x)(W:R1 y=R1 x){o:g6}(bH:(⟨o,iO.l++[y]⟩:J kW).ok 4 kW.cells):a1r l (k+1) R ⟨o,iO.l++[y]⟩ (dU y.aJ::D1 y.jN::S):=
 ⟨bH,by show(iO.l++[y]).length=_;rw[l9,h.len];rfl,a7C h.eq K W,λf aF s aH=>by
  rcases List.mem_append.1 aF with aF|aF
  ·exact(h.sub f aF s aH).mono λr M=>aT (.tail _ (.tail _ M))
  ·rw[List.mem_singleton.1 aF]at aH
   simp only[kW.eU,sW,vR,or_false]at aH
   rcases aH with rfl|rfl
   ·exact aT (.tail _ (.head _))
   ·exact aT (.head _),λr M=>(h.ext r M).mono λr M=>aT (.tail _ (.tail _ M))⟩
def aVe(a:b3)(L:aR)(R:aO)(bT:mZ a R)(b2:h5 a=0):
 aM prog 226 [a.val].toArray L R (λv E G=>∃(fA:b3) (S:aO),v=fA.val/\q5 fA=q5 a/\mZ fA (S++R)/\L=E/\S++R=G):=by
 have bH:=yR b2;have r0:=bH.aC.places;have N7:=bH.aC.aJ;have QT:=bH.XF;have tW:=bH.T3;have WS:=bT.places;have aAS:=bT.aJ;have Z3:=bT.c3;have a9v:=bT.cM;refine b6 55 call226 func226 rfl rfl rfl ?_;apply(dB);intro gL;apply(dZ);intro eH;apply(j2);refine gZ N [0,1,2,4,5,6,3,7,8,9,10,11] _ dO bI hA ?_;apply LD∘LD;refine uN (r9 (f:=yX.cells) (xs:=a.aC.places) N rfl rfl rfl aW rfl rfl (WS) bD D) rfl rfl rfl ?_;rintro v E G ⟨OI,rfl,a99,rfl,rfl⟩;apply(gJ);refine uN (r9 (f:=qN.cells) (xs:=a.aC.aJ) N rfl rfl rfl aW rfl rfl (aAS) bD D) rfl rfl rfl ?_;rintro v E G ⟨oP,rfl,Gj,rfl,rfl⟩;apply gJ∘b6X;refine bE aTo rfl rfl rfl ?_;apply(qH);intro eS;apply(uC);refine g5 (a8 (bK (bK ?_)));refine hB (T:=157) (f:=qN.cells) (aN:=10) (⟨oP,a.aC.aJ.l⟩:J qN) [] cF bD aW Gj e8 ?_;refine eM gD ?_;refine hB (T:=159) (f:=yX.cells) (aN:=2) (⟨OI,a.aC.places.l⟩:J yX) [] cF bD aW a99 e8 ?_;refine eM gD ?_;obtain⟨gS,BZ⟩:∃gS,gS=OM (⟨OI,a.aC.places.l⟩:J yX).V::Bm (⟨oP,a.aC.aJ.l⟩:J qN).V::R:=⟨_,rfl⟩;have kJ:∀r∈R,aL r gS:=λr M=>aT (by rw[BZ];exact .tail _ (.tail _ M));have b2c:aL (OM (⟨OI,a.aC.places.l⟩:J yX).V) gS:=aT Xp;have b2e:aL (Bm (⟨oP,a.aC.aJ.l⟩:J qN).V) gS:=aT Xi;refine wK Xm ?_;have b3r:=Z3.mono kJ;have b3b:=a9v.mono kJ;apply eB∘qP;refine dS [(1,.pointer _),(2,.pointer _),(3,.pointer _),(19,.slice _ _ _),(20,.int _ _),(21,.int _ _)] bV λfK=>?_;refine qK ([5]++cN 21 15) ((⟨λg=>[(21,.int .i64 ((g.1.1:Nat):Int))],λg=>⟨eS,[(⟨OI,a.aC.places.l⟩:J yX).val,(⟨oP,a.aC.aJ.l⟩:J qN).val,g.1.2.1.val,.slice none 0 0],32⟩::(g.1.2.1.L 278 lR.cells++(⟨eH,[.slice none 0 0,.slice none 0 0,.slice none 0 0,.slice none 0 0],32⟩::⟨gL,a.cells,32⟩::L)),λg=>g.1.2.2,λg=>a.c3.l.length-g.1.1⟩:fB {g:Nat×J lR×aO//g.1<=a.c3.l.length/\Xy a.c3.l g.1 gS g.2.1 g.2.2})) (⟨(0,J.nil,gS),by dsimp only;omega,⟨J.iJ,rfl,rfl,λf aF=>(by cases aF),n1 _⟩⟩) bV X3 eN ?_;rintro⟨⟨k,iO,S⟩,aG,kN⟩ cH;try dsimp only
 dsimp only at aG kN;have b15:=kN.ok;have b9l:=kN.len;have b3s:=b3r.mono kN.ext;apply(h0);refine U ?_ ?_<;>intro aQ;·have b7:=bJ (l:=a.c3.l) (k:=k) default D;obtain⟨x,K⟩:∃x,x=a.c3.l.getD k default:=⟨_,rfl⟩;rw[<-K]at b7;have Aq:=aL.qR b3s b7;have QZ:=(bH.qR k x b7).1.aBw;apply j9∘aE7∘LG;intro gQ;apply(z8);refine hT (r9 (f:=j6.cells) (xs:=x.iA) N rfl rfl rfl aW rfl rfl (Aq) bD D) rfl ?_;rintro v E G ⟨Hh,rfl,Ub,rfl,rfl⟩;apply(FT);refine eZ (a8 (c2 ?_));apply fD∘r5∘aJn;rintro v E G ⟨LN,rfl,rfl,QG⟩;replace QG:=QG.symm;subst QG;refine hT (pO (f:=lR.cells) (p:=iO) (a:=⟨x.cV,x.n4,x.Kz,(⟨Hh,x.iA.l⟩:J j6).V⟩) N rfl rfl rfl rfl (b15) cF p2 rfl qI) rfl ?_;rintro v E G ⟨b6x,rfl,b4x,rfl,rfl⟩;apply(FT);refine eZ (hI (a8 ?_));refine hB (T:=319) (f:=j6.cells) (aN:=2) (⟨Hh,x.iA.l⟩:J j6) [] cF bD aW Ub e8 ?_;refine eM gD ?_;apply eB∘s6;exact eO ⟨(k+1,⟨b6x,iO.l++[_]⟩,_),by dsimp only;omega,kN.next (y:=⟨x.cV,x.n4,x.Kz,(⟨Hh,x.iA.l⟩:J j6).V⟩) b7 rfl b4x⟩
 obtain rfl:k=a.c3.l.length:=by omega
 have b3c:=b3b.mono kN.ext;apply xN∘qP;refine dS [(2,.pointer _),(3,.pointer _),(37,.slice _ _ _),(38,.int _ _),(39,.int _ _)] bV λoA=>?_;refine qK ([7]++cN 39 15) ((⟨λg=>[(39,.int .i64 ((g.1.1:Nat):Int))],λg=>⟨eS,[(⟨OI,a.aC.places.l⟩:J yX).val,(⟨oP,a.aC.aJ.l⟩:J qN).val,iO.val,g.1.2.1.val],32⟩::(g.1.2.1.L 239 kI.cells++(iO.L 278 lR.cells++(⟨eH,[.slice none 0 0,.slice none 0 0,.slice none 0 0,.slice none 0 0],32⟩::⟨gL,a.cells,32⟩::L))),λg=>g.1.2.2,λg=>a.cM.l.length-g.1.1⟩:fB {g:Nat×J kI×aO//g.1<=a.cM.l.length/\Xx a.cM.l g.1 S g.2.1 g.2.2})) (⟨(0,J.nil,S),by dsimp only;omega,⟨J.iJ,rfl,rfl,λf aF=>(by cases aF),n1 _⟩⟩) bV X3 eN ?_;rintro⟨⟨j,lV,e3⟩,a6,uT⟩ cH;try dsimp only
 dsimp only at a6 uT;have b14:=uT.ok;have aLS:=uT.len;have b3d:=b3c.mono uT.ext;apply(h0);refine U ?_ ?_<;>intro bL;·have b7:=bJ (l:=a.cM.l) (k:=j) default D;obtain⟨x,K⟩:∃x,x=a.cM.l.getD j default:=⟨_,rfl⟩;rw[<-K]at b7;have Aq:=aL.H4 b3d b7;have QZ:=(bH.H4 j x b7).1.len;apply(j9);refine aI Cl rfl ?_;apply Hm∘dZ;intro o0;apply(z8);refine dT rfl (a5V x.hS _ _ Aq D) rfl ?_;rintro v E G ⟨r4,rfl,Ud,rfl,rfl⟩;apply(FT);refine eZ (a8 (c2 ?_));apply(fD);refine aI mM rfl ?_;refine hT Xg rfl ?_;rintro v E G ⟨b8M,rfl,rfl,a8M⟩;replace a8M:=a8M.symm;subst a8M;refine hT (pO (f:=kI.cells) (p:=lV) (a:=⟨x.cV,x.zJ,(⟨r4,x.hS.l⟩:J Int).V⟩) N rfl rfl rfl rfl (b14) cF p2 rfl qI) rfl ?_;rintro v E G ⟨b6B,rfl,b4C,rfl,rfl⟩;apply(FT);refine eZ (hI (a8 ?_));refine hB (T:=3) (f:=a1) (aN:=1) (⟨r4,x.hS.l⟩:J Int) [] cF bD aW Ud e8 ?_;refine eM gD ?_;apply eB∘s6;exact eO ⟨(j+1,⟨b6B,lV.l++[_]⟩,_),by dsimp only;omega,uT.next (y:=⟨x.cV,x.zJ,(⟨r4,x.hS.l⟩:J Int).V⟩) b7 rfl b4C⟩
 obtain rfl:j=a.cM.l.length:=by omega
 refine hB (T:=278) (f:=lR.cells) (aN:=4) iO (iO.l.map lR.gN) cF bD aW kN.ok (λs aH=>by obtain⟨f,aF,rfl⟩:=List.mem_map.1 aH;exact(kN.sub f aF).mono uT.ext) ?_;refine eM gD ?_;refine hB (T:=239) (f:=kI.cells) (aN:=3) lV (lV.l.map kI.gN) cF bD aW uT.ok (λs aH=>by obtain⟨f,aF,rfl⟩:=List.mem_map.1 aH;exact(uT.sub f aF).mono λr M=>aT (.tail _ M)) ?_;refine eM gD ?_;apply n9∘r5∘CQ;refine lH (E:=L) (G:=(V8 lV.V::Em iO.V::e3)++R) (sD rfl aR7) ?aP ?dI ?bO;case aP=>
  exact⟨⟨⟨(⟨OI,a.aC.places.l⟩:J yX).V,(⟨oP,a.aC.aJ.l⟩:J qN).V⟩,iO.V,lV.V⟩,V8 lV.V::Em iO.V::e3,rfl,by
  rw[q5,q5];refine congr (congr (congrArg b3.mk rfl) ?_) ?_;·show(⟨none,0,iO.l.map YJ⟩:a4 lR)=_;rw[kN.eq,DK (iK _)]
  ·show(⟨none,0,lV.l.map FE⟩:a4 kI)=_;rw[uT.eq,DK (iK _)],⟨((b2c.mono kN.ext).mono uT.ext).mono λr M=>aT (.tail _ (.tail _ (r7 _ M))),((b2e.mono kN.ext).mono uT.ext).mono λr M=>aT (.tail _ (.tail _ (r7 _ M))),aT (.tail _ (.head _)),aT (.head _)⟩,rfl,rfl⟩
 case dI=>exact bA
 case bO=>
  exact λr M=>by
   rcases List.mem_append.1 M with h|h;·exact aT h
   ·exact(((kJ r h).mono kN.ext).mono uT.ext).mono λr M=>aT (.tail _ (.tail _ M))
def aGX{n:Nat}{l:List Int}(h: ∀i:Nat,i<l.length->¬AC n l i): ∀i:Nat,i<l.length->(i:Int)<=l.getD i 0/\l.getD i 0<n
 |0,aE=>by have:=h 0 aE;rw[AC]at this;omega
 |i+1,aE=>by
  have O:=aGX h i D
  have X:=h (i+1) aE
  rw[AC,Nat.add_sub_cancel]at X
  omega
def aXx{n m:Nat}{z:kW}(h:BQ n m z=0):z.jN.l.length<=64/\z.aJ.l.length<=m+1:=by
 rw[BQ]at h;split at h;·omega
 rename_i O;split at h;·cases h
 split at h;·cases h
 rename_i aU;have O:HA z.jN.l n=0:=Decidable.not_not.1 O;refine⟨?_,?_⟩;·
  rw[HA]at O;split at O;·cases O
  ·rename_i cK;(have cK:BC z.jN.l=true:=by simpa using cK);rw[BC,nH,decide_eq_true_eq]at cK;omega
 ·
  rcases hF (m+1) z.aJ.l.length with aX|aX;·have:=aGX (n:=m) (l:=z.aJ.l) (λi aE a5=>aU ⟨i,aE,a5⟩) (m+1) aX;omega
  ·exact aX
def aUG(s:eA)(L:aR)(R:aO)(aH:zY s R)(b2:nO s=0):
 aM prog 148 [s.val].toArray L R (λv E G=>∃(s':eA) (S:aO),v=s'.val/\fX s' s/\zY s' (S++R)/\L=E/\S++R=G):=by
 have bH:=JT b2
 have j1:=bH.len
 have N7:=(yR bH.b0).aC.aJ
 have jB:=aH.cO
 have AN:=aH.fC
 have o4:=aH.a2
 have WS:=aH.lM
 refine b6 42 call148 func148 rfl rfl rfl ?_
 apply(dB)
 intro gL
 apply(dZ)
 intro eH
 apply(j2)
 refine gZ N [0,1,3,4,6,7,9,10,2,5,8,11,12,13,14] _ dO bI hA ?_
 apply lA∘KI∘g7∘g7∘g7
 refine tP rfl (aVe s.b0 _ _ aH.b0 bH.b0) rfl rfl ?_
 rintro v E G ⟨fA,a5K,rfl,b2N,N1,rfl,rfl⟩
 refine⟨bA,iQ,?_⟩
 have Sw:∀r∈R,aL r (a5K++R):=λr M=>aT (lZ _ M)
 have aAY:=jB.mono Sw
 have b2V:=AN.mono Sw
 have b4X:=WS.mono Sw
 have b54:=o4.mono Sw
 refine uN (r9 (f:=gP.cells) (xs:=s.cO) N rfl rfl rfl aW rfl rfl (aAY) bD D) rfl rfl rfl ?_
 rintro v E G ⟨OI,rfl,a99,rfl,rfl⟩
 apply(gJ)
 refine uN (r9 (f:=qM.cells) (xs:=s.fC) N rfl rfl rfl aW rfl rfl (b2V) bD D) rfl rfl rfl ?_
 rintro v E G ⟨Q6,rfl,Tz,rfl,rfl⟩
 apply(gJ)
 refine uN (r9 (f:=a1) (xs:=s.lM) N rfl rfl rfl aW rfl rfl (b4X) bD D) rfl rfl rfl ?_
 rintro v E G ⟨Vm,rfl,b4u,rfl,rfl⟩
 apply(gJ)
 refine bE aQH rfl rfl rfl ?_
 apply(qH)
 intro eS
 apply(uC)
 refine g5 (a8 (bK (bK ?_)))
 refine hB (T:=170) (f:=a1) (aN:=1) (⟨Vm,s.lM.l⟩:J Int) [] cF bD aW b4u e8 ?_
 refine eM gD ?_
 refine hB (T:=102) (f:=qM.cells) (aN:=6) (⟨Q6,s.fC.l⟩:J qM) [] cF bD aW Tz e8 ?_
 refine eM gD ?_
 refine hB (T:=88) (f:=gP.cells) (aN:=8) (⟨OI,s.cO.l⟩:J gP) [] cF bD aW a99 e8 ?_
 refine eM gD ?_
 obtain⟨gS,BZ⟩:∃gS,gS=CI (⟨OI,s.cO.l⟩:J gP).V::Iz (⟨Q6,s.fC.l⟩:J qM).V::dU (⟨Vm,s.lM.l⟩:J Int).V::(a5K++R):=⟨_,rfl⟩
 have kJ:∀r∈a5K++R,aL r gS:=λr M=>aT (by rw[BZ];exact .tail _ (.tail _ (.tail _ M)))
 have b2f:aL (CI (⟨OI,s.cO.l⟩:J gP).V) gS:=aT Xp
 have b2b:aL (Iz (⟨Q6,s.fC.l⟩:J qM).V) gS:=aT Xi
 have b2d:aL (dU (⟨Vm,s.lM.l⟩:J Int).V) gS:=aT a3W
 refine wK Xm ?_
 have a2D:=b54.mono kJ
 have b2A:=FN N1 kJ
 apply eB∘qP
 refine dS [(2,.pointer _),(3,.pointer _),(20,.slice _ _ _),(21,.int _ _),(22,.int _ _)] bV λfK=>?_
 refine qK ([5]++cN 22 19) ((⟨λg=>[(22,.int .i64 ((g.1.1:Nat):Int))],λg=>⟨eS,[fA.aC.places.val,fA.aC.aJ.val,fA.c3.val,fA.cM.val,(⟨OI,s.cO.l⟩:J gP).val,(⟨Q6,s.fC.l⟩:J qM).val,g.1.2.1.val,(⟨Vm,s.lM.l⟩:J Int).val],38⟩::(g.1.2.1.L 97 kW.cells++(⟨eH,[.slice none 0 0,.slice none 0 0,.slice none 0 0,.slice none 0 0,.slice none 0 0,.slice none 0 0,.slice none 0 0,.slice none 0 0],38⟩::⟨gL,s.cells,38⟩::L)),λg=>g.1.2.2,λg=>s.a2.l.length-g.1.1⟩:fB {g:Nat×J kW×aO//g.1<=s.a2.l.length/\a1r s.a2.l g.1 gS g.2.1 g.2.2})) (⟨(0,J.nil,gS),by dsimp only;omega,⟨J.iJ,rfl,rfl,λf aF=>(by cases aF),n1 _⟩⟩) bV X3 eN ?_
 rintro⟨⟨k,oQ,S⟩,aG,B1⟩ cH
 try dsimp only
 dsimp only at aG B1
 have b2y:=B1.ok
 have b9o:=B1.len
 have aNv:=a2D.mono B1.ext
 apply(h0)
 refine U ?_ ?_<;>intro aQ
 ·
  have b7:=bJ (l:=s.a2.l) (k:=k) default D
  obtain⟨x,K⟩:∃x,x=s.a2.l.getD k default:=⟨_,rfl⟩
  rw[<-K]at b7
  have b5V:=aL.jN aNv b7
  have b5X:=aL.Xk aNv b7
  have bAg:=aXx (bH.dN x (hV b7))
  apply j9∘aE7∘LG
  intro gQ
  apply(HT)
  refine iS N [] [0,1,3,4,2,6,5] [7,8,9] (_) _ dO bI bA fM ?_
  apply(PY)
  refine Eb (r9 (f:=jE.cells) (xs:=x.jN) N rfl rfl rfl aW rfl rfl (b5V) bD D) rfl rfl rfl ?_
  rintro v E G ⟨Ba,rfl,aAb,rfl,rfl⟩
  apply gJ∘zM
  refine rQ rfl (a5V x.aJ _ _ b5X D) rfl rfl ?_
  rintro v E G ⟨r4,rfl,Ud,rfl,rfl⟩
  refine⟨bA,iQ,?_⟩
  apply zN∘aBU∘PQ
  refine g5 (a8 (c2 ?_))
  apply fD∘r5∘aJn
  rintro v E G ⟨QC,rfl,rfl,QH⟩
  replace QH:=QH.symm;subst QH
  refine hT (pO (f:=kW.cells) (p:=oQ) (a:=⟨(⟨Ba,x.jN.l⟩:J jE).V,x.hold,(⟨r4,x.aJ.l⟩:J Int).V,x.uR⟩) N rfl rfl rfl rfl (b2y) cF p2 rfl qI) rfl ?_
  rintro v E G ⟨b6y,rfl,aAe,rfl,rfl⟩
  apply(FT)
  refine eZ (hI (a8 ?_))
  refine hB (T:=172) (f:=jE.cells) (aN:=4) (⟨Ba,x.jN.l⟩:J jE) [] cF bD aW aAb e8 ?_
  refine eM gD ?_
  refine hB (T:=3) (f:=a1) (aN:=1) (⟨r4,x.aJ.l⟩:J Int) [] cF bD aW Ud e8 ?_
  refine eM gD ?_
  apply eB∘s6
  exact eO ⟨(k+1,⟨b6y,oQ.l++[_]⟩,_),by dsimp only;omega,B1.next (y:=⟨(⟨Ba,x.jN.l⟩:J jE).V,x.hold,(⟨r4,x.aJ.l⟩:J Int).V,x.uR⟩) b7 rfl aAe⟩
 obtain rfl:k=s.a2.l.length:=by omega
 refine hB (T:=97) (f:=kW.cells) (aN:=4) oQ (oQ.l.flatMap kW.eU) cF bD aW B1.ok (λs aH=>by
  obtain⟨f,aF,aH⟩:=List.mem_flatMap.1 aH
  exact B1.sub f aF s aH) ?_
 refine eM gD ?_
 apply n9∘aFn∘CQ
 refine lH (E:=L) (G:=(VL oQ.V::S)++R) (sD rfl (K0 (row:=[_,_,_,_,_,_,_,_]) N rfl rfl rfl n0 aB aB)) ?aP ?dI ?bO
 case aP=>
  exact⟨⟨fA,(⟨OI,s.cO.l⟩:J gP).V,(⟨Q6,s.fC.l⟩:J qM).V,oQ.V,(⟨Vm,s.lM.l⟩:J Int).V⟩,VL oQ.V::S,rfl,by
  show wG _=wG _
  rw[wG,wG]
  refine congr (congr (congr (congr (congrArg eA.mk b2N) rfl) rfl) ?_) rfl
  show(⟨none,0,oQ.l.map R1⟩:a4 kW)=_
  rw[B1.eq,DK (iK _)],by
  have fY:∀r∈gS,aL r ((VL oQ.V::S)++R):=λr M=>(B1.ext r M).mono λr M=>aT (.tail _ (r7 _ M))
  exact⟨FN b2A fY,b2f.mono fY,b2b.mono fY,aT (.head _),b2d.mono fY⟩,rfl,rfl⟩
 case dI=>exact bA
 case bO=>
  exact λr M=>by
   rcases List.mem_append.1 M with h|h
   ·exact aT h
   ·exact(((Sw r h).mono kJ).mono B1.ext).mono λr M=>aT (.tail _ M)
structure Py(x:cL)(s:eA)(h:a4 Int)(w:a4 fU)(c:a4 b8)(f:hJ)(dK:J eE)(c9:J fG)(R:aO):Prop where
 Au:dK.ok 4 eE.cells
 OE:c9.ok 4 fG.cells
 C4:fX s x.aK
 a1O:h.l=x.held.l
 a1R:w.l=x.eG.l
 a1N:c.l=x.aV.l
 Sj:f.aZ.l=x.cU.aZ.l
 a1S:f.a2.l=x.cU.a2.l
 a1Q:f.cB=x.cU.cB
 em:dK.l=x.c7.l
 a1P:c9.l=x.eQ.l
 aK:zY s R
 held:aL (gX h) R
 eG:aL (CJ w) R
 aV:aL (sE c) R
 cU:k0 f R
def Py.is{x:cL}{s:eA}{h:a4 Int}{w:a4 fU}{c:a4 b8}{f:hJ}{dK:J eE}{c9:J fG}{R:aO}(k:Py x s h w c f dK c9 R){g:hL}{p:bZ}(K:h3 g p x):h3 g p ⟨s,x.time,h,x.eK,dK.V,w,c,f,x.aD,c9.V⟩:=
 ⟨k.C4.trans K.aK,K.time,k.a1O.trans K.held,K.eK,k.em.trans K.c7,k.a1R.trans K.eG,k.a1N.trans K.aV,k.Sj.trans K.Y,k.a1S.trans K.cI,k.a1Q.trans K.bX,K.aD,k.a1P.trans K.eQ⟩
structure Pz(x:cL):Prop where
 ok:nO x.aK=0
 held:x.held.l.length<=1000
 c7:x.c7.l.length<=1000
 eG:x.eG.l.length<=1000
 aV:x.aV.l.length<=1000
 Y:x.cU.aZ.l.length<=1000
 cI:x.cU.a2.l.length<=1000
 eQ:x.eQ.l.length<=1000
def Pz.of{g:hL}{p:bZ}{x:cL}(eT:Inv g p)(K:h3 g p x):Pz x:=by have j1:=eT.OQ.len;exact⟨by rw[K.aK.AM];exact eT.aK,by rw[K.held];have:=eT.held.2;omega,by rw[K.c7,eT.c7];omega,by rw[K.eG,eT.Bq];omega,by rw[K.aV,eT.BU];omega,by rw[K.Y];have:=eT.ZN.A7;omega,by rw[K.cI];have:=eT.ZN.w1;omega,by rw[K.eQ];have:=eT.eQ;omega⟩
structure aGe(x:cL)(s:eA)(h:a4 Int)(f:hJ)(dK:J eE)(lF:J fU)(eY:J b8)(c9:J fG)(R:aO):Prop where
 Au:dK.ok 4 eE.cells
 aNz:lF.ok 3 fU.cells
 aNy:eY.ok 3 b8.cells
 OE:c9.ok 4 fG.cells
 C4:fX s x.aK
 a1O:h.l=x.held.l
 a1R:lF.l=x.eG.l
 a1N:eY.l=x.aV.l
 Sj:f.aZ.l=x.cU.aZ.l
 a1S:f.a2.l=x.cU.a2.l
 a1Q:f.cB=x.cU.cB
 em:dK.l=x.c7.l
 a1P:c9.l=x.eQ.l
 aK:zY s R
 held:aL (gX h) R
 cU:k0 f R
def aIb(x:cL)(L:aR)(R:aO)(rC:Pz x)(bO:kU x R):
 aM prog 76 [x.val].toArray L R (λv E G=>∃(s:eA) (h:a4 Int) (f:hJ) (dK:J eE) (lF:J fU) (eY:J b8) (c9:J fG) (S:aO),v=(⟨s,x.time,h,x.eK,dK.V,lF.V,eY.V,f,x.aD,c9.V⟩:cL).val/\aGe x s h f dK lF eY c9 (S++R)/\c9.L 150 fG.cells++(eY.L 71 b8.cells++(lF.L 153 fU.cells++(dK.L 93 eE.cells++L)))=E/\S++R=G):=by have O:=rC.held;have X:=rC.c7;have aU:=rC.eG;have cK:=rC.aV;have fY:=rC.Y;have i7:=rC.cI;have nL:=rC.eQ;have jB:=bO.aK;refine b6 42 call76 func76 rfl rfl rfl ?_;apply(dB);intro gL;apply(dZ);intro eH;apply j8∘e7∘aFn;refine dT rfl (aUG x.aK _ _ jB rC.ok) rfl ?_;rintro v E G ⟨s',a5M,rfl,b5q,aAY,rfl,rfl⟩;have Fl:∀r∈R,aL r (a5M++R):=λr M=>aT (lZ _ M);have g9:=bO.held.mono Fl;have fI:=bO.c7.mono Fl;have o5:=bO.eG.mono Fl;have fZ:=bO.aV.mono Fl;have aBt:=bO.cU.Y.mono Fl;have aBu:=bO.cU.cI.mono Fl;have a2I:=bO.eQ.mono Fl;apply(e7);refine P8 N rfl rfl rfl rfl sX aB aB aB ?_;apply j8∘HP;refine hT (r9 (f:=rL) (xs:=x.held) N rfl rfl rfl aW rfl rfl (g9) bD D) rfl ?_;rintro v E G ⟨xM,rfl,Gi,rfl,rfl⟩;apply e7∘NA∘fD;refine hT (r9 (f:=eE.cells) (xs:=x.c7) N rfl rfl rfl aW rfl rfl (fI) bD D) rfl ?_;rintro v E G ⟨oP,rfl,Gj,rfl,rfl⟩;apply NA∘fD;refine hT (r9 (f:=fU.cells) (xs:=x.eG) N rfl rfl rfl aW rfl rfl (o5) bD D) rfl ?_;rintro v E G ⟨OJ,rfl,Ua,rfl,rfl⟩;apply NA∘fD;refine hT (r9 (f:=b8.cells) (xs:=x.aV) N rfl rfl rfl aW rfl rfl (fZ) bD D) rfl ?_;rintro v E G ⟨zI,rfl,TL,rfl,rfl⟩;apply NA∘HP;refine hT (r9 (f:=bS.cells) (xs:=x.cU.aZ) N rfl rfl rfl aW rfl rfl (aBt) bD D) rfl ?_;rintro v E G ⟨Ba,rfl,aAb,rfl,rfl⟩;apply e7∘NA∘HP;refine dT rfl (a5V x.cU.a2 _ _ aBu D) rfl ?_;rintro v E G ⟨r4,rfl,Ud,rfl,rfl⟩;apply e7∘NA∘fD;refine hT (r9 (f:=fG.cells) (xs:=x.eQ) N rfl rfl rfl aW rfl rfl (a2I) bD D) rfl ?_;rintro v E G ⟨aNM,rfl,b4y,rfl,rfl⟩;apply FT∘j2;refine hB (T:=3) (f:=a1) (aN:=1) (⟨r4,x.cU.a2.l⟩:J Int) [] cF bD aW Ud e8 ?_;refine eM gD ?_;refine hB (T:=76) (f:=bS.cells) (aN:=5) (⟨Ba,x.cU.aZ.l⟩:J bS) [] cF bD aW aAb e8 ?_;refine eM gD ?_;refine hB (T:=5) (f:=rL) (aN:=1) (⟨xM,x.held.l⟩:J Int) [] cF bD aW Gi e8 ?_;refine eM gD ?_;apply(eB);refine aI xR rfl ?_;apply(CQ);refine bQ ((⟨aNM,x.eQ.l⟩:J fG).L 150 fG.cells++((⟨zI,x.aV.l⟩:J b8).L 71 b8.cells++((⟨OJ,x.eG.l⟩:J fU).L 153 fU.cells++((⟨oP,x.c7.l⟩:J eE).L 93 eE.cells++L)))) ((gX (⟨xM,x.held.l⟩:J Int).V::s4 (⟨Ba,x.cU.aZ.l⟩:J bS).V::dU (⟨r4,x.cU.a2.l⟩:J Int).V::a5M)++R) (sD rfl Ih) ?_;exact⟨s',(⟨xM,x.held.l⟩:J Int).V,⟨(⟨Ba,x.cU.aZ.l⟩:J bS).V,(⟨r4,x.cU.a2.l⟩:J Int).V,x.cU.cB⟩,(⟨oP,x.c7.l⟩:J eE),⟨OJ,x.eG.l⟩,⟨zI,x.aV.l⟩,(⟨aNM,x.eQ.l⟩:J fG),gX (⟨xM,x.held.l⟩:J Int).V::s4 (⟨Ba,x.cU.aZ.l⟩:J bS).V::dU (⟨r4,x.cU.a2.l⟩:J Int).V::a5M,rfl,⟨Gj,Ua,TL,b4y,b5q,rfl,rfl,rfl,rfl,rfl,rfl,rfl,rfl,aAY.mono λr M=>aT (.tail _ (.tail _ (.tail _ M))),aT (.head _),⟨aT (.tail _ (.head _)),aT (.tail _ (.tail _ (.head _)))⟩⟩,rfl,rfl⟩
def aTN(x:cL)(L:aR)(R:aO)(rC:Pz x)(bO:kU x R):
 aM prog 76 [x.val].toArray L R (λv E G=>∃(s:eA) (h:a4 Int) (w:a4 fU) (c:a4 b8) (f:hJ) (dK:J eE) (c9:J fG) (S:aO),v=(⟨s,x.time,h,x.eK,dK.V,w,c,f,x.aD,c9.V⟩:cL).val/\Py x s h w c f dK c9 (S++R)/\c9.L 150 fG.cells++(dK.L 93 eE.cells++L)=E/\S++R=G):=by refine aM.aOj (aIb x L R rC bO) ?_;rintro v E G c w ⟨s,h,f,dK,lF,eY,c9,S,cY,fE,rfl,rfl⟩ cT;have O:=cT.CA (a3E _ _ _);have X:=O.ZO (eU:=[]) fE.aNy bD aW e8;have aU:=X.CA (a3E _ _ _);have cK:=aU.ZO (eU:=[]) fE.aNz bD aW e8;have fY:∀r∈S++R,aL r ((CJ lF.V::sE eY.V::S)++R):=λr M=>aT (.tail _ (.tail _ M));exact⟨_,_,cK,s,h,lF.V,eY.V,f,dK,c9,CJ lF.V::sE eY.V::S,cY,⟨fE.Au,fE.OE,fE.C4,fE.a1O,fE.a1R,fE.a1N,fE.Sj,fE.a1S,fE.a1Q,fE.em,fE.a1P,fE.aK.mono fY,fE.held.mono fY,aT (.head _),aT (.tail _ (.head _)),fE.cU.mono fY⟩,rfl,rfl⟩
end Go.Proofs.YtchfclmokpbldaaGreat
