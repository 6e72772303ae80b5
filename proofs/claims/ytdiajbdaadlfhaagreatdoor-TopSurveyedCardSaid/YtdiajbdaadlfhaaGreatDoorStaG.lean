-- By an AI agent; no person has read it.
import Derived.Test.YtdiajbdaadlfhaaGreatDoorStaD
set_option linter.all false
set_option maxHeartbeats 4000000
variable{A B:Prop}
namespace Go.Proofs.YtdiajbdaadlfhaaGreatDoor
open Go.Aw Go Go.Proofs.Tryz
set_option maxRecDepth 20000
attribute [local irreducible] cO dG dP aM cI dR fA e2 e5 fB eQ e9 J.L
def GF(h:A->B:=by exact aA NP rfl):=h
def Br(h:A->B:=by exact jW (T:=207) (f:=e6.cells) (aI:=4) dK [] cL bH aX fF.Fm eW):=h
def a09(h:A->B:=by exact jW (T:=282) (f:=fO.cells) (aI:=4) bL [] cL bH aX fF.PS eW):=h
def a0o(h:A->B:=by exact jW (T:=282) (f:=fO.cells) (aI:=4) gP [] cL bH aX KK eW):=h
def a7s(h:A->B:=by exact OR M rfl rfl rfl rfl qV aK aK aK):=h
def aEe(h:A->B:=by exact aA qW rfl):=h
def aEj(h:A->B:=by exact jW (T:=3) (f:=aR) (aI:=1) PY [] cL bH aX b4v eW):=h
def aKd(h:A->B:=by exact jW (T:=143) (f:=cH.cells) (aI:=5) KR [] cL bH aX b30 eW):=h
def aFX(h:A->B:=by exact b7 EC rfl rfl rfl):=h
def aHQ(h:A->B:=by exact b7 NP rfl rfl rfl):=h
def aD9(h:A->B:=by exact b7 X0 rfl rfl rfl):=h
def aKk(h:A->B:=by exact zD rfl aPW rfl rfl):=h
def aEk(h:B:=by exact⟨(⟨s,t,h,x.fU,dK.W,fJ,jS,iQ,(cU g p t).aC,gP.W⟩:dS),kO gP.W::(eF++(hV dK.W::fS)),by rw[dH],by rw[dH];exact fL.FY zP,⟨fF.bO.mono bW,fF.held.mono bW,(dV _ (.head _)).mono aO,sW.mono aO,dE.mono aO,tR.mono aO,aU (.head _)⟩,rfl,rfl⟩):=h
def aKa(h:A->B:=by exact aA X0 rfl):=h
def n7.iC{g:mZ}{q:c0}{x:dS}(h:n7 g q x):L9 x.bO g.c2 x.fN.l x.time=iR g q:=by rw[hH.iC h.bO,h.fN,h.time,iR]
def aW4(g:mZ)(p:c0)(x:dS)(k sh t:Int)(L:aW)(R:aP)(hP:Inv g p)(K:n7 g p x)(b8:EW x R):
 aM prog 47 [x.val,.int .i64 k,.int .i64 sh,.int .i64 t].toArray L R (Qn g (N7 g p k sh t) L R):=by
 refine cX 36 call47 func47 rfl rfl rfl ?_;apply(fC);intro dU;apply(dO);intro mF;apply p5∘GF;refine dN rfl Ww rfl ?_;rintro v E R' ⟨s,h,w,c,f,dK,bL,fS,rfl,fF,rfl,rfl⟩;apply(dO);intro lI;apply uI∘GF∘cJ;refine eD rfl (Pt x t _ _) ?_;apply(dD);refine aJ ?_ ?_<;>intro bI;·refine cC ?_;apply(Br);refine e7 h3 ?_;apply(a09);refine e7 h3 ?_;apply e1∘GF∘y4;refine cF L ((kO bL.W::hV dK.W::fS)++R) BG ?_;have aZ:sJ p t:=(RP K).1 EA;exact⟨(⟨s,x.time,h,x.fU,dK.W,w,c,f,x.aC,bL.W⟩:dS),kO bL.W::hV dK.W::fS,by rw[N7,if_pos aZ],by rw[N7,if_pos aZ];exact fF.is K,fF.VR (λr O=>aU (.tail _ (.tail _ O))) QH mL,rfl,rfl⟩
 have aZ:¬sJ p t:=λh=>absurd ((RP K).2 h) EA;have gJ:=GW aZ;have B6:=fF.is K;have FP:f.b6.l=p.aL:=B6.aL;have ZV:f.b0.l=g.c4:=B6.c4;have lB:f.eB=g.cV:=B6.cV;have ZK:zE f.b6.l f.b0.l f.eB k sh=zE p.aL g.c4 g.cV k sh:=by rw[FP,ZV,lB]
 apply gI∘gF∘aEe∘wF;refine dN rfl (aUx f k sh _ _ fF.fP) rfl ?_;rintro v E R' ⟨KR,PY,TN,rfl,⟨b30,b4v⟩,a17,rfl,rfl⟩;refine aA jE rfl ?_;apply(OG);intro GY;apply E7∘U2∘pG;refine aJ ?_ ?_<;>intro cK;·
  refine cC ?_;apply(aEj);refine e7 h3 ?_;apply(aKd);refine e7 h3 ?_;refine sN (R':=fS++R) iP (λr O=>aU (.tail _ (.tail _ O))) ?_;apply(Br);refine e7 h3 ?_;apply(a09);refine e7 h3 ?_;apply e1∘GF∘yE;refine cF L ((kO bL.W::hV dK.W::fS)++R) BG ?_;have V:zE p.aL g.c4 g.cV k sh≠0:=by rw[<-ZK];exact cK
  exact⟨(⟨s,x.time,h,x.fU,dK.W,w,c,f,x.aC,bL.W⟩:dS),kO bL.W::hV dK.W::fS,by rw[N7,if_neg aZ,if_pos V,ZK],by rw[N7,if_neg aZ,if_pos V];exact B6,fF.VR (λr O=>aU (.tail _ (.tail _ O))) QH mL,rfl,rfl⟩
 apply CI∘aKd;refine e7 h3 ?_;apply(aEj);refine e7 h3 ?_;apply(Br);refine e7 h3 ?_;have V:zE p.aL g.c4 g.cV k sh=0:=by rw[<-ZK];exact Decidable.not_not.1 cK
 obtain⟨Ey,b4u,aMK⟩:=a17 (by rw[ZK];exact V);have MO:=hP.aKq V;have a9l:n7 g {p with aL:=QN p.aL k sh} (⟨s,x.time,h,x.fU,dK.W,w,c,⟨KR.W,PY.W,TN⟩,x.aC,bL.W⟩:dS):={B6 with aL:=by rw[<-FP];exact Ey,c4:=b4u.trans ZV,cV:=aMK.trans lB};have rO:∀r∈fS++R,aN r (hV dK.W::dW PY.W::wA KR.W::(fS++R)):=λr O=>aU (.tail _ (.tail _ (.tail _ O)));apply e1∘aEe∘gF∘a7s∘j6;refine sN (E:=⟨lI,(⟨s,x.time,h,x.fU,dK.W,w,c,⟨KR.W,PY.W,TN⟩,x.aC,bL.W⟩:dS).cells,132⟩::(bL.L 282 fO.cells++_)) bC eX ?_;apply(nP);refine dN rfl (Ql g {p with aL:=QN p.aL k sh} (⟨s,x.time,h,x.fU,dK.W,w,c,⟨KR.W,PY.W,TN⟩,x.aC,bL.W⟩:dS) bL lI t _ _ MO a9l (fF.bO.mono rO) mL (fF.gR.mono rO) (fF.b1.mono rO) ⟨aU (.tail _ (.tail _ (.head _))),aU (.tail _ (.head _))⟩ fF.PS gJ) rfl ?_;rintro v E R' ⟨fJ,jS,iQ,q,eF,g7,fL,⟨sW,dE,tR⟩,rfl,rfl⟩;apply(j6);refine jW (T:=282) (f:=fO.cells) (aI:=4) q [] cL bH aX g7 eW ?_;refine e7 h3 ?_;have aO:∀r∈eF++(hV dK.W::dW PY.W::wA KR.W::(fS++R)),aN r ((kO q.W::(eF++(hV dK.W::dW PY.W::wA KR.W::fS)))++R):=λr O=>aU (by rw[mK,kF,mK,mK,mK];exact .tail _ O);have bW:∀r∈fS++R,aN r ((kO q.W::(eF++(hV dK.W::dW PY.W::wA KR.W::fS)))++R):=λr O=>(rO r O).mono λr O=>aO r (kE _ O);refine w8 (R':=((kO q.W::(eF++(hV dK.W::dW PY.W::wA KR.W::fS)))++R)) (by simp only[mK,kF]) ?_;apply e1∘GF∘yD;refine cF L ((kO q.W::(eF++(hV dK.W::dW PY.W::wA KR.W::fS)))++R) BG ?_;have e:N7 g p k sh t=(cU g {p with aL:=QN p.aL k sh} t,0):=by rw[N7,if_neg aZ,if_neg (by rw[V];decide)]
 exact⟨(⟨s,t,h,x.fU,dK.W,fJ,jS,iQ,(cU g {p with aL:=QN p.aL k sh} t).aC,q.W⟩:dS),kO q.W::(eF++(hV dK.W::dW PY.W::wA KR.W::fS)),by rw[e],by rw[e];exact fL,⟨fF.bO.mono bW,fF.held.mono bW,aO _ (kE _ (.head _)),sW.mono aO,dE.mono aO,tR.mono aO,aU (.head _)⟩,rfl,rfl⟩
def aTJ(g:mZ)(p:c0)(x:dS)(a z t:Int)(L:aW)(R:aP)(hP:Inv g p)(K:n7 g p x)(b8:EW x R):
 aM prog 48 [x.val,.int .i64 a,.int .i64 z,.int .i64 t].toArray L R (Qn g (N3 g p a z t) L R):=by
 refine cX 49 call48 func48 rfl rfl rfl ?_;apply(fC);intro dU;apply(dO);intro mF;apply p5∘GF;refine dN rfl Ww rfl ?_;rintro v E R' ⟨s,h,w,c,f,dK,bL,fS,rfl,fF,rfl,rfl⟩;apply(dO);intro lI;apply uI∘GF∘cJ;refine eD rfl (Pt x t _ _) ?_;apply(dD);refine aJ ?_ ?_<;>intro bI;·refine cC ?_;apply(Br);refine e7 h3 ?_;apply(a09);refine e7 h3 ?_;apply e1∘GF∘y4;refine cF L ((kO bL.W::hV dK.W::fS)++R) BG ?_;have aZ:sJ p t:=(RP K).1 EA;exact⟨(⟨s,x.time,h,x.fU,dK.W,w,c,f,x.aC,bL.W⟩:dS),kO bL.W::hV dK.W::fS,by rw[N3,if_pos aZ],by rw[N3,if_pos aZ];exact fF.is K,fF.VR (λr O=>aU (.tail _ (.tail _ O))) QH mL,rfl,rfl⟩
 have aZ:¬sJ p t:=λh=>absurd ((RP K).2 h) EA;have gJ:=GW aZ;have B6:=fF.is K;have rO:∀r∈fS++R,aN r (hV dK.W::(fS++R)):=λr O=>aU (.tail _ O);apply(Br);refine e7 h3 ?_;apply gI∘cJ;refine dN rfl (Ql g p (⟨s,x.time,h,x.fU,dK.W,w,c,f,x.aC,bL.W⟩:dS) bL lI t _ _ hP B6 (fF.bO.mono rO) mL (fF.gR.mono rO) (fF.b1.mono rO) (fF.fP.mono rO) fF.PS gJ) rfl ?_;rintro v E R' ⟨fJ,jS,iQ,q,eF,g7,fL,⟨sW,dE,tR⟩,rfl,rfl⟩;apply(j6);have IK:=hP.settle gJ.1 gJ.2;have dV:∀r∈hV dK.W::(fS++R),aN r (eF++(hV dK.W::(fS++R))):=λr O=>aU (kE _ O);have gY:∀r∈fS++R,aN r (eF++(hV dK.W::(fS++R))):=λr O=>(rO r O).mono dV;have zT:JS (⟨s,t,h,x.fU,dK.W,fJ,jS,iQ,(cU g p t).aC,q.W⟩:dS) (eF++(hV dK.W::(fS++R))):=JS.of IK fL (fF.bO.mono gY) (dV _ (.head _));have B5:mU s.c2.aE g.c2:=hH.MD fL.bO IK.MD;refine jR M [0,1,2,3,4,6,7,8,9,10,5,11,12,13,14,15,16,17] _ mixed aQ iP ?_;apply rS∘aFX∘nQ∘aHQ∘rS∘aD9;iterate 3 apply(j7)
 apply(aKk);rintro v E R' ⟨fl,rfl,iF,rfl,rfl⟩;refine⟨bC,hC,?_⟩;refine xZ rfl (aT3 s jS fl (cU g p t).aC a z t _ _ ⟨(fF.bO.mono gY).mono λr O=>aU (.tail _ O),dE.mono λr O=>aU (.tail _ O),aU (.head _)⟩) ?_;refine b7 jE rfl rfl rfl ?_;refine b7 z6 rfl rfl rfl ?_;refine b7 z6 rfl rfl rfl ?_;apply(uZ);intro GY;apply(R3);refine jI (bY (cC (cC ?_)));have qA:fl.l=iR g (cU g p t):=iF.trans (n7.iC fL);have xP:jS.l=(cU g p t).b1:=fL.b1;have ZK:tM s jS.l fl.l (cU g p t).aC a z t=tM g.bO (cU g p t).b1 (iR g (cU g p t)) (cU g p t).aC a z t:=by rw[hH.tM fL.bO,xP,qA]
 have a8w:wK s jS.l fl.l (cU g p t).aC a z t=wK g.bO (cU g p t).b1 (iR g (cU g p t)) (cU g p t).aC a z t:=by rw[hH.wK fL.bO,xP,qA]
 rw[ZK,a8w];obtain⟨e,V⟩:∃e,e=tM g.bO (cU g p t).b1 (iR g (cU g p t)) (cU g p t).aC a z t:=⟨_,rfl⟩;rw[<-V];have Z6:q.l.length<=400:=by have:=IK.gN;rw[<-fL.gN]at this;exact this
 apply nP∘pG;refine aJ ?_ ?_<;>intro cK;·
  refine cC ?_;refine sN (E:=⟨lI,(⟨s,t,h,x.fU,dK.W,fJ,jS,iQ,(cU g p t).aC,q.W⟩:dS).cells,132⟩::(q.L 282 fO.cells++_)) bC eX ?_;apply nP∘cJ;refine dN rfl (QL (⟨s,t,h,x.fU,dK.W,fJ,jS,iQ,(cU g p t).aC,q.W⟩:dS) q lI 7 z e _ _ g7 Z6) rfl ?_;rintro v E R' ⟨gP,KK,zP,rfl,rfl⟩;apply j6∘a0o;refine e7 h3 ?_;refine sN (R':=((kO gP.W::(eF++(hV dK.W::fS)))++R)) iP (λr O=>aU (by
   rw[mK,kF,mK]at O;rcases List.mem_cons.1 O with h|h;·rw[h];exact .head _
   ·exact .tail _ (.tail _ h))) ?_
  have aO:∀r∈(eF++(hV dK.W::(fS++R))),aN r ((kO gP.W::(eF++(hV dK.W::fS)))++R):=λr O=>aU a4D;have bW:∀r∈fS++R,aN r ((kO gP.W::(eF++(hV dK.W::fS)))++R):=λr O=>(gY r O).mono aO;apply e1∘GF∘yE;refine cF L ((kO gP.W::(eF++(hV dK.W::fS)))++R) BG ?_;have dH:N3 g p a z t=(sK (cU g p t) 7 z e,e):=by rw[N3,if_neg aZ];dsimp only;rw[<-V,if_pos cK]
  exact aEk
 apply gI∘aKa∘gF∘a7s∘j6;refine sN (E:=⟨lI,(⟨s,t,h,x.fU,dK.W,fJ,jS,iQ,wK g.bO (cU g p t).b1 (iR g (cU g p t)) (cU g p t).aC a z t,q.W⟩:dS).cells,132⟩::(q.L 282 fO.cells++_)) bC eX ?_;apply nP∘cJ;refine dN rfl (QL (⟨s,t,h,x.fU,dK.W,fJ,jS,iQ,wK g.bO (cU g p t).b1 (iR g (cU g p t)) (cU g p t).aC a z t,q.W⟩:dS) q lI 4 z a _ _ g7 Z6) rfl ?_;rintro v E R' ⟨gP,KK,zP,rfl,rfl⟩;apply j6∘a0o;refine e7 h3 ?_;refine sN (R':=((kO gP.W::(eF++(hV dK.W::fS)))++R)) iP (λr O=>aU (by
  rw[mK,kF,mK]at O;rcases List.mem_cons.1 O with h|h;·rw[h];exact .head _
  ·exact .tail _ (.tail _ h))) ?_
 have aO:∀r∈(eF++(hV dK.W::(fS++R))),aN r ((kO gP.W::(eF++(hV dK.W::fS)))++R):=λr O=>aU a4D;have bW:∀r∈fS++R,aN r ((kO gP.W::(eF++(hV dK.W::fS)))++R):=λr O=>(gY r O).mono aO;apply e1∘GF∘yD;refine cF L ((kO gP.W::(eF++(hV dK.W::fS)))++R) BG ?_;have dH:N3 g p a z t=(sK {(cU g p t)with aC:=wK g.bO (cU g p t).b1 (iR g (cU g p t)) (cU g p t).aC a z t} 4 z a,0):=by rw[N3,if_neg aZ];dsimp only;rw[<-V,if_neg cK]
 have ZO:n7 g {(cU g p t)with aC:=wK g.bO (cU g p t).b1 (iR g (cU g p t)) (cU g p t).aC a z t} (⟨s,t,h,x.fU,dK.W,fJ,jS,iQ,wK g.bO (cU g p t).b1 (iR g (cU g p t)) (cU g p t).aC a z t,q.W⟩:dS):={fL with aC:=rfl};exact⟨(⟨s,t,h,x.fU,dK.W,fJ,jS,iQ,wK g.bO (cU g p t).b1 (iR g (cU g p t)) (cU g p t).aC a z t,gP.W⟩:dS),kO gP.W::(eF++(hV dK.W::fS)),by rw[dH],by rw[dH];exact ZO.FY zP,⟨fF.bO.mono bW,fF.held.mono bW,(dV _ (.head _)).mono aO,sW.mono aO,dE.mono aO,tR.mono aO,aU (.head _)⟩,rfl,rfl⟩
def aUt(g:mZ)(p:c0)(x:dS)(a t:Int)(L:aW)(R:aP)(hP:Inv g p)(K:n7 g p x)(b8:EW x R):
 aM prog 49 [x.val,.int .i64 a,.int .i64 t].toArray L R (Qn g (NX g p a t) L R):=by
 refine cX 50 call49 func49 rfl rfl rfl ?_;apply(fC);intro e4;apply(dO);intro jN;apply p5∘GF;refine dN rfl Ww rfl ?_;rintro v E R' ⟨s,h,w,c,f,dK,bL,fS,rfl,fF,rfl,rfl⟩;apply(dO);intro mF;apply uI∘GF∘cJ;refine eD rfl (Pt x t _ _) ?_;apply(dD);refine aJ ?_ ?_<;>intro bI;·refine cC ?_;apply(Br);refine e7 h3 ?_;apply(a09);refine e7 h3 ?_;apply e1∘GF∘y4;refine cF L ((kO bL.W::hV dK.W::fS)++R) BG ?_;have aZ:sJ p t:=(RP K).1 EA;exact⟨(⟨s,x.time,h,x.fU,dK.W,w,c,f,x.aC,bL.W⟩:dS),kO bL.W::hV dK.W::fS,by rw[NX,if_pos aZ],by rw[NX,if_pos aZ];exact fF.is K,fF.VR (λr O=>aU (.tail _ (.tail _ O))) QH mL,rfl,rfl⟩
 have aZ:¬sJ p t:=λh=>absurd ((RP K).2 h) EA;have gJ:=GW aZ;have B6:=fF.is K;have rO:∀r∈fS++R,aN r (hV dK.W::(fS++R)):=λr O=>aU (.tail _ O);apply(Br);refine e7 h3 ?_;apply gI∘cJ;refine dN rfl (Ql g p (⟨s,x.time,h,x.fU,dK.W,w,c,f,x.aC,bL.W⟩:dS) bL mF t _ _ hP B6 (fF.bO.mono rO) mL (fF.gR.mono rO) (fF.b1.mono rO) (fF.fP.mono rO) fF.PS gJ) rfl ?_;rintro v E R' ⟨fJ,jS,iQ,q,eF,g7,fL,⟨sW,dE,tR⟩,rfl,rfl⟩;apply(j6);have IK:=hP.settle gJ.1 gJ.2;have dV:∀r∈hV dK.W::(fS++R),aN r (eF++(hV dK.W::(fS++R))):=λr O=>aU (kE _ O);have gY:∀r∈fS++R,aN r (eF++(hV dK.W::(fS++R))):=λr O=>(rO r O).mono dV;have zT:JS (⟨s,t,h,x.fU,dK.W,fJ,jS,iQ,(cU g p t).aC,q.W⟩:dS) (eF++(hV dK.W::(fS++R))):=JS.of IK fL (fF.bO.mono gY) (dV _ (.head _));have B5:mU s.c2.aE g.c2:=hH.MD fL.bO IK.MD;apply e1∘GQ∘E9;refine jR M [0,1,2,3,4,6,7,8,9,5,10,11,12,13,14,15,16] _ mixed aQ iP ?_;apply rS∘aFX∘nQ∘aHQ∘rS∘aD9∘j7∘j7∘aKk;rintro v E R' ⟨fl,rfl,iF,rfl,rfl⟩;refine⟨bC,hC,?_⟩;refine xZ rfl (aU9 s jS fl (cU g p t).aC a t _ _ ⟨(fF.bO.mono gY).mono λr O=>aU (.tail _ O),dE.mono λr O=>aU (.tail _ O),aU (.head _)⟩) ?_;refine b7 jE rfl rfl rfl ?_;refine b7 z6 rfl rfl rfl ?_;refine b7 z6 rfl rfl rfl ?_;apply(uZ);intro lI;apply(R3);refine jI (bY (cC (cC ?_)));have qA:fl.l=iR g (cU g p t):=iF.trans (n7.iC fL);have xP:jS.l=(cU g p t).b1:=fL.b1;have ZK:r6 s jS.l fl.l (cU g p t).aC a t=r6 g.bO (cU g p t).b1 (iR g (cU g p t)) (cU g p t).aC a t:=by rw[hH.r6 fL.bO,xP,qA]
 have a8w:xK s jS.l fl.l (cU g p t).aC a t=xK g.bO (cU g p t).b1 (iR g (cU g p t)) (cU g p t).aC a t:=by rw[hH.xK fL.bO,xP,qA]
 rw[ZK,a8w];obtain⟨e,V⟩:∃e,e=r6 g.bO (cU g p t).b1 (iR g (cU g p t)) (cU g p t).aC a t:=⟨_,rfl⟩;rw[<-V];have Z6:q.l.length<=400:=by have:=IK.gN;rw[<-fL.gN]at this;exact this
 apply nP∘pG;refine aJ ?_ ?_<;>intro cK;·
  refine cC ?_;refine sN (E:=⟨mF,(⟨s,t,h,x.fU,dK.W,fJ,jS,iQ,(cU g p t).aC,q.W⟩:dS).cells,132⟩::(q.L 282 fO.cells++_)) bC eX ?_;apply nP∘cJ;refine dN rfl (QL (⟨s,t,h,x.fU,dK.W,fJ,jS,iQ,(cU g p t).aC,q.W⟩:dS) q mF 7 (cU g p t).aC.eR e _ _ g7 Z6) rfl ?_;rintro v E R' ⟨gP,KK,zP,rfl,rfl⟩;apply j6∘a0o;refine e7 h3 ?_;refine sN (R':=((kO gP.W::(eF++(hV dK.W::fS)))++R)) iP (λr O=>aU (by
   rw[mK,kF,mK]at O;rcases List.mem_cons.1 O with h|h;·rw[h];exact .head _
   ·exact .tail _ (.tail _ h))) ?_
  have aO:∀r∈(eF++(hV dK.W::(fS++R))),aN r ((kO gP.W::(eF++(hV dK.W::fS)))++R):=λr O=>aU a4D;have bW:∀r∈fS++R,aN r ((kO gP.W::(eF++(hV dK.W::fS)))++R):=λr O=>(gY r O).mono aO;apply e1∘GF∘yE;refine cF L ((kO gP.W::(eF++(hV dK.W::fS)))++R) BG ?_;have dH:NX g p a t=(sK (cU g p t) 7 (cU g p t).aC.eR e,e):=by rw[NX,if_neg aZ];dsimp only;rw[<-V,if_pos cK]
  exact aEk
 apply gI∘aKa∘gF∘a7s∘j6;refine sN (E:=⟨mF,(⟨s,t,h,x.fU,dK.W,fJ,jS,iQ,xK g.bO (cU g p t).b1 (iR g (cU g p t)) (cU g p t).aC a t,q.W⟩:dS).cells,132⟩::(q.L 282 fO.cells++_)) bC eX ?_;apply nP∘cJ;refine dN rfl (QL (⟨s,t,h,x.fU,dK.W,fJ,jS,iQ,xK g.bO (cU g p t).b1 (iR g (cU g p t)) (cU g p t).aC a t,q.W⟩:dS) q mF 5 (cU g p t).aC.eR a _ _ g7 Z6) rfl ?_;rintro v E R' ⟨gP,KK,zP,rfl,rfl⟩;apply j6∘a0o;refine e7 h3 ?_;refine sN (R':=((kO gP.W::(eF++(hV dK.W::fS)))++R)) iP (λr O=>aU (by
  rw[mK,kF,mK]at O;rcases List.mem_cons.1 O with h|h;·rw[h];exact .head _
  ·exact .tail _ (.tail _ h))) ?_
 have aO:∀r∈(eF++(hV dK.W::(fS++R))),aN r ((kO gP.W::(eF++(hV dK.W::fS)))++R):=λr O=>aU a4D;have bW:∀r∈fS++R,aN r ((kO gP.W::(eF++(hV dK.W::fS)))++R):=λr O=>(gY r O).mono aO;apply e1∘GF∘yD;refine cF L ((kO gP.W::(eF++(hV dK.W::fS)))++R) BG ?_;have dH:NX g p a t=(sK {(cU g p t)with aC:=xK g.bO (cU g p t).b1 (iR g (cU g p t)) (cU g p t).aC a t} 5 (cU g p t).aC.eR a,0):=by rw[NX,if_neg aZ];dsimp only;rw[<-V,if_neg cK]
 have ZO:n7 g {(cU g p t)with aC:=xK g.bO (cU g p t).b1 (iR g (cU g p t)) (cU g p t).aC a t} (⟨s,t,h,x.fU,dK.W,fJ,jS,iQ,xK g.bO (cU g p t).b1 (iR g (cU g p t)) (cU g p t).aC a t,q.W⟩:dS):={fL with aC:=rfl};exact⟨(⟨s,t,h,x.fU,dK.W,fJ,jS,iQ,xK g.bO (cU g p t).b1 (iR g (cU g p t)) (cU g p t).aC a t,gP.W⟩:dS),kO gP.W::(eF++(hV dK.W::fS)),by rw[dH],by rw[dH];exact ZO.FY zP,⟨fF.bO.mono bW,fF.held.mono bW,(dV _ (.head _)).mono aO,sW.mono aO,dE.mono aO,tR.mono aO,aU (.head _)⟩,rfl,rfl⟩
end Go.Proofs.YtdiajbdaadlfhaaGreatDoor
namespace Go.Proofs.YtdiajbdaadlfhaaGreatDoor
open Go.Aw Go Go.Proofs.Tryz
section
attribute [local irreducible] cO dG dP aM cI dR fA e2 e5 fB eQ e9 J.L
def Yg(h:A->B:=by exact aA NP rfl):=h
def aZb:∀(n:Nat) {l:List Int} (d:Int),l.length=n->uB l->∀f∈(kV l d).c9,uB f.data:=by
 intro n;induction n using Nat.strongRecOn with
 |ind n cA=>
  intro l d bA aT f aH;rcases BC (l=[])with h|h;·subst h;rw[Rw]at aH;cases aH
  ·
   have WJ:=List.length_pos_iff.2 h;have yH:uB l.tail:=λx K=>aT x (aB1 K);have Fb:=cA l.tail.length (by rw[My];omega) (d+1) rfl yH;rcases BC (z8 l)with G|G;·rw[Bp h (.inl G)]at aH;exact Fb f aH
   ·
    rcases BC (y0 l)with U|U;·rw[Yk h G U]at aH;cases aH
    ·
     rcases BC (pZ (HZ l)=LY l)with aO|aO;·
      rw[Qu h G U aO]at aH;rcases List.mem_cons.1 aH with aH|aH;·rw[aH];intro x K;have K:x∈(l.take (4+lM l)).drop 4:=K;exact aT x (Wh (Gk K))
      ·exact cA (l.drop (lM l+6)).length a4K d rfl (λx K=>aT x (Gk K)) f aH
     ·rw[Bp h (.inr ⟨U,aO⟩)]at aH;exact Fb f aH
def aT4:∀(n:Nat) {l:List Int} (d:Int),l.length=n->(kV l d).c9.length<=n:=by
 intro n;induction n using Nat.strongRecOn with
 |ind n cA=>
  intro l d bA;rcases BC (l=[])with h|h;·subst h;rw[Rw];exact rW _
  ·
   have WJ:=List.length_pos_iff.2 h;have Fb:=cA l.tail.length (by rw[My];omega) (d+1) rfl;rw[My]at Fb;rcases BC (z8 l)with G|G;·rw[Bp h (.inl G)];omega
   ·
    rcases BC (y0 l)with U|U;·rw[Yk h G U];exact rW _
    ·
     rcases BC (pZ (HZ l)=LY l)with aO|aO;·rw[Qu h G U aO];have:=cA (l.drop (lM l+6)).length a4K d rfl;rw[F8]at this;show(_::_).length<=n;rw[kL];omega
     ·rw[Bp h (.inr ⟨U,aO⟩)];omega
def aS5{S:List g0}{t:Int}{m:List e6}{l:List xE}{k:Nat}{x:xE}(h:l[k]?=some x):(l.take (k+1)).foldl (B0 S t) m=B0 S t ((l.take k).foldl (B0 S t) m) x:=by rw[BA,h,NM];rfl
def P4:dS:=⟨⟨⟨⟨⟨none,0,[]⟩,⟨none,0,[]⟩⟩,⟨none,0,[]⟩,⟨none,0,[]⟩⟩,⟨none,0,[]⟩,⟨none,0,[]⟩,⟨none,0,[]⟩,⟨none,0,[]⟩⟩,0,⟨none,0,[]⟩,0,⟨none,0,[]⟩,⟨none,0,[]⟩,⟨none,0,[]⟩,⟨⟨none,0,[]⟩,⟨none,0,[]⟩,0⟩,⟨0,0,0,0,0⟩,⟨none,0,[]⟩⟩
def aDA{S:List g0}{f:xE}{t:Int}(h:yY S f t=0):0<=CX S f.hW/\(CX S f.hW).toNat<S.length:=by
 rw[yY]at h;split at h;·cases h
 split at h;·cases h
 rename_i U;have:=aVa (S:=S) (iZ:=f.hW) D;exact⟨this.2,this.1⟩
def aXX(g:mZ)(p:c0)(x:dS)(vK:bP Int)(t:Int)(L:aW)(R:aP)(hP:Inv g p)(K:n7 g p x)(b8:EW x R)(b1K:aN (k3 vK) R)(aLD:uB vK.l)(aLH:vK.l.length<=100000)(KH:0<=p.fU/\p.fU<=1152921504606846976):
 aM prog 45 [x.val,vK.val,.int .i64 t].toArray L R (Qn g (RC g p vK.l t) L R):=by
 have Ad:x.fU=p.fU:=K.fU;refine cX 65 call45 func45 rfl rfl rfl ?_;apply(fC);intro e4;apply(dO);intro jN;apply p5∘Yg;refine dN rfl Ww rfl ?_;rintro v E R' ⟨s,h,w,c,f,dK,bL,fS,rfl,fF,rfl,rfl⟩;apply(dO);intro mF;apply uI∘Yg∘cJ;refine eD rfl (Pt x t _ _) ?_;apply(dD);refine aJ ?_ ?_<;>intro bI;·refine cC ?_;refine jW (T:=207) (f:=e6.cells) (aI:=4) dK [] cL bH aX fF.Fm eW ?_;refine e7 h3 ?_;refine jW (T:=282) (f:=fO.cells) (aI:=4) bL [] cL bH aX fF.PS eW ?_;refine e7 h3 ?_;apply e1∘Yg∘y4;refine cF L ((kO bL.W::hV dK.W::fS)++R) BG ?_;have aZ:sJ p t:=(RP K).1 EA;exact⟨(⟨s,x.time,h,x.fU,dK.W,w,c,f,x.aC,bL.W⟩:dS),kO bL.W::hV dK.W::fS,by rw[RC,if_pos aZ],by rw[RC,if_pos aZ];exact fF.is K,fF.VR (λr O=>aU (.tail _ (.tail _ O))) QH mL,rfl,rfl⟩
 have aZ:¬sJ p t:=λh=>absurd ((RP K).2 h) EA;have gJ:=GW aZ;have B6:=fF.is K;have a2n:h.l=p.held:=B6.held;have b2K:=hP.held;have qB:s.e8.l=g.bO.e8.l:=hH.TP B6.bO;have IZ:=hP.Gf.len;have Sy:uB (h.l++vK.l):=λy bB=>by
  rcases List.mem_append.1 bB with bB|bB;·exact b2K.1 y (by rw[<-a2n];exact bB)
  ·exact aLD y bB
 have b9H:dK.l.length=g.bO.e8.l.length:=by rw[show dK.l=p.fN from B6.fN];exact hP.fN
 apply gI∘C6∘gQ;refine dN rfl (aYx h vK x.fU _ _ fF.held (b1K.mono λr O=>aU (kE _ O)) Sy D (by rw[a2n];omega)) rfl ?_;rintro v E R' ⟨I3,c9,rfl,⟨b38,b3Y⟩,b39,aAj,aLZ,rfl,b1n⟩;have qA:kV (h.l++vK.l) x.fU=kV (p.held++vK.l) p.fU:=by rw[a2n,Ad]
 have b9B:c9.l.length<=200000:=by have G:=aT4 _ (l:=h.l++vK.l) x.fU rfl;rw[<-aAj,pU,hL,a2n]at G;omega
 have aLJ:=aZb _ (l:=h.l++vK.l) x.fU rfl Sy;rw[<-aAj]at aLJ;refine aA jE rfl ?_;apply(OG);intro jB;apply l5∘tH∘lG∘gF;refine OR M rfl rfl rfl rfl qV aK aK aK ?_;apply(yQ);refine jW (T:=216) (f:=nO.cells) (aI:=3) c9 (c9.l.map nO.sub) cL bH aX b3Y (λs aF=>by obtain⟨y,bB,rfl⟩:=List.mem_map.1 aF;exact aLZ y bB) ?_;refine e7 h3 ?_;refine jW (T:=5) (f:=s8) (aI:=1) I3 [] cL bH aX b38 eW ?_;refine e7 h3 ?_;obtain⟨p1,VZ⟩:∃p1,p1=k3 I3.W::aJd c9.W::R':=⟨_,rfl⟩;have PC:∀r∈fS++R,aN r p1:=λr O=>(b1n r O).mono λr O=>aU (by rw[VZ];exact .tail _ (.tail _ O));have b36:aN (k3 I3.W) p1:=aU (by rw[VZ];exact .head _);have b3X:aN (aJd c9.W) p1:=aU (by rw[VZ];exact .tail _ (.head _));have b2i:∀y∈c9.l,aN (k3 y.data) p1:=λy bB=>(aLZ y bB).mono λr O=>aU (by rw[VZ];exact .tail _ (.tail _ O));have b4K:=fF.bO.e8.mono PC;refine w8 (show _=p1 by rw[VZ]) ?_;refine Jf b3X λb9A=>?_;refine sN (E:=⟨mF,(⟨s,x.time,I3.W,(kV (h.l++vK.l) x.fU).fU,dK.W,w,c,f,x.aC,bL.W⟩:dS).cells,132⟩::(bL.L 282 fO.cells++(dK.L 207 e6.cells++(⟨jN,P4.cells,132⟩::⟨e4,x.cells,132⟩::L)))) bC eX ?_;apply e1∘r3;refine e3 [(2,.int _ _),(6,.pointer _),(8,.pointer _),(30,.slice _ _ _),(31,.int _ _),(32,.int _ _)] cB λg9=>?_;refine m6 ([12,13,14]++dJ 32 30) ((⟨λg=>[(32,.int .i64 ((g.1.1:Nat):Int))],λg=>⟨mF,(⟨s,x.time,I3.W,(kV (h.l++vK.l) x.fU).fU,dK.W,w,c,f,x.aC,bL.W⟩:dS).cells,132⟩::(bL.L 282 fO.cells++((⟨dK.o,g.1.2⟩:J e6).L 207 e6.cells++(⟨jN,P4.cells,132⟩::⟨e4,x.cells,132⟩::L))),λ_=>p1,λg=>c9.l.length-g.1.1⟩:e0 {q:Nat×List e6//q.1<=c9.l.length/\q.2=((c9.l.map nO.n5).take q.1).foldl (B0 g.bO.e8.l t) p.fN})) (⟨(0,dK.l),by dsimp only;omega,B6.fN⟩) ?_;rintro⟨⟨k,HM⟩,Y,B8⟩ c1;try dsimp only
 dsimp only at Y B8;have IV:HM.length=dK.l.length:=by rw[B8,(a7V (S:=g.bO.e8.l) (t:=t) _ hP.Ah).2,show dK.l=p.fN from B6.fN]
 have b3f:(⟨dK.o,HM⟩:J e6).ok 4 e6.cells:=J.tU bH fF.Fm IV;apply(gU);refine aJ ?_ ?_<;>intro cK;·
  have bE:=bR (l:=c9.l) (k:=k) default D;obtain⟨bK,lB⟩:∃bK,bK=c9.l.getD k default:=⟨_,rfl⟩;rw[<-lB]at bE;have a2l:=hS bE;have Em:(c9.l.map nO.n5)[k]?=some bK.n5:=by rw[pW,bE];rfl
  have a91:=aS5 (S:=g.bO.e8.l) (t:=t) (m:=p.fN) Em;rw[<-B8]at a91;have PM:uB bK.data.l:=aLJ bK.n5 (hS Em);apply(jK);refine aA rF rfl ?_;apply Ar∘dO;intro rM;apply p6∘GQ;refine aA qW rfl ?_;apply(cJ);refine dN rfl (aUJ s.e8 bK t _ _ b4K (b2i bK a2l) PM (by rw[qB];omega)) rfl ?_;rintro v E R' ⟨m,rfl,a1,rfl,rfl⟩;refine aA jE rfl ?_;apply(OG);intro zH;apply l5∘q4∘BQ;apply lR (aD:=[_,_,_,_,_,_]) (j:=2) (b4:=47) rfl rfl aK rfl b2 rfl;·intro iM;replace iM:=cP iM;exact(gB∘jM) K9
  intro o7;apply(dD);refine aJ ?_ ?_<;>intro dE;·(have Tk:yY g.bO.e8.l bK.n5 t=0:=by rw[<-qB];exact dE.1);have a9U:=a1 dE.1;rw[qB]at a9U;(have SZ:m.qT=CX g.bO.e8.l bK.n5.hW:=by rw[a9U];rfl);have a2h:=aDA Tk;have SY:=bR (l:=HM) (k:=m.qT.toNat) default (by rw[SZ];omega);(have b9u:0<=m.qT:=by omega);apply e1∘nZ∘vX;refine aA (iV M ((⟨dK.o,HM⟩:J e6)) _ rfl rfl ((show _=Value.slice _ _ _ from rfl).trans (by simp only[J.val,IV])) rfl bS (i:=m.qT.toNat) c7 iY) rfl ?_;refine mO (N4 M ((⟨dK.o,HM⟩:J e6)) (m) rfl rfl rfl rfl cL bS bH bS (s6 rfl) aK aK) ?_;rintro v E R' ⟨rfl,rfl⟩;apply(tF);exact eG ⟨(k+1,HM.set m.qT.toNat m),by dsimp only;omega,by dsimp only;rw[a91,B0,if_pos Tk,<-a9U,SZ]⟩
  apply(k9);exact lP ⟨(k+1,HM),by dsimp only;omega,by
  dsimp only;rw[a91,B0,if_neg];intro Tk;have aLX:yY s.e8.l bK.n5 t=0:=by rw[qB];exact Tk
  have a2h:=aDA Tk;have SZ:m.qT=CX g.bO.e8.l bK.n5.hW:=by rw[a1 aLX,qB];rfl
  rcases dE with VX|VX;·exact VX aLX
  ·exact VX (by rw[SZ];omega)⟩ hM cB bC eX kM
 obtain rfl:k=c9.l.length:=by omega
 have pS:(c9.l.map nO.n5).take c9.l.length=(kV (p.held++vK.l) p.fU).c9:=by rw[<-qA,<-aAj,yV (by rw[pU];exact gS _)]
 rw[pS]at B8;have MO:=hP.SI aLD t;have a9u:(⟨dK.o,HM⟩:J e6).W.val=dK.W.val:=by simp only[J.W,bP.val,IV]
 refine jW (T:=207) (f:=e6.cells) (aI:=4) (⟨dK.o,HM⟩:J e6) [] cL bH aX b3f eW ?_;refine e7 h3 ?_;refine e7 (E:=⟨mF,(⟨s,x.time,I3.W,(kV (h.l++vK.l) x.fU).fU,(⟨dK.o,HM⟩:J e6).W,w,c,f,x.aC,bL.W⟩:dS).cells,132⟩::(bL.L 282 fO.cells++(⟨jN,P4.cells,132⟩::⟨e4,x.cells,132⟩::L))) (by simp only[dS.cells,a9u]) ?_;have a9l:n7 g (SI g p vK.l t) (⟨s,x.time,I3.W,(kV (h.l++vK.l) x.fU).fU,(⟨dK.o,HM⟩:J e6).W,w,c,f,x.aC,bL.W⟩:dS):={B6 with held:=by show I3.l=_;rw[b39,qA];rfl,fU:=by show(kV (h.l++vK.l) x.fU).fU=_;rw[qA];rfl,fN:=B8};obtain⟨uE,ZN⟩:∃uE,uE=hV (⟨dK.o,HM⟩:J e6).W::p1:=⟨_,rfl⟩;have aMj:aN (hV (⟨dK.o,HM⟩:J e6).W) uE:=aU (by rw[ZN];exact .head _);have aLm:∀r∈p1,aN r uE:=λr O=>aU (by rw[ZN];exact .tail _ O);have rO:∀r∈fS++R,aN r uE:=λr O=>(PC r O).mono aLm;refine w8 (show _=uE by rw[ZN]) ?_;apply oS∘cJ;refine dN rfl (Ql g (SI g p vK.l t) (⟨s,x.time,I3.W,(kV (h.l++vK.l) x.fU).fU,(⟨dK.o,HM⟩:J e6).W,w,c,f,x.aC,bL.W⟩:dS) bL mF t _ _ MO a9l (fF.bO.mono rO) aMj (fF.gR.mono rO) (fF.b1.mono rO) (fF.fP.mono rO) fF.PS gJ) rfl ?_;rintro v E R' ⟨fJ,jS,iQ,q,eF,g7,fL,⟨sW,dE,tR⟩,rfl,rfl⟩;apply(j6);refine jW (T:=282) (f:=fO.cells) (aI:=4) q [] cL bH aX g7 eW ?_;refine e7 h3 ?_;have aO:∀r∈eF++uE,aN r ((kO q.W::(eF++uE))++R):=λr O=>aU (.tail _ (oI _ O));have ZJ:∀r∈uE,aN r ((kO q.W::(eF++uE))++R):=λr O=>aO r (kE _ O);have bW:∀r∈fS++R,aN r ((kO q.W::(eF++uE))++R):=λr O=>(rO r O).mono ZJ;apply e1∘Yg∘yD;refine kN (E:=L) (R':=(kO q.W::(eF++uE))++R) BG ?aG ?b3 ?b8;case aG=>
  have dH:RC g p vK.l t=(cU g (SI g p vK.l t) t,0):=by rw[RC,if_neg aZ]
  exact⟨(⟨s,t,I3.W,(kV (h.l++vK.l) x.fU).fU,(⟨dK.o,HM⟩:J e6).W,fJ,jS,iQ,(cU g (SI g p vK.l t) t).aC,q.W⟩:dS),kO q.W::(eF++uE),by rw[dH],by rw[dH];exact fL,⟨fF.bO.mono bW,(b36.mono aLm).mono ZJ,aMj.mono ZJ,sW.mono aO,dE.mono aO,tR.mono aO,aU (.head _)⟩,rfl,rfl⟩
 case b3=>exact bC
 case b8=>
  exact λr O=>by
   rcases List.mem_append.1 O with h|h;·exact aU h
   ·exact(rO r (kE _ h)).mono λr O=>aU (.tail _ (kE _ O))
def Pw(h:A->B:=by exact aA NP rfl):=h
def aDM(h:A->B:=by exact jW (T:=207) (f:=e6.cells) (aI:=4) dK [] cL bH aX fF.Fm eW):=h
def aDS(h:A->B:=by exact jW (T:=282) (f:=fO.cells) (aI:=4) gP [] cL bH aX KK eW):=h
def aDk(h:A->B:=by exact Ru rfl rfl rfl rfl qV aK aK aK bC):=h
structure aDd(f DJ:jG):Prop where
 aL:f.b6.l=DJ.b6.l
 c4:f.b0.l=DJ.b0.l
 cV:f.eB=DJ.eB
section
variable{s s':dY}{f DJ:jG}(h:hH s s')(k:aDd f DJ)(c:List cY)(fl:List bG)(r:k8)(t:Int)
include k in
def Ir(z:Int):yF f z=yF DJ z:=by rw[yF,yF,k.aL,k.c4,k.cV]
include h k
def aV5:sI s c fl r f t=sI s' c fl r DJ t:=by simp only[sI,hH.tX h,hH.u0 h,hH.aNq h,k.aL,k.c4,k.cV,Ir k]
def Yp:xD s c fl r f t=xD s' c fl r DJ t:=by simp only[xD,aV5 h k,k.aL,k.c4,k.cV,Ir k]
def aV1:N6 s c fl r f t=N6 s' c fl r DJ t:=by simp only[N6,Yp h k,RN,k.c4,Ir k]
def aV4:LF s c fl r f t=LF s' c fl r DJ t:=by simp only[LF,Yp h k,RN,k.c4,Ir k]
def aYA:MC s c fl r f t=MC s' c fl r DJ t:=by simp only[MC,Yp h k,k.aL,Ir k]
end
def aTM(g:mZ)(p:c0)(x:dS)(t:Int)(L:aW)(R:aP)(hP:Inv g p)(K:n7 g p x)(b8:EW x R):
 aM prog 50 [x.val,.int .i64 t].toArray L R (Qn g (OV g p t) L R):=by
 refine cX 67 call50 func50 rfl rfl rfl ?_;apply(fC);intro eN;apply(dO);intro dU;apply p5∘Pw;refine dN rfl Ww rfl ?_;rintro v E R' ⟨s,h,w,c,f,dK,bL,fS,rfl,fF,rfl,rfl⟩;apply(dO);intro jN;apply uI∘Pw∘cJ;refine eD rfl (Pt x t _ _) ?_;apply(dD);refine aJ ?_ ?_<;>intro bI;·refine cC ?_;apply(aDM);refine e7 h3 ?_;refine jW (T:=282) (f:=fO.cells) (aI:=4) bL [] cL bH aX fF.PS eW ?_;refine e7 h3 ?_;apply e1∘Pw∘y4;refine cF L ((kO bL.W::hV dK.W::fS)++R) BG ?_;have aZ:sJ p t:=(RP K).1 EA;exact⟨(⟨s,x.time,h,x.fU,dK.W,w,c,f,x.aC,bL.W⟩:dS),kO bL.W::hV dK.W::fS,by rw[OV,if_pos aZ],by rw[OV,if_pos aZ];exact fF.is K,fF.VR (λr O=>aU (.tail _ (.tail _ O))) QH mL,rfl,rfl⟩
 have aZ:¬sJ p t:=λh=>absurd ((RP K).2 h) EA;have gJ:=GW aZ;have B6:=fF.is K;have rO:∀r∈fS++R,aN r (hV dK.W::(fS++R)):=λr O=>aU (.tail _ O);apply(aDM);refine e7 h3 ?_;apply gI∘cJ;refine dN rfl (Ql g p (⟨s,x.time,h,x.fU,dK.W,w,c,f,x.aC,bL.W⟩:dS) bL jN t _ _ hP B6 (fF.bO.mono rO) mL (fF.gR.mono rO) (fF.b1.mono rO) (fF.fP.mono rO) fF.PS gJ) rfl ?_;rintro v E R' ⟨fJ,jS,iQ,q,eF,g7,fL,⟨sW,dE,tR⟩,rfl,rfl⟩;apply(j6);have IK:=hP.settle gJ.1 gJ.2;have dV:∀r∈hV dK.W::(fS++R),aN r (eF++(hV dK.W::(fS++R))):=λr O=>aU (kE _ O);have gY:∀r∈fS++R,aN r (eF++(hV dK.W::(fS++R))):=λr O=>(rO r O).mono dV;have zT:JS (⟨s,t,h,x.fU,dK.W,fJ,jS,iQ,(cU g p t).aC,q.W⟩:dS) (eF++(hV dK.W::(fS++R))):=JS.of IK fL (fF.bO.mono gY) (dV _ (.head _));have B5:mU s.c2.aE g.c2:=hH.MD fL.bO IK.MD;have xP:jS.l=(cU g p t).b1:=fL.b1;have V8:aDd iQ (wW g (cU g p t)):=⟨fL.aL,fL.c4,fL.cV⟩;have xW:=IK.Gf.len;have FO:=IK.Ss;have FT:jS.l.length<=1000:=by rw[xP,IK.MI];omega
 have A1:iQ.b6.l.length<=1000:=by rw[V8.aL];exact HU FO.CN aX
 have b3k:iQ.b0.l.length<=1000:=by rw[V8.c4];exact HU FO.BI aX
 apply e1∘GQ∘E9;refine jR M [0,1,2,3,4,6,7,8,9,10,5,11,12,13,14,15,16,17,18,19,20,21,22] _ mixed aQ iP ?_;apply(rS);refine b7 EC rfl rfl rfl ?_;apply(nQ);refine b7 NP rfl rfl rfl ?_;apply(rS);refine b7 X0 rfl rfl rfl ?_;apply(rS);refine b7 qW rfl rfl rfl ?_;apply(j7);refine zD rfl aPW rfl rfl ?_;rintro v E R' ⟨fl,rfl,iF,rfl,rfl⟩;refine⟨bC,hC,?_⟩;refine zD rfl (aZO s jS fl (cU g p t).aC iQ t _ _ ⟨(fF.bO.mono gY).mono λr O=>aU (.tail _ O),dE.mono λr O=>aU (.tail _ O),aU (.head _)⟩ (tR.mono λr O=>aU (.tail _ O)) ⟨FT,A1,b3k⟩) rfl rfl ?_;rintro v E R' ⟨Vt,fG,KS,sD,cV,rfl,⟨Ld,b4g,b4r⟩,Sz,rfl,b1m⟩;refine⟨bC,hC,?_⟩;refine b7 jE rfl rfl rfl ?_;iterate 4 refine b7 z6 rfl rfl rfl ?_
 apply(uZ);intro mF;apply(uZ);intro lI;apply(uY);refine b7 (qG K8) rfl rfl rfl ?_;apply(R3);refine jI (bY (cC (cC ?_)));have qA:fl.l=iR g (cU g p t):=iF.trans (n7.iC fL);have a9q:xD s jS.l fl.l (cU g p t).aC iQ t=xD g.bO (cU g p t).b1 (iR g (cU g p t)) (cU g p t).aC (wW g (cU g p t)) t:=by rw[Yp fL.bO V8,xP,qA]
 have PK:Vt=N6 g.bO (cU g p t).b1 (iR g (cU g p t)) (cU g p t).aC (wW g (cU g p t)) t:=by rw[Sz.aC,aV1 fL.bO V8,xP,qA]
 have b1S:fG.l=LF g.bO (cU g p t).b1 (iR g (cU g p t)) (cU g p t).aC (wW g (cU g p t)) t:=by rw[Sz.b1,aV4 fL.bO V8,xP,qA]
 have b1V:KS.l=MC g.bO (cU g p t).b1 (iR g (cU g p t)) (cU g p t).aC (wW g (cU g p t)) t:=by rw[Sz.aL,aYA fL.bO V8,xP,qA]
 have b1W:sD.l=g.c4:=Sz.c4.trans V8.c4;have b1T:cV=g.cV:=Sz.cV.trans V8.cV;rw[a9q];obtain⟨e,V⟩:∃e,e=xD g.bO (cU g p t).b1 (iR g (cU g p t)) (cU g p t).aC (wW g (cU g p t)) t:=⟨_,rfl⟩;rw[<-V]at a9q|-;have Z6:q.l.length<=400:=by have:=IK.gN;rw[<-fL.gN]at this;exact this
 refine jW (T:=3) (f:=aR) (aI:=1) sD [] cL bH aX b4r eW ?_;refine e7 h3 ?_;refine jW (T:=143) (f:=cH.cells) (aI:=5) KS [] cL bH aX b4g eW ?_;refine e7 h3 ?_;refine jW (T:=141) (f:=cY.cells) (aI:=3) fG [] cL bH aX Ld eW ?_;refine e7 h3 ?_;obtain⟨oL,DL⟩:∃oL,oL=AQ fG.W::wA KS.W::dW sD.W::R':=⟨_,rfl⟩;have KF:∀r∈(eF++(hV dK.W::(fS++R))),aN r oL:=λr O=>(b1m r (.tail _ O)).mono λr O=>aU (by rw[DL];exact .tail _ (.tail _ (.tail _ O)));have b33:aN (AQ fG.W) oL:=aU (by rw[DL];exact .head _);have b35:pY ⟨KS.W,sD.W,cV⟩ oL:=⟨aU (by rw[DL];exact .tail _ (.head _)),aU (by rw[DL];exact .tail _ (.tail _ (.head _)))⟩;have a8D:∀r∈fS++R,aN r oL:=λr O=>(gY r O).mono KF;refine w8 (show _=oL by rw[DL]) ?_;apply nP∘pG;refine aJ ?_ ?_<;>intro cK;·
  refine cC ?_;refine sN (E:=⟨jN,(⟨s,t,h,x.fU,dK.W,fJ,jS,iQ,(cU g p t).aC,q.W⟩:dS).cells,132⟩::(q.L 282 fO.cells++_)) bC eX ?_;apply nP∘cJ;refine dN rfl (QL (⟨s,t,h,x.fU,dK.W,fJ,jS,iQ,(cU g p t).aC,q.W⟩:dS) q jN 7 (cU g p t).aC.eR e _ _ g7 Z6) rfl ?_;rintro v E R' ⟨gP,KK,zP,rfl,rfl⟩;apply j6∘aDS;refine e7 h3 ?_;have aO:∀r∈(eF++(hV dK.W::(fS++R))),aN r ((kO gP.W::oL)++R):=λr O=>(KF r O).mono λr O=>aU (.tail _ (oI _ O));have bW:∀r∈fS++R,aN r ((kO gP.W::oL)++R):=λr O=>(gY r O).mono aO;apply e1∘Pw∘yE;refine kN (E:=L) (R':=(kO gP.W::oL)++R) BG ?aG ?b3 ?b8;case aG=>(have dH:OV g p t=(sK (cU g p t) 7 (cU g p t).aC.eR e,e):=by rw[OV,if_neg aZ];dsimp only;rw[<-V,if_pos cK]);exact⟨(⟨s,t,h,x.fU,dK.W,fJ,jS,iQ,(cU g p t).aC,gP.W⟩:dS),kO gP.W::oL,by rw[dH],by rw[dH];exact fL.FY zP,⟨fF.bO.mono bW,fF.held.mono bW,(dV _ (.head _)).mono aO,sW.mono aO,dE.mono aO,tR.mono aO,aU (.head _)⟩,rfl,rfl⟩
  case b3=>exact bC
  case b8=>
   exact λr O=>by
    rcases List.mem_append.1 O with h|h;·exact aU h
    ·exact(a8D r (kE _ h)).mono λr O=>aU (.tail _ O)
 have SQ:e=0:=Decidable.not_not.1 cK;have IP:sI s jS.l fl.l (cU g p t).aC iQ t=0:=by
  have VX:xD s jS.l fl.l (cU g p t).aC iQ t=0:=a9q.trans SQ;rw[xD]at VX;split at VX;·omega
  ·rename_i vN;exact Decidable.not_not.1 vN
 obtain⟨WW,DT,b5m⟩:=aEi IP;apply gI∘gB∘gF;refine aA qW rfl ?_;apply(cJ);refine dN rfl (aFE jS iQ (cU g p t).aC.eR _ _ (dE.mono KF) (tR.mono KF) b5m D DT) rfl ?_;rintro v E R' ⟨rfl,rfl,a9g⟩;obtain⟨p1,PC⟩:∃p1,p1=R':=⟨_,rfl⟩;rw[<-PC]at a9g|-;refine aA jE rfl ?_;apply UZ∘l6∘j6;refine jV M [59,60] [0,1,2] [3,4,5,6,7,8] (_) _ mixed aQ bC (by(repeat(first|apply List.Sublist.cons (a:=bQ.mk jN _ _)|apply List.Sublist.cons_cons));exact oU _) ?_;refine fE X0 rfl rfl rfl rfl ?_;refine p4 qX rfl rfl rfl rfl ?_;refine p4 qW rfl rfl rfl rfl ?_;apply zY∘rS∘aDk∘Cn∘rS∘aDk∘KU;have Ef:yF iQ (cU g p t).aC.eR=yF (wW g (cU g p t)) (cU g p t).aC.eR:=Ir V8 _;refine sN (E:=⟨jN,(⟨s,t,h,x.fU,dK.W,fJ,fG.W,⟨KS.W,sD.W,cV⟩,Vt,q.W⟩:dS).cells,132⟩::(q.L 282 fO.cells++_)) bC eX ?_;apply(nP);refine dN rfl (QL (⟨s,t,h,x.fU,dK.W,fJ,fG.W,⟨KS.W,sD.W,cV⟩,Vt,q.W⟩:dS) q jN 6 (yF iQ (cU g p t).aC.eR) 0 _ _ g7 Z6) rfl ?_;rintro v E R' ⟨gP,KK,zP,rfl,rfl⟩;apply j6∘aDS;refine e7 h3 ?_;obtain⟨uE,ZN⟩:∃uE,uE=kO gP.W::p1:=⟨_,rfl⟩;refine w8 (show _=uE by rw[ZN]) ?_;have a2K:aN (kO gP.W) (uE++R):=aU (by rw[ZN];exact .head _);have b0H:∀r∈p1,aN r (uE++R):=λr O=>aU (by rw[ZN];exact .tail _ (oI _ O));have ZJ:∀r∈oL,aN r (uE++R):=λr O=>(a9g r O).mono b0H;have aK0:∀r∈(eF++(hV dK.W::(fS++R))),aN r (uE++R):=λr O=>(KF r O).mono ZJ;have bW:∀r∈fS++R,aN r (uE++R):=λr O=>(a8D r O).mono ZJ;have Eb:∀r∈R,aN r uE:=λr O=>((a8D r (kE _ O)).mono a9g).mono λr O=>aU (by rw[ZN];exact .tail _ O);apply e1∘Pw∘yD;refine kN (E:=L) (R':=uE++R) BG ?aG ?b3 ?b8;case aG=>
  have dH:OV g p t=(sK {(cU g p t)with aC:=N6 g.bO (cU g p t).b1 (iR g (cU g p t)) (cU g p t).aC (wW g (cU g p t)) t,b1:=LF g.bO (cU g p t).b1 (iR g (cU g p t)) (cU g p t).aC (wW g (cU g p t)) t,aL:=MC g.bO (cU g p t).b1 (iR g (cU g p t)) (cU g p t).aC (wW g (cU g p t)) t} 6 (yF (wW g (cU g p t)) (cU g p t).aC.eR) 0,0):=by rw[OV,if_neg aZ];dsimp only;rw[<-V,if_neg cK]
  have ZO:n7 g {(cU g p t)with aC:=N6 g.bO (cU g p t).b1 (iR g (cU g p t)) (cU g p t).aC (wW g (cU g p t)) t,b1:=LF g.bO (cU g p t).b1 (iR g (cU g p t)) (cU g p t).aC (wW g (cU g p t)) t,aL:=MC g.bO (cU g p t).b1 (iR g (cU g p t)) (cU g p t).aC (wW g (cU g p t)) t} (⟨s,t,h,x.fU,dK.W,fJ,fG.W,⟨KS.W,sD.W,cV⟩,Vt,q.W⟩:dS):={fL with aC:=PK,b1:=b1S,aL:=b1V,c4:=b1W,cV:=b1T};rw[Ef]at zP;exact⟨(⟨s,t,h,x.fU,dK.W,fJ,fG.W,⟨KS.W,sD.W,cV⟩,Vt,gP.W⟩:dS),uE,by rw[dH],by rw[dH];exact ZO.FY zP,⟨fF.bO.mono bW,fF.held.mono bW,(dV _ (.head _)).mono aK0,sW.mono aK0,b33.mono ZJ,b35.mono ZJ,a2K⟩,rfl,rfl⟩
 case b3=>exact bC
 case b8=>
  exact λr O=>by
   rcases List.mem_append.1 O with h|h;·exact aU h
   ·exact Eb r h
end
end Go.Proofs.YtdiajbdaadlfhaaGreatDoor
