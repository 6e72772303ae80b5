/-
  Merged texts. By an AI agent.
-/
import Derived.Test.YtchfclmokpbldaaGreatCflowS
import Derived.Test.YtchfclmokpbldaaGreatComp
import Derived.Test.YtchfclmokpbldaaGreatFits
set_option linter.all false
set_option maxHeartbeats 4000000
set_option maxRecDepth 20000
variable{A B:Prop}
namespace Go.Proofs.YtchfclmokpbldaaGreat
open Go.Aw Go Go.Proofs.Tryz
section
attribute [local irreducible] cQ dF dV aM cP eC e5 e1 e2 e6 eX e4 J.L
def aJp(h:A->B:=by exact fP (u4 (row:=[_,_,_,_,_,_,_,_,_,_,_,_]) N rfl rfl rfl n0 aB aB) rfl rfl rfl rfl):=h
def aLf(h:A->B:=by exact fP (by first|exact j4 N rfl rfl rfl rfl i9 (i:=P.cV.cR.toNat) dA D|exact i5 N rfl rfl rfl rfl (i:=P.cV.cR.toNat) dA D) rfl rfl rfl rfl):=h
def aF4(h:A->B:=by exact fP (by first|exact j4 N rfl rfl rfl rfl i9 (i:=P.cV.to.toNat) dA D|exact i5 N rfl rfl rfl rfl (i:=P.cV.to.toNat) dA D) rfl rfl rfl rfl):=h
def b04(a:b3)(s:cS)(b:q8)(A:List Bool)(L:aR)(R:aO)(a3:mZ a R)(aH:pQ s R)(a5:Io b R)(gE:h5 a=0->lB a.aC A):
 aM prog 112 [a.val,s.val,b.val].toArray L R (λv E G=>∃(p:J bC) (S:aO),v=p.val/\p.ok 2 bC.cells/\p.l=D4 a s b A/\p.L 90 bC.cells++L=E/\S++R=G):=by
 have QR:=a3.aJ;have WG:=a5.bU;have WF:=a5.bW;refine b6 85 call112 func112 rfl rfl rfl ?_;apply(dB);intro eS;apply(iV);intro eD;apply(iV);intro gQ;apply v1∘vC∘nZ;refine dT rfl (aZh a s b A _ _ a3 aH a5 gE) rfl ?_;rintro v E G ⟨sC,rfl,rfl,rfl⟩;have AS:mZ a (sC++R):=⟨a3.places.mono λr h=>aT (by simp[h]),a3.aJ.mono λr h=>aT (by simp[h]),a3.c3.mono λr h=>aT (by simp[h]),a3.cM.mono λr h=>aT (by simp[h])⟩;have b9Q:=AS.aJ;apply(rR);refine U ?_ ?_<;>intro aQ;·apply PP∘A3;refine bQ L (sC++R) w2 ?_;exact⟨J.nil,sC,rfl,J.iJ,by rw[D4,if_neg aQ],by rw[mE,nN],rfl⟩
 have x8:sJ a s b A=0:=by omega
 have xC:=a4J x8;have bH:=yR xC.b2;have rZ:=Ip xC.aF;have wM:=gE xC.b2;have N7:=bH.aC.aJ;have j1:=xC.aX;have Tl:=xC.b4;apply e0∘CT∘GS;rintro v E G ⟨AG,rfl,rfl,H8⟩;replace H8:=H8.symm;subst H8;apply(BK);refine eM (ZE (f:=bC.cells) (x:=⟨0,0⟩) rfl _) ?_;apply eB∘z6;refine dT rfl (a1d a.aC _ _ AS.T1 bH.aC (a1o xC.b2)) rfl ?_;rintro v E G ⟨p,KX,e3,rfl,iF,uS,eI,rfl,rfl⟩;obtain rfl:A=KX:=wM.Bp uS;have b9V:p.l.length=a.aC.places.l.length:=by rw[eI,sV];exact wM.length
 have WQ:mZ a (e3++(sC++R)):=⟨AS.places.mono λr h=>aT a3Q,AS.aJ.mono λr h=>aT a3Q,AS.c3.mono λr h=>aT a3Q,AS.cM.mono λr h=>aT a3Q⟩;have TT:pQ s (e3++(sC++R)):=⟨aH.c3.mono λr h=>aT (by simp[h]),aH.cM.mono λr h=>aT (by simp[h])⟩;apply v1∘vC;refine dT rfl (a7O a s _ _ WQ TT bH rZ) rfl ?_;rintro v E G ⟨n,rfl,b1,rfl,rfl⟩;have GJ:aL (q3 n.lN) (q3 n.lN::qA n.l3::(e3++(sC++R))):=aT (.head _);have aL7:aL (dU b.bU) (q3 n.lN::qA n.l3::(e3++(sC++R))):=WG.mono λr h=>aT (by simp[h]);have aL6:aL (dU b.bW) (q3 n.lN::qA n.l3::(e3++(sC++R))):=WF.mono λr h=>aT (by simp[h]);have WR:=b1.length;refine aI (aIl (e:=218) N rfl bI rfl rfl rfl rfl rfl) rfl ?_;apply u0∘VM;refine dS [(5,.pointer _),(7,.slice _ _ _),(8,.slice _ _ _),(27,.slice _ _ _),(28,.int _ _),(29,.int _ _)] bV λfK=>?_;refine k2 ([10]++cN 29 55) ((⟨λq=>[(29,.int .i64 ((q.1.1:Nat):Int))],λq=>p.L 4 jJ++((⟨.own AG a.aC.aJ.l.length [],q.1.2⟩:J bC).L 90 bC.cells++(⟨gQ,b.cells,214⟩::⟨eD,s.cells,80⟩::⟨eS,a.cells,32⟩::L)),λ_=>q3 n.lN::qA n.l3::(e3++(sC++R)),λq=>n.lN.l.length-q.1.1⟩:fB {q:Nat×List bC//q.1<=n.lN.l.length/\UR a s b A n q.1 q.2})) (⟨(0,List.replicate a.aC.aJ.l.length ⟨0,0⟩),by dsimp only;omega,UR.zero a s b A n⟩) ?_;rintro⟨⟨k,l⟩,rG,fO⟩ cH;try dsimp only
 dsimp only at rG fO;have pW:=fO.len;have Tt:(⟨.own AG a.aC.aJ.l.length [],l⟩:J bC).ok 2 bC.cells:=by have:=ED (f:=bC.cells) (aN:=2) (b:=AG) (n:=a.aC.aJ.l.length) (x:=⟨0,0⟩) bD DP;exact J.o6 bD this Wp
 apply(h0);refine U ?_ ?_<;>intro bL;·
  obtain⟨P,kX⟩:=jW (l:=n.lN.l) (k:=k) D;have aLW:=aL.RB GJ kX;obtain⟨aLY,aLZ⟩:=b1.open (hV kX);have a1W:=b1.RB P (hV kX);have aLX:=aHK bH aLY a1W;have QK:HK P=mN a s ((P.pY.toNat:Nat):Int):=funext λq=>by rw[aF3 a1W q,RF aLY.1]
  have mJ:=bH.aC.cV P.pY.toNat _ X4;have N8:=mJ.cR;have TQ:=mJ.to;have TF:P.cV.cR=(a.aC.aJ.l.getD P.pY.toNat default).cR:=by rw[a1W.cV]
  have Fw:P.cV.to=(a.aC.aJ.l.getD P.pY.toNat default).to:=by rw[a1W.cV]
  have WA:=wM.length;have zD:p.l[P.cV.cR.toNat]?=some (!(A.getD P.cV.cR.toNat false)):=by rw[eI,pA,bJ (l:=A) (k:=P.cV.cR.toNat) false D];rfl
  have LP:=bJ (l:=b.bU.l) (k:=P.cV.cR.toNat) 0 D;have y7:=bJ (l:=b.bU.l) (k:=P.cV.to.toNat) 0 D;have Sn:=bJ (l:=b.bW.l) (k:=P.cV.cR.toNat) 0 D;have a8e:=bJ (l:=b.bW.l) (k:=P.cV.to.toNat) 0 D;have eV:=xC.c9.get P.cV.cR.toNat;have fN:=xC.c9.get P.cV.to.toNat;have n5:=xC.wR.get P.cV.cR.toNat;have F7:=xC.wR.get P.cV.to.toNat;have wA:=bJ (l:=l) (k:=P.pY.toNat) default D;apply(j9);refine aI pL rfl ?_;apply aB3∘dZ;intro i0;apply rT∘gU∘HP;refine aI (jA N (p) _ rfl rfl rfl rfl bR (i:=P.cV.cR.toNat) dA jC) rfl ?_;refine aI O2 rfl ?_;apply(b9);refine U ?_ ?_<;>intro cC;·(have Mf:kH=rP a s b A P.pY.toNat:=by rw[rP,if_neg (by rw[aLZ];decide),<-TF,if_neg MG]);apply dC∘yY∘A4;refine aI aR3 rfl ?_;refine jH (R2 N ((⟨.own AG a.aC.aJ.l.length [],l⟩:J bC)) (kH) rfl rfl rfl rfl cF bR bD bR (KO rfl) aB aB) ?_;rintro v E G ⟨rfl,rfl⟩;refine eZ (a8 (mD (mF (mB (a8 (c2 ?_))))));apply(s6);exact aPO
  have Mf:(⟨rN (HK P) (b.bU.l.getD P.cV.cR.toNat 0-b.bW.l.getD P.cV.to.toNat 0),rO (HK P) (b.bW.l.getD P.cV.cR.toNat 0-b.bU.l.getD P.cV.to.toNat 0)⟩:bC)=rP a s b A P.pY.toNat:=by rw[rP,if_neg (by rw[aLZ];decide),<-TF,<-Fw,if_pos MG,QK]
  refine eP (a8 ?_);refine iS N [] [0,1,2,3,4,5,6,7,8,9,10,11,12,13,14,15,16,17,18,20,21,22,23,24,25,26,27,28,29,30,31,32,33,34,35,19,36,37,38] [39] ([bN.mk i0 _ _,bN.mk gQ _ _]) _ dO bI bA hA ?_;apply NH∘aJp∘mH∘zM∘mH∘aLf∘tE∘mH∘zM∘mH∘aF4∘tE∘T9∘aJp∘mH∘zM∘mH∘aLf∘tE∘mH∘zM∘mH∘aF4∘tE∘T9;refine rQ rfl (aG9 P (b.bU.l.getD P.cV.cR.toNat 0-b.bW.l.getD P.cV.to.toNat 0) _ _ aLW aLX) rfl rfl ?_;rintro v E G ⟨rfl,rfl,rfl⟩;refine⟨bA,iQ,?_⟩;refine rQ rfl (aEj P (b.bW.l.getD P.cV.cR.toNat 0-b.bU.l.getD P.cV.to.toNat 0) _ _ aLW aLX) rfl rfl ?_;rintro v E G ⟨rfl,rfl,rfl⟩;refine⟨bA,iQ,?_⟩;apply(Bh);refine fP aR3 rfl rfl rfl rfl ?_;apply(zN);refine HN (R2 N ((⟨.own AG a.aC.aJ.l.length [],l⟩:J bC)) (⟨rN (HK P) (b.bU.l.getD P.cV.cR.toNat 0-b.bW.l.getD P.cV.to.toNat 0),rO (HK P) (b.bW.l.getD P.cV.cR.toNat 0-b.bU.l.getD P.cV.to.toNat 0)⟩) rfl rfl rfl rfl cF bR bD bR (KO rfl) aB aB) rfl rfl ?_;rintro v E G ⟨rfl,rfl⟩;apply gJ∘PV;exact aPO
 obtain rfl:k=n.lN.l.length:=by omega
 apply(SP);refine bQ ((⟨.own AG a.aC.aJ.l.length [],l⟩:J bC).L 90 bC.cells++L) (q3 n.lN::qA n.l3::(e3++(sC++R))) w2 ?_;exact⟨(⟨.own AG a.aC.aJ.l.length [],l⟩:J bC),q3 n.lN::qA n.l3::(e3++sC),w6 pW,Tt,by rw[D4,if_pos x8];exact fO.done b1,rfl,by simp[oB]⟩
def aJJ(h:B:=by exact⟨J.nil,by rw[rM,if_pos aQ];rfl,J.iJ,by rw[rM,if_pos aQ],by rw[mE,nN],rfl⟩):=h
def aIm(h:A->B:=by exact aI pL rfl):=h
def aTA(h:A->B:=by exact hT a4k rfl):=h
def aWx(h:A->B:=by exact hT aSN rfl):=h
def b0L{a:b3}{s:cS}{b ZG:q8}{A:List Bool}(O:b.bU.l=ZG.bU.l)(X:b.bW.l=ZG.bW.l):D4 a s b A=D4 a s ZG A:=by
 have eV:s2 a s b A=s2 a s ZG A:=funext λi=>by rw[s2,s2,O,X]
 have fN:sJ a s b A=sJ a s ZG A:=by rw[sJ,sJ,O,X,eV]
 have n5:rP a s b A=rP a s ZG A:=funext λi=>by rw[rP,rP,O,X]
 rw[D4,D4,fN,n5]
def U1(a:b3)(s:cS)(A:List Bool):q8:=⟨⟨none,0,(q7 a s A).2.1⟩,⟨none,0,(q7 a s A).2.2⟩⟩
def tS(a:b3)(k:Nat):bC:=if(a.aC.aJ.l.getD k default).eJ=true then⟨0,0⟩else kH
def rM(a:b3)(s:cS)(A:List Bool):Int×List bC:=
 if h5 a≠0 then(h5 a,[])else if l0 a s=false then(21,[])else if(q7 a s A).1=0 then(0,D4 a s (U1 a s A) A)
 else(0,(List.range a.aC.aJ.l.length).map (tS a))
def PK(L:aR)(R:aO):
 aM prog 96 [].toArray L R (λv E G=>v=kH.val/\L=E/\R=G):=by refine b6 2 call96 func96 rfl rfl rfl ?_;exact aSp
structure UN(a:b3)(i:Nat)(l:List bC):Prop where
 len:l.length=a.aC.aJ.l.length
 NV:∀j:Nat,j<i->l[j]?=some (tS a j)
 T4:∀j:Nat,i<=j->j<a.aC.aJ.l.length->l[j]?=some ⟨0,0⟩
def UN.next{a:b3}{i:Nat}{l:List bC}(h:UN a i l)(aE:i<a.aC.aJ.l.length){x:bC}(K:x=tS a i):UN a (i+1) (l.set i x):=by exact aOE
def UN.EX{a:b3}{i:Nat}{l:List bC}(h:UN a i l)(aE:i<a.aC.aJ.l.length)(K:(⟨0,0⟩:bC)=tS a i):UN a (i+1) l:=by exact aOJ
def UN.done{a:b3}{l:List bC}(h:UN a a.aC.aJ.l.length l):l=(List.range a.aC.aJ.l.length).map (tS a):=by
 have aX:=h.len;refine UG λj=>?_;rcases hF j a.aC.aJ.l.length with a6|a6;·rw[h.NV j a6,pA,KP a6];rfl
 ·rw[uF D,uF DQ]
def b0s(a:b3)(s:cS)(A:List Bool)(L:aR)(R:aO)(a3:mZ a R)(aH:pQ s R)(gE:h5 a=0->lB a.aC A):
 aM prog 40 [a.val,s.val].toArray L R (λw E G=>∃p:J bC,w=.tuple #[p.val,.int .i64 (rM a s A).1]/\p.ok 2 bC.cells/\p.l=(rM a s A).2/\p.L 90 bC.cells++L=E/\R=G):=by
 have QR:=a3.aJ;refine b6 56 call40 func40 rfl rfl rfl ?_;apply(dB);intro eH;apply(iV);intro eS;apply kA∘hH∘r5;refine cD rfl (Zd a _ _ a3) ?_;apply(j7);refine U ?_ ?_<;>intro aQ;·apply HO∘kA∘w7;refine bQ L R yH ?_;exact aJJ
 have b2:h5 a=0:=by omega
 have bH:=yR b2;have r0:=bH.aC.places;have N7:=bH.aC.aJ;apply hN∘vC;refine cD rfl (a6h a s _ _ a3 aH) ?_;apply(nK);refine U ?_ ?_<;>intro bL;·apply PP∘w7;refine bQ L R yH ?_;exact⟨J.nil,by rw[rM,if_neg aQ,if_pos MH];rfl,J.iJ,by rw[rM,if_neg aQ,if_pos MH],by rw[mE,nN],rfl⟩
 have v9:l0 a s=true:=by simpa using bL
 have AO:¬l0 a s=false:=by rw[v9];decide
 apply hN∘vC;refine dT rfl (aU4 a s A _ _ a3 aH gE D) rfl ?_;rintro v E G ⟨b5,aE,rfl,O,X,aU,cK,rfl,rfl⟩;refine aI iL rfl ?_;apply(CS);intro o0;apply jZ∘x2;refine E7 (A:=[_]) (aN:=1) [] bD aW O e8 ?_;apply(L3);refine E7 (A:=[_]) (aN:=1) [] bD aW X e8 ?_;apply(L3);have kY:∀r∈R,aL r (dU aE.V::dU b5.V::R):=λr M=>aT (by simp[M]);have a8i:Io ⟨b5.V,aE.V⟩ (dU aE.V::dU b5.V::R):=⟨aT (.tail _ (.head _)),aT (.head _)⟩;have aMG:=QR.mono kY;apply tR∘nJ;refine U ?_ ?_<;>intro cC;·
  apply dC∘vC∘nZ;refine dT rfl (b04 a s ⟨b5.V,aE.V⟩ A _ _ (FN a3 kY) (NS aH kY) a8i gE) rfl ?_;rintro v E G ⟨p,S,rfl,iF,eI,rfl,rfl⟩;apply kA∘w7;refine lH (E:=p.L 90 bC.cells++L) (G:=R) yH ?aP ?dI ?bO;case aP=>exact aSi
  case dI=>exact bA
  case bO=>exact λr h=>aT (by simp[h])
 apply e0∘CT∘GS;rintro v E G ⟨QC,rfl,rfl,QH⟩;replace QH:=QH.symm;subst QH;apply(HR);refine eM (ZE (f:=bC.cells) (x:=⟨0,0⟩) rfl _) ?_;apply eB∘e7∘qP;refine dS [(9,.slice _ _ _),(40,.slice _ _ _),(41,.int _ _),(42,.int _ _)] bV λfK=>?_;refine k2 ([10,11]++cN 42 13) ((⟨λg=>[(42,.int .i64 ((g.1.1:Nat):Int))],λg=>(⟨.own QC a.aC.aJ.l.length [],g.1.2⟩:J bC).L 90 bC.cells++(⟨o0,[b5.val,aE.val],214⟩::⟨eS,s.cells,80⟩::⟨eH,a.cells,32⟩::L),λ_=>dU aE.V::dU b5.V::R,λg=>a.aC.aJ.l.length-g.1.1⟩:fB {g:Nat×List bC//g.1<=a.aC.aJ.l.length/\UN a g.1 g.2})) (⟨(0,List.replicate a.aC.aJ.l.length ⟨0,0⟩),by dsimp only;omega,⟨by simp,λj a6=>by omega,λj _ a6=>by rw[UE,if_pos a6]⟩⟩) ?_;rintro⟨⟨k,l⟩,rG,fO⟩ cH;try dsimp only
 dsimp only at rG fO;have pW:=fO.len;have Tt:(⟨.own QC a.aC.aJ.l.length [],l⟩:J bC).ok 2 bC.cells:=by have:=ED (f:=bC.cells) (aN:=2) (b:=QC) (n:=a.aC.aJ.l.length) (x:=⟨0,0⟩) bD DP;exact J.o6 bD this Wp
 apply(h0);refine U ?_ ?_<;>intro dX;·
  have Ai:=bJ (l:=a.aC.aJ.l) (k:=k) default D;have wA:=fO.T4 k (iK _) D;apply oJ∘aIm∘SR;intro H1;apply dM∘z8∘nK;refine U ?_ ?_<;>intro dY;·(have GB:kH=tS a k:=by rw[tS,if_neg Ig]);apply(wJ);refine cD rfl (PK _ _) ?_;refine aI (jA N ((⟨.own QC a.aC.aJ.l.length [],l⟩:J bC)) _ rfl rfl ((show _=Value.slice _ _ _ from rfl).trans (w6 pW)) rfl bR (i:=k) dA jC) rfl ?_;refine jH (R2 N ((⟨.own QC a.aC.aJ.l.length [],l⟩:J bC)) (kH) rfl rfl rfl rfl cF bR bD bR (KO rfl) aB aB) ?_;rintro v E G ⟨rfl,rfl⟩;apply(uJ);exact eO ⟨(k+1,l.set k kH),by dsimp only;omega,fO.next D GB⟩
  have GB:(⟨0,0⟩:bC)=tS a k:=by rw[tS,if_pos Ig]
  apply(mU);exact eO ⟨(k+1,l),by dsimp only;omega,fO.EX D GB⟩
 obtain rfl:k=a.aC.aJ.l.length:=by omega
 apply M9∘Y6;refine lH (E:=(⟨.own QC a.aC.aJ.l.length [],l⟩:J bC).L 90 bC.cells++L) (G:=R) yH ?aP ?dI ?bO;case aP=>
  have bT:rM a s A=(0,(List.range a.aC.aJ.l.length).map (tS a)):=by rw[rM,if_neg aQ,if_neg AO,if_neg cC]
  exact⟨(⟨.own QC a.aC.aJ.l.length [],l⟩:J bC),by rw[bT];simp only[J.val,g6.pS,g6.cap,pW],Tt,by rw[bT];exact fO.done,rfl,rfl⟩
 case dI=>exact bA
 case bO=>exact λr h=>aT (by simp[h])
def aX8(a:b3)(s:cS)(A:List Bool)(L:aR)(R:aO)(a3:mZ a R)(aH:pQ s R)(gE:h5 a=0->lB a.aC A):
 aM prog 130 [a.val,s.val].toArray L R (λw E G=>∃p:J bC,w=.tuple #[p.val,.int .i64 (rM a s A).1]/\p.ok 2 bC.cells/\p.l=(rM a s A).2/\p.L 90 bC.cells++L=E/\R=G):=by
 have QR:=a3.aJ;refine b6 56 call130 func130 rfl rfl rfl ?_;apply(dB);intro eH;apply(iV);intro eS;apply kA∘hH∘r5;refine cD rfl (Pg a _ _ a3) ?_;apply(j7);refine U ?_ ?_<;>intro aQ;·apply HO∘kA∘w7;refine bQ L R yH ?_;exact aJJ
 have b2:h5 a=0:=by omega
 have bH:=yR b2;have r0:=bH.aC.places;have N7:=bH.aC.aJ;apply hN∘vC;refine cD rfl (a6v a s _ _ a3 aH) ?_;apply(nK);refine U ?_ ?_<;>intro bL;·
  apply PP∘w7;refine bQ L R yH ?_;have C8:l0 a s=false:=by simpa[O8,b2]using bL
  exact⟨J.nil,by rw[rM,if_neg aQ,if_pos C8];rfl,J.iJ,by rw[rM,if_neg aQ,if_pos C8],by rw[mE,nN],rfl⟩
 have v9:l0 a s=true:=by simpa[O8,b2]using bL
 have AO:¬l0 a s=false:=by rw[v9];decide
 apply e0∘vC;refine dT rfl (aYu a s A _ _ a3 aH gE D) rfl ?_;rintro v E G ⟨b5,aE,rfl,O,X,aU,cK,rfl,rfl⟩;refine aI iL rfl ?_;apply(CS);intro o0;apply jZ∘P1;refine E7 (A:=[_]) (aN:=1) [] bD aW O e8 ?_;apply(L3);refine E7 (A:=[_]) (aN:=1) [] bD aW X e8 ?_;apply(L3);have kY:∀r∈R,aL r (dU aE.V::dU b5.V::R):=λr M=>aT (by simp[M]);have a8i:Io ⟨b5.V,aE.V⟩ (dU aE.V::dU b5.V::R):=⟨aT (.tail _ (.head _)),aT (.head _)⟩;have aMG:=QR.mono kY;apply tR∘nJ;refine U ?_ ?_<;>intro cC;·
  apply dC∘vC∘nZ;refine dT rfl (aVJ a s ⟨b5.V,aE.V⟩ A _ _ (FN a3 kY) (NS aH kY) a8i gE) rfl ?_;rintro v E G ⟨p,rfl,iF,eI,rfl,rfl⟩;apply kA∘w7;refine lH (E:=p.L 90 bC.cells++L) (G:=R) yH ?aP ?dI ?bO;case aP=>exact aSi
  case dI=>exact bA
  case bO=>exact λr h=>aT (by simp[h])
 apply e0∘v1∘nP;refine dS [(2,.pointer _),(9,.slice _ _ _),(10,.int _ _)] bV λfK=>?_;refine qK ([9,10,11]++cN 33 22) ((⟨λg=>[(10,.int .i64 ((g.1.1:Nat):Int)),(9,g.1.2.val)],λg=>g.1.2.L 90 bC.cells++(⟨o0,[b5.val,aE.val],214⟩::⟨eS,s.cells,80⟩::⟨eH,a.cells,32⟩::L),λ_=>dU aE.V::dU b5.V::R,λg=>a.aC.aJ.l.length-g.1.1⟩:fB {g:Nat×J bC//g.1<=a.aC.aJ.l.length/\g.2.ok 2 bC.cells/\g.2.l=(List.range g.1).map (tS a)})) (⟨(0,J.nil),by dsimp only;omega,J.iJ,rfl⟩) bV X2 eN ?_;rintro⟨⟨k,q⟩,rG,fO,lY⟩ cH;try dsimp only
 dsimp only at rG fO lY;have fT:q.l.length=k:=by rw[lY];simp
 apply FR∘e7∘Qw;refine U ?_ ?_<;>intro dX;·
  have Ai:=bJ (l:=a.aC.aJ.l) (k:=k) default D;apply j9∘a22∘dZ;intro H1;apply rT∘BM∘aIm∘sH∘nK;refine U ?_ ?_<;>intro dY;·(have GB:tS a k=kH:=by rw[tS,if_neg Ig]);apply(eB);refine cD rfl G5 ?_;apply(jZ);refine eZ (a8 (c2 ?_));exact aRR
  have GB:tS a k=⟨0,0⟩:=by rw[tS,if_pos Ig]
  refine eP (a8 (c2 ?_));exact aRR
 obtain rfl:k=a.aC.aJ.l.length:=by omega
 apply M9∘Y6;refine lH (E:=q.L 90 bC.cells++L) (G:=R) yH ?aP ?dI ?bO;case aP=>
  have bT:rM a s A=(0,(List.range a.aC.aJ.l.length).map (tS a)):=by rw[rM,if_neg aQ,if_neg AO,if_neg cC]
  exact⟨q,by rw[bT];rfl,fO,by rw[bT];exact lY,rfl,rfl⟩
 case dI=>exact bA
 case bO=>exact λr h=>aT (by simp[h])
def CN(x:bC):Int:=if x.bW<x.bU then 0 else if 0<x.bU then 1 else if x.bW<0 then -1 else 0
def aTy(x:bC)(L:aR)(R:aO):
 aM prog 48 [x.val].toArray L R (λv E G=>v=.int .i64 (CN x)/\L=E/\R=G):=by
 refine b6 17 call48 func48 rfl rfl rfl ?_;apply(dB);intro gL;apply(dM);refine eZ (a8 (bK (fR (bK (c2 ?_)))));apply j0∘KH∘w8;refine U ?_ ?_<;>intro aQ;·apply(uL);refine cX L R ?_;exact⟨by rw[CN,if_pos aQ],rfl,rfl⟩
 apply dC∘Dq∘w8;refine U ?_ ?_<;>intro bL;·apply(uL);refine cX L R ?_;exact⟨by rw[CN,if_neg D,if_pos bL],rfl,rfl⟩
 apply dC∘aIL∘w8;refine U ?_ ?_<;>intro cC;·apply(uL);exact aPp
 refine eP (hI (a8 (bK (c2 ?_))));apply(vB);exact aPr
def b0P(x:bC)(L:aR)(R:aO):
 aM prog 302 [x.val].toArray L R (λv E G=>v=.int .i64 (CN x)/\L=E/\R=G):=by
 refine b6 14 call302 func302 rfl rfl rfl ?_;apply(dB);intro gL;apply hH∘j0∘HS;refine U ?_ ?_<;>intro aQ;·apply(kM);refine cX L R ?_;exact⟨by rw[CN,if_pos aQ],rfl,rfl⟩
 apply hN∘Dq∘b9;refine U ?_ ?_<;>intro bL;·apply(kM);refine cX L R ?_;exact⟨by rw[CN,if_neg D,if_pos bL],rfl,rfl⟩
 apply D5∘CP;refine U ?_ ?_<;>intro cC;·apply(kM);exact aPp
 apply(PN);exact aPr
end
section
variable{a:b3}{s:cS}{A:List Bool}{l m:List Int}{k:Nat}{v:Int}
def aD7(b2:pP l)(h:BD a s true l k=some v):l.getD k 0<=v/\0<=yO a s (l.set k v) (k:Int)/\∀w,l.getD k 0<=w->w<v->yO a s (l.set k w) (k:Int)<0:=by
 obtain⟨d,S1,d1,a73,Sg,Sh⟩:=(a6a (Pk (b2.get k)).1 h).A9 rfl;have e:∀x,V1 a s true l (k:Int) x=FO a s l (k:Int) x:=λx=>by rw[V1,if_pos rfl]
 rw[e,decide_eq_true_eq,xP]at Sg;have C4:l7 true=1:=rfl;rw[C4]at a73 Sh;refine⟨by omega,Sg,λw rG fO=>?_⟩;have:=Sh (w-l.getD k 0) D D;rw[show l.getD k 0+1*(w-l.getD k 0)=w by omega,e,decide_eq_false_iff_not,xP]at this;omega
def aG2(b2:pP l)(h:BD a s false l k=some v):v<=l.getD k 0/\yN a s (l.set k v) (k:Int)<=0/\∀w,w<=l.getD k 0->v<w->0<yN a s (l.set k w) (k:Int):=by
 obtain⟨d,S1,d1,a73,Sg,Sh⟩:=(a6a (Pk (b2.get k)).1 h).A9 rfl;have e:∀x,V1 a s false l (k:Int) x=FG a s l (k:Int) x:=λx=>by rw[V1,if_neg aW]
 rw[e,decide_eq_true_eq,xP]at Sg;have C4:l7 false= -1:=rfl;rw[C4]at a73 Sh;refine⟨by omega,Sg,λw rG fO=>?_⟩;have:=Sh (l.getD k 0-w) D D;rw[show l.getD k 0+ -1*(l.getD k 0-w)=w by omega,e,decide_eq_false_iff_not,xP]at this;omega
end
def a5X{a:b3}{s:cS}{A:List Bool}{up:Bool}{l:List Int}: ∀{n:Nat} {m:List Int},vA a s A up l n=some m->∀k,k<=n->∃mk,vA a s A up l k=some mk/\∀j:Nat,j<k->m[j]? =mk[j]?
 |0,m,h,k,aG=>by
  obtain rfl:k=0:=by omega
  exact⟨m,h,λj a6=>by omega⟩
 |n+1,m,h,k,aG=>by
  rcases hF n k with O|O
  ·obtain rfl:k=n+1:=by omega
   exact⟨m,h,λ_ _=>rfl⟩
  ·have c4:=h
   rw[vA,Wd]at c4
   obtain⟨OG,eV,fN⟩:=c4
   obtain⟨mk,jY,iE⟩:=a5X eV k O
   refine⟨mk,jY,λj a6=>?_⟩
   rw[<-iE j a6]
   split at fN
   ·cases fN;rfl
   ·obtain⟨v,_,rfl⟩:=Option.map_eq_some_iff.1 fN
    rw[KN D]
def aY8{a:b3}{s:cS}{A:List Bool}{up:Bool}{l:List Int}(aX:pP l)(b1:l.length=a.aC.places.l.length)(h:vA a s A up l a.aC.places.l.length=some l){k:Nat}(aG:k<a.aC.places.l.length)(aF:¬uO a A k=true):BD a s up l k=some (l.getD k 0):=by
 obtain⟨OG,eV,fN⟩:=a5X h (k+1) D;have a1L:=eV;rw[vA,Wd]at a1L;obtain⟨wQ,jY,iE⟩:=a1L;obtain⟨bAB,LP,y7⟩:=a5X h k D;rw[jY]at LP;cases LP;have eL:=Pn aX jY;have em:wQ=l:=UG λj=>by
  rcases hF j k with O|O;·exact(y7 j O).symm
  ·exact eL.aD j O
 subst em;rw[if_neg aF]at iE;obtain⟨v,cY,rfl⟩:=Option.map_eq_some_iff.1 iE;have:=fN k D;rw[tJ D,bJ (l:=wQ) (k:=k) 0 D]at this;rw[cY,yF this]
structure YK(a:b3)(A:List Bool)(up:Bool)(l m:List Int):Prop where
 len:m.length=l.length
 le:∀j:Nat,if up=true then l.getD j 0<=m.getD j 0 else m.getD j 0<=l.getD j 0
 fix:∀j:Nat,uO a A j=true->m.getD j 0=l.getD j 0
def YK.refl{a:b3}{A:List Bool}{up:Bool}{l:List Int}:YK a A up l l:=⟨rfl,λj=>by split<;>exact pJ _,λ_ _=>rfl⟩
def YK.trans{a:b3}{A:List Bool}{up:Bool}{l m n:List Int}(h:YK a A up l m)(k:YK a A up m n):YK a A up l n:=by
 refine⟨k.len.trans h.len,λj=>?_,λj a6=>(k.fix j a6).trans (h.fix j a6)⟩;have O:=h.le j;have X:=k.le j;split at O;·rename_i e;rw[if_pos e]at X;rw[if_pos e];omega
 ·rename_i e;rw[if_neg e]at X;rw[if_neg e];omega
def aHk{a:b3}{s:cS}{A:List Bool}{up:Bool}{l:List Int}(aX:pP l): ∀{n:Nat} {m:List Int},n<=l.length->vA a s A up l n=some m->YK a A up l m
 |0,m,_,h=>by cases h;exact .refl
 |n+1,m,b1,h=>by
  have c4:=h
  rw[vA,Wd]at c4
  obtain⟨wQ,eV,fN⟩:=c4
  have c6:=aHk aX D eV
  have eL:=Pn aX eV
  have vN:=eL.len
  split at fN
  ·cases fN;exact c6
  ·rename_i aF
   obtain⟨v,cY,rfl⟩:=Option.map_eq_some_iff.1 fN
   refine c6.trans ⟨by simp,λj=>?_,λj a6=>?_⟩
   ·rw[Ki D]
    cases up with
    |true=>
     have:=(aD7 eL.c8 cY).1
     simp only[if_true]
     split
     ·rename_i e;subst e;exact this
     ·exact pJ _
    |false=>
     have:=(aG2 eL.c8 cY).1
     simp only[Bool.false_eq_true,if_false]
     split
     ·rename_i e;subst e;exact this
     ·exact pJ _
   ·rw[Ki D,if_neg (λe=>aF (by rw[<-e];exact a6))]
def a4F{a:b3}{s:cS}{A:List Bool}{up:Bool}: ∀{n:Nat} {l m:List Int},pP l->l.length=a.aC.places.l.length->u9 a s A up n l=some m->YK a A up l m
 |0,l,m,_,_,h=>by cases h
 |n+1,l,m,aX,b1,h=>by
  rw[u9]at h
  split at h
  ·cases h
  ·rename_i OG O
   have aH:=Pn aX O
   have a3:=aHk aX D O
   split at h
   ·cases h;exact a3
   ·exact a3.trans (a4F aH.c8 (aH.len.trans b1) h)
def aJv{a:b3}{s:cS}{A:List Bool}{n:Nat}{l m:List Int}{up:Bool}(aX:pP l)(b1:l.length=a.aC.places.l.length)(h:u9 a s A up n l=some m){k:Nat}(aG:k<a.aC.places.l.length)(aF:¬uO a A k=true):
 if up=true then 0<=yO a s m (k:Int)else yN a s m (k:Int)<=0:=by
 obtain⟨O,X,aU⟩:=a4y aX h;have K:=aY8 X (O.trans b1) aU aG aF;cases up with
 |true=>have:=(aD7 X K).2.1;rw[Dk]at this;simpa using this
 |false=>have:=(aG2 X K).2.1;rw[Dk]at this;simpa using this
def a7h{a:b3}{s:cS}{A:List Bool}{up:Bool}{ps:List Int}(h:U9 a s ps A):(iN a s A up ps).1=0\/(iN a s A up ps).1=2:=by
 rw[iN,if_neg (by rw[a0M.2 h];decide)];split;·exact .inr rfl
 ·exact .inl rfl
def U9.aBy{a:b3}{s:cS}{A:List Bool}{up:Bool}{l:List Int}(h:U9 a s l A){n:Nat}{m:List Int}(a3:u9 a s A up n l=some m):U9 a s m A:=by obtain⟨O,X,_⟩:=a4y h.aP a3;have aU:=a4F h.aP h.aX a3;exact⟨h.b2,h.aF,O.trans h.aX,X,λi aE aF=>(aU.fix i aF).trans (h.fix i aE aF)⟩
def aXZ{a:b3}{s:cS}{A:List Bool}(b2:h5 a=0)(aF:l0 a s=true):U9 a s (List.replicate a.aC.places.l.length 0) A:=by
 refine⟨b2,aF,by simp,λp aP=>?_,λi aE _=>?_⟩;·rw[(List.mem_replicate.1 aP).2];decide
 ·rw[m8,UE];split<;>rfl
structure a5L(a:b3)(s:cS)(A:List Bool)(b5 aE:List Int):Prop where
 Vj:U9 a s b5 A
 bH:U9 a s aE A
 le:∀i:Nat,b5.getD i 0<=aE.getD i 0
 bU:∀i:Nat,i<a.aC.places.l.length->¬uO a A i=true->yN a s b5 (i:Int)<=0
 bW:∀i:Nat,i<a.aC.places.l.length->¬uO a A i=true->0<=yO a s aE (i:Int)
def aUH{a:b3}{s:cS}{A:List Bool}(b2:h5 a=0)(aF:l0 a s=true):((q7 a s A).1=0/\a5L a s A (q7 a s A).2.1 (q7 a s A).2.2)\/(q7 a s A).1=2:=by
 have aOu:=aXZ (A:=A) b2 aF;rw[q7];dsimp only;rcases a7h (up:=false) aOu with eV|eV;·
  rw[if_neg D];obtain⟨_,Hn⟩:=a41 eV;have a26:=aOu.aBy Hn;rcases a7h (up:=true) a26 with fN|fN;·
   rw[if_neg D];obtain⟨_,A6⟩:=a41 fN;have Hp:=a26.aBy A6;rcases a7h (up:=false) Hp with n5|n5;·
    rw[if_neg D];obtain⟨_,UB⟩:=a41 n5;have b61:=Hp.aBy UB;left;refine⟨rfl,b61,Hp,λi=>?_,λi aE b1=>?_,λi aE b1=>?_⟩;·have:=(a4F Hp.aP Hp.aX UB).le i;simpa using this
    ·have:=aJv Hp.aP Hp.aX UB aE b1;simpa using this
    ·have:=aJv a26.aP a26.aX A6 aE b1;simpa using this
   ·rw[if_pos D];exact .inr n5
  ·rw[if_pos D];exact .inr fN
 ·rw[if_pos D];exact .inr eV
def a5L.b07{a:b3}{s:cS}{A:List Bool}{b5 aE:List Int}(h:a5L a s A b5 aE){b:q8}(eV:b.bU.l=b5)(fN:b.bW.l=aE):Xw a s b A:=by
 refine⟨⟨h.Vj.b2,h.Vj.aF,by rw[eV];exact h.Vj.aX,by rw[fN];exact h.bH.aX,by rw[eV];exact h.Vj.aP,by rw[fN];exact h.bH.aP⟩,λi WN aF=>?_,λi WN aF=>?_⟩;·rw[eV,fN];exact⟨h.Vj.fix i WN aF,h.bH.fix i WN aF⟩
 ·rw[eV,fN];exact⟨h.bW i WN aF,h.bU i WN aF⟩
def aXN(l:List bC):Prop:=∀k:Nat,(-1125899906842624<=(l.getD k default).bU/\(l.getD k default).bU<=1125899906842624)/\(-1125899906842624<=(l.getD k default).bW/\(l.getD k default).bW<=1125899906842624)
def aXw{a:b3}{s:cS}{b:q8}{A:List Bool}(bT:p3 a){k:Nat}(aG:k<a.aC.aJ.l.length):
 (-1125899906842624<=(rP a s b A k).bU/\(rP a s b A k).bU<=1125899906842624)/\(-1125899906842624<=(rP a s b A k).bW/\(rP a s b A k).bW<=1125899906842624):=by
 rw[rP];split;·dsimp only;omega
 split;·
  have O:=λp=>(VG (s:=s) bT).tT k aG p;have X:=λp=>(U3 (s:=s) bT).tT k aG p;dsimp only;exact⟨⟨by have:=O (b.bU.l.getD (a.aC.aJ.l.getD k default).cR.toNat 0-b.bW.l.getD (a.aC.aJ.l.getD k default).to.toNat 0);omega,by have:=O (b.bU.l.getD (a.aC.aJ.l.getD k default).cR.toNat 0-b.bW.l.getD (a.aC.aJ.l.getD k default).to.toNat 0);omega⟩,
   ⟨by have:=X (b.bW.l.getD (a.aC.aJ.l.getD k default).cR.toNat 0-b.bU.l.getD (a.aC.aJ.l.getD k default).to.toNat 0);omega,by have:=X (b.bW.l.getD (a.aC.aJ.l.getD k default).cR.toNat 0-b.bU.l.getD (a.aC.aJ.l.getD k default).to.toNat 0);omega⟩⟩
 ·simp only[kH];omega
def aYy(a:b3)(k:Nat):tS a k=⟨0,0⟩\/tS a k=kH:=by
 rw[tS];split;·exact .inl rfl
 ·exact .inr rfl
def a6J{a:b3}{s:cS}{A:List Bool}(b2:h5 a=0)(aF:l0 a s=true)(gE:lB a.aC A):
 (rM a s A).1=0/\((Xw a s (U1 a s A) A/\(∀i:Nat,(U1 a s A).bU.l.getD i 0<=(U1 a s A).bW.l.getD i 0)/\(rM a s A).2=(List.range a.aC.aJ.l.length).map (rP a s (U1 a s A) A))\/(rM a s A).2=(List.range a.aC.aJ.l.length).map (tS a)):=by
 have AP:¬l0 a s=false:=by rw[aF];decide
 rw[rM,if_neg (by rw[b2];decide),if_neg AP];rcases aUH (A:=A) b2 aF with h|h;·have a13:Xw a s (U1 a s A) A:=h.2.b07 rfl rfl;rw[if_pos h.1,D4,if_pos (aYn.2 a13)];exact⟨rfl,.inl ⟨a13,h.2.le,rfl⟩⟩
 ·rw[if_neg (by rw[h];decide)];exact⟨rfl,.inr rfl⟩
def a1i{a:b3}{s:cS}{A:List Bool}(b2:h5 a=0)(aF:l0 a s=true)(gE:lB a.aC A):(rM a s A).2.length=a.aC.aJ.l.length:=by rcases(a6J b2 aF gE).2 with⟨_,_,e⟩|e<;>rw[e]<;>simp
def aVo{a:b3}{s:cS}{A:List Bool}(b2:h5 a=0)(aF:l0 a s=true)(gE:lB a.aC A):aXN (rM a s A).2:=λk=>by
 have aX:=a1i b2 aF gE
 have bT:=yR b2
 rcases hF k a.aC.aJ.l.length with aG|aG
 ·rcases(a6J b2 aF gE).2 with⟨_,_,e⟩|e
  ·rw[e,m8,pA,KP aG]
   exact aXw bT aG
  ·rw[e,m8,pA,KP aG]
   show(-1125899906842624<=(tS a k).bU/\(tS a k).bU<=1125899906842624)/\(-1125899906842624<=(tS a k).bW/\(tS a k).bW<=1125899906842624)
   rcases aYy a k with e|e<;>rw[e]<;>simp[kH]
 ·rw[m8,uF D]
  exact⟨⟨by decide,by decide⟩,by decide,by decide⟩
section
attribute [local irreducible] cQ dF dV aM cP eC e5 e1 e2 e6 eX e4 J.L
abbrev sU(x:a4 bC):fJ:=x.gN 2 bC.cells []
def Jp(h:A->B:=by exact hT (pO (f:=a1) (a:=_) N rfl rfl rfl rfl (fO) cF p2 rfl qI) rfl):=h
def a6I(h:A->B:=by exact bE oS rfl rfl rfl):=h
def aIC(h:A->B:=by exact aI pL rfl):=h
def aFs(h:A->B:=by exact bE aDl rfl rfl rfl):=h
structure FQ where
 cV:Int
 zH:Int
 deriving Inhabited
def FQ.cells(s:FQ):List Value:=[.int .i64 s.cV,.int .i64 s.zH]
abbrev a5O(x:a4 FQ):fJ:=x.gN 2 FQ.cells []
structure M6{a7:Type}(n:Nat)(z:a7)(g:Nat->a7)(i:Nat)(l:List a7):Prop where
 len:l.length=n
 NV:∀j:Nat,j<i->l[j]?=some (g j)
 T4:∀j:Nat,i<=j->j<n->l[j]?=some z
def M6.zero{a7:Type}{n:Nat}{z:a7}{g:Nat->a7}:M6 n z g 0 (List.replicate n z):=⟨by simp,λj a6=>by omega,λj _ a6=>by rw[UE,if_pos a6]⟩
def M6.next{a7:Type}{n:Nat}{z:a7}{g:Nat->a7}{i:Nat}{l:List a7}(h:M6 n z g i l)(aE:i<n){x:a7}(K:x=g i):M6 n z g (i+1) (l.set i x):=by exact aOE
def M6.EX{a7:Type}{n:Nat}{z:a7}{g:Nat->a7}{i:Nat}{l:List a7}(h:M6 n z g i l)(aE:i<n)(K:z=g i):M6 n z g (i+1) l:=by exact aOJ
def M6.done{a7:Type}{n:Nat}{z:a7}{g:Nat->a7}{l:List a7}(h:M6 n z g n l):l=(List.range n).map g:=by
 have aX:=h.len;refine UG λj=>?_;rcases hF j n with a6|a6;·rw[h.NV j a6,pA,KP a6];rfl
 ·rw[uF D,uF DQ]
def D3(x:bC)(zH:Int):Int:=
 if x.bW<x.bU then 0 else if(zH<=0\/zH<=x.bU)\/x.bW<= -zH then 1 else if -zH<x.bU/\x.bW<zH then -1 else 0
def p4(aA:List bC)(f:FQ):Int:=if 0<=f.cV/\f.cV<aA.length then D3 (aA.getD f.cV.toNat default) f.zH else 0
def a5U(aA:List bC)(mI:List FQ):List Int:=(List.range mI.length).map λk=>p4 aA (mI.getD k default)
def aKN(mI:List FQ):Prop:=∀f∈mI,-4611686018427387904<=f.zH/\f.zH<=4611686018427387904
def aZQ(x:bC)(zH:Int)(L:aR)(R:aO)(b1:-4611686018427387904<=zH/\zH<=4611686018427387904):
 aM prog 275 [x.val,.int .i64 zH].toArray L R (λv E G=>v=.int .i64 (D3 x zH)/\L=E/\R=G):=by
 refine b6 39 call275 func275 rfl rfl rfl ?_;apply(dB);intro eH;apply(dM);refine eZ (a8 (bK (fR (bK (c2 ?_)))));apply j0∘KH∘w8;refine U ?_ ?_<;>intro aQ;·apply(uL);refine cX L R ?_;exact⟨by rw[D3,if_pos aQ],rfl,rfl⟩
 apply HO∘XK∘dE;apply cA (Z:=[_,_,_,_]) (j:=2) (a9:=14) rfl rfl aB rfl aY rfl;·intro fQ;replace fQ:=bB fQ;exact(gK) UM
 intro mK;apply(dE);apply cA (Z:=[_,_,_,_,_]) (j:=8) (a9:=20) rfl rfl aB rfl aY rfl;·intro gH;replace gH:=bB gH;exact(gK∘wX) RI
 intro uY;apply(w8);refine U ?_ ?_<;>intro bL;·apply(uL);refine cX L R ?_;exact⟨by rw[D3,if_neg D,if_pos D],rfl,rfl⟩
 apply dC∘gK∘wX∘KH∘dE;apply iR (Z:=[_,_,_,_]) (j:=5) (a9:=33) rfl rfl aB rfl aY rfl;·intro kL;replace kL:=bB kL;exact(gK) DU
 intro XC;apply(w8);refine U ?_ ?_<;>intro cC;·apply(uL);refine cX L R ?_;exact⟨by rw[D3,if_neg D,if_neg D,if_pos D],rfl,rfl⟩
 refine eP (hI (a8 (bK (c2 ?_))));apply(vB);refine cX L R ?_;exact⟨by rw[D3,if_neg D,if_neg D,if_neg D],rfl,rfl⟩
def aVD(aA:a4 bC)(mI:a4 FQ)(L:aR)(R:aO)(gA:aL (sU aA) R)(b3t:aL (a5O mI) R)(b1:aKN mI.l)(vN:mI.l.length<=1000)(a9E:aA.l.length<=1000):
 aM prog 232 [aA.val,mI.val].toArray L R (λw E G=>∃p:J Int,w=p.val/\p.ok 1 a1/\p.l=a5U aA.l mI.l/\p.L 3 a1++L=E/\R=G):=by
 refine b6 41 call232 func232 rfl rfl rfl ?_;apply dC∘vD∘pR∘GS;rintro v E G ⟨i0,rfl,rfl,Ew⟩;replace Ew:=Ew.symm;subst Ew;apply(HR);refine eM (ZE (f:=a1) (x:=0) rfl _) ?_;apply eB∘BN;refine dS [(0,.slice _ _ _),(5,.slice _ _ _),(11,.slice _ _ _),(12,.int _ _),(13,.int _ _)] bV λfK=>?_;refine k2 ([6,7]++cN 13 27) ((⟨λg=>[(13,.int .i64 ((g.1.1:Nat):Int))],λg=>(⟨.own i0 mI.l.length [],g.1.2⟩:J Int).L 3 a1++L,λ_=>R,λg=>mI.l.length-g.1.1⟩:fB {g:Nat×List Int//g.1<=mI.l.length/\M6 mI.l.length 0 (λk=>p4 aA.l (mI.l.getD k default)) g.1 g.2})) (⟨(0,List.replicate mI.l.length 0),by dsimp only;omega,.zero⟩) ?_;rintro⟨⟨k,l⟩,rG,fO⟩ cH;try dsimp only
 dsimp only at rG fO;have pW:=fO.len;have Tt:(⟨.own i0 mI.l.length [],l⟩:J Int).ok 1 a1:=by have:=ED (f:=a1) (aN:=1) (b:=i0) (n:=mI.l.length) (x:=0) HW DP;exact J.o6 HW this Wp
 apply(h0);refine U ?_ ?_<;>intro aQ;·
  have LV:=bJ (l:=mI.l) (k:=k) default D;have wA:=fO.T4 k (iK _) D;have tW:=b1 _ (hV LV);obtain⟨f,aF⟩:∃f,f=mI.l.getD k default:=⟨_,rfl⟩;rw[<-aF]at LV tW;apply oJ∘aIC∘LI;intro o0;apply dM∘z8∘GQ∘dE;apply iR (Z:=[_,_,_,_,_]) (j:=3) (a9:=21) rfl rfl aB rfl aY rfl;·intro eR;replace eR:=bB eR;exact(fD∘pR) DU
  intro h8;apply(b9);refine U ?_ ?_<;>intro bL;·have wN:=bJ (l:=aA.l) (k:=f.cV.toNat) default D;(have a9H:D3 (aA.l.getD f.cV.toNat default) f.zH=(λk=>p4 aA.l (mI.l.getD k default)) k:=by dsimp only;rw[<-aF,p4,if_pos D]);refine iS N [] [0,1,2,3,4,5,6,7,8,9,10] [11] ([bN.mk o0 _ _]) _ dO bI bA fM ?_;apply EA∘NH;refine fP aDl rfl rfl rfl rfl ?_;apply aBY∘mH;refine rQ rfl (aZQ (aA.l.getD f.cV.toNat default) f.zH _ _ tW) rfl rfl ?_;rintro v E G ⟨rfl,rfl,rfl⟩;refine⟨bA,iQ,?_⟩;refine fP (jA N ((⟨.own i0 mI.l.length [],l⟩:J Int)) _ rfl rfl ((show _=Value.slice _ _ _ from rfl).trans (w6 pW)) rfl bR (i:=k) dA jC) rfl rfl rfl rfl ?_;apply(zN);refine HN (j5 N ((⟨.own i0 mI.l.length [],l⟩:J Int)) (D3 (aA.l.getD f.cV.toNat default) f.zH) rfl rfl rfl rfl cF bR bD bR aW aB aB) rfl rfl ?_;rintro v E G ⟨rfl,rfl⟩;apply gJ∘PV;exact eO ⟨(k+1,l.set k (D3 (aA.l.getD f.cV.toNat default) f.zH)),by dsimp only;omega,fO.next D a9H⟩
  have a9H:(0:Int)=(λk=>p4 aA.l (mI.l.getD k default)) k:=by dsimp only;rw[<-aF,p4,if_neg D]
  apply(mU);exact eO ⟨(k+1,l),by dsimp only;omega,fO.EX D a9H⟩
 obtain rfl:k=mI.l.length:=by omega
 apply(SP);refine bQ ((⟨.own i0 mI.l.length [],l⟩:J Int).L 3 a1++L) R w2 ?_;exact⟨(⟨.own i0 mI.l.length [],l⟩:J Int),by simp only[J.val,g6.pS,g6.cap,pW],Tt,fO.done,rfl,rfl⟩
def b0g(aA:a4 bC)(mI:a4 FQ)(L:aR)(R:aO)(gA:aL (sU aA) R)(b3t:aL (a5O mI) R)(b1:aKN mI.l)(vN:mI.l.length<=1000)(a9E:aA.l.length<=1000):
 aM prog 298 [aA.val,mI.val].toArray L R (λw E G=>∃p:J Int,w=p.val/\p.ok 1 a1/\p.l=a5U aA.l mI.l/\p.L 3 a1++L=E/\R=G):=by
 refine b6 86 call298 func298 rfl rfl rfl ?_;apply dC∘vD∘v1∘nP;refine dS [(0,.slice _ _ _),(1,.slice _ _ _),(5,.slice _ _ _),(6,.int _ _)] bV λfK=>?_;refine qK (cN 5 80) ((⟨λg=>[(6,.int .i64 ((g.1.1:Nat):Int)),(5,g.1.2.val)],λg=>g.1.2.L 3 a1++L,λ_=>R,λg=>mI.l.length-g.1.1⟩:fB {g:Nat×J Int//g.1<=mI.l.length/\g.2.ok 1 a1/\g.2.l=(List.range g.1).map (λk=>p4 aA.l (mI.l.getD k default))})) (⟨(0,J.nil),by dsimp only;omega,J.iJ,rfl⟩) bV X2 eN ?_;rintro⟨⟨k,q⟩,rG,fO,lY⟩ cH;try dsimp only
 dsimp only at rG fO lY;have fT:q.l.length=k:=by rw[lY];simp
 apply(uM);refine U ?_ ?_<;>intro aQ;·
  have LV:=bJ (l:=mI.l) (k:=k) default D;have tW:=b1 _ (hV LV);obtain⟨f,aF⟩:∃f,f=mI.l.getD k default:=⟨_,rfl⟩;rw[<-aF]at LV tW;apply j9∘h9∘aIC∘LI;intro o0;apply sI∘P1;refine gZ N [0,1,2,3,4,5,6,7,8,9,10,11,12,13,14,15,16,17,18,19,20,21,22,23,24] ([bN.mk o0 _ _]) dO bI bA ?_;apply(g7);refine bE G4 rfl rfl rfl ?_;apply(sS);refine lQ (k:=23) aY (λfQ=>?_) (λfQ=>?_);·
   replace fQ:=bB fQ;apply g7∘a6I;refine bE yG rfl rfl rfl ?_;refine bE E0 rfl rfl rfl ?_;apply(k1);refine lQ (k:=30) aY (λmW=>?_) (λmW=>?_);·
    replace mW:=bB mW;have wN:=bJ (l:=aA.l) (k:=f.cV.toNat) default D;apply a6I∘g7∘aFs∘z7∘a6I∘g7∘aFs∘z7;refine bE (Qk rfl rfl) rfl rfl rfl ?_;apply(l2);refine U ?_ ?_<;>intro bL;·
     apply dC∘yY;refine aI aDl rfl ?_;apply(LI);intro jR;apply z8∘XK∘dE;apply cA (Z:=[_,_,_,_,_]) (j:=3) (a9:=53) rfl rfl aB rfl aY rfl;·intro eR;replace eR:=bB eR;exact(j0) UM
     intro h8;apply(dE);apply cA (Z:=[_,_,_,_,_,_]) (j:=10) (a9:=60) rfl rfl aB rfl aY rfl;·intro pE;replace pE:=bB pE;exact(j0∘wX) RI
     intro a2F;apply(b9);refine U ?_ ?_<;>intro cC;·
      apply eB∘dM;refine eZ (a8 (c2 ?_));apply(SU);rintro v E G ⟨Sb,rfl,rfl,xD⟩;replace xD:=xD.symm;subst xD;apply(Jp);rintro v E G ⟨Q8,rfl,QU,rfl,rfl⟩;apply(JQ);exact hP ⟨(k+1,(⟨Q8,_⟩:J Int)),by dsimp only;omega,QU,by
      dsimp only;rw[IX,u1,lY];refine congrArg (λz=>_++[z]) ?_;show _=p4 aA.l (mI.l.getD k default);rw[<-aF];simp only[p4,D3];(repeat' split);all_goals omega⟩ gW bV bA eN hO
     apply dC∘j0∘wX∘KH∘dE;apply iR (Z:=[_,_,_,_,_]) (j:=6) (a9:=74) rfl rfl aB rfl aY rfl;·intro kF;replace kF:=bB kF;exact(j0) DU
     intro IJ;apply(b9);refine U ?_ ?_<;>intro dX;·
      apply eB∘dM;refine eZ (a8 (c2 ?_));apply(SU);rintro v E G ⟨Sb,rfl,rfl,xD⟩;replace xD:=xD.symm;subst xD;apply(Jp);rintro v E G ⟨Q8,rfl,QU,rfl,rfl⟩;apply(JQ);exact hP ⟨(k+1,(⟨Q8,_⟩:J Int)),by dsimp only;omega,QU,by
      dsimp only;rw[IX,u1,lY];refine congrArg (λz=>_++[z]) ?_;show _=p4 aA.l (mI.l.getD k default);rw[<-aF];simp only[p4,D3];(repeat' split);all_goals omega⟩ gW bV bA eN hO
     refine eP (a8 (c2 ?_));apply(SU);rintro v E G ⟨Sb,rfl,rfl,xD⟩;replace xD:=xD.symm;subst xD;apply(Jp);rintro v E G ⟨Q8,rfl,QU,rfl,rfl⟩;apply(JQ);exact hP ⟨(k+1,(⟨Q8,_⟩:J Int)),by dsimp only;omega,QU,by
     dsimp only;rw[IX,u1,lY];refine congrArg (λz=>_++[z]) ?_;show _=p4 aA.l (mI.l.getD k default);rw[<-aF];simp only[p4,D3];(repeat' split);all_goals omega⟩ gW bV bA eN hO
    refine eP (a8 (c2 ?_));apply(SU);rintro v E G ⟨Sb,rfl,rfl,xD⟩;replace xD:=xD.symm;subst xD;apply(Jp);rintro v E G ⟨Q8,rfl,QU,rfl,rfl⟩;apply(JQ);exact hP ⟨(k+1,(⟨Q8,_⟩:J Int)),by dsimp only;omega,QU,by
    dsimp only;rw[IX,u1,lY];refine congrArg (λz=>_++[z]) ?_;show _=p4 aA.l (mI.l.getD k default);rw[<-aF];simp only[p4,D3];(repeat' split);all_goals omega⟩ gW bV bA eN hO
   replace mW:=bB mW;(iterate 13 apply(iU));apply(l2);refine MX rfl ?_;refine eP (a8 (c2 ?_));apply(SU);rintro v E G ⟨Sb,rfl,rfl,xD⟩;replace xD:=xD.symm;subst xD;apply(Jp);rintro v E G ⟨Q8,rfl,QU,rfl,rfl⟩;apply(JQ);exact hP ⟨(k+1,(⟨Q8,_⟩:J Int)),by dsimp only;omega,QU,by
   dsimp only;rw[IX,u1,lY];refine congrArg (λz=>_++[z]) ?_;show _=p4 aA.l (mI.l.getD k default);rw[<-aF];simp only[p4,D3];(repeat' split);all_goals omega⟩ gW bV bA eN hO
  replace fQ:=bB fQ;iterate 5 apply(iU)
  apply(k1);iterate 13 apply(iU)
  apply(l2);refine MX rfl ?_;refine eP (a8 (c2 ?_));apply(SU);rintro v E G ⟨Sb,rfl,rfl,xD⟩;replace xD:=xD.symm;subst xD;apply(Jp);rintro v E G ⟨Q8,rfl,QU,rfl,rfl⟩;apply(JQ);exact hP ⟨(k+1,(⟨Q8,_⟩:J Int)),by dsimp only;omega,QU,by
  dsimp only;rw[IX,u1,lY];refine congrArg (λz=>_++[z]) ?_;show _=p4 aA.l (mI.l.getD k default);rw[<-aF];simp only[p4,D3];repeat' split
  all_goals omega⟩ gW bV bA eN hO
 obtain rfl:k=mI.l.length:=by omega
 apply(SP);refine bQ (q.L 3 a1++L) R w2 ?_;exact⟨q,rfl,fO,lY,rfl,rfl⟩
end
abbrev Qb:=List Int×List Int
def Ax(s:Qb):cS:=⟨⟨none,0,s.1⟩,⟨none,0,s.2⟩⟩
abbrev R6(s:cS):Qb:=(s.c3.l,s.cM.l)
def ZM(a:b3)(A:List Bool)(s:Qb):List bC:=(rM a (Ax s) A).2
end Go.Proofs.YtchfclmokpbldaaGreat
