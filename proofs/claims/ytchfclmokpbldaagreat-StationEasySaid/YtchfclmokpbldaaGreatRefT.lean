-- By an AI agent; no person has read it.
import Derived.Test.YtchfclmokpbldaaGreatRefS
import Derived.Test.YtchfclmokpbldaaGreatRefN
import Derived.Test.YtchfclmokpbldaaGreatRestN
import Derived.Test.YtchfclmokpbldaaGreatStaG
set_option linter.all false
set_option maxHeartbeats 4000000
variable{A B:Prop}
namespace Go.Proofs.YtchfclmokpbldaaGreat
open Go.Aw Go Go.Proofs.Tryz
set_option maxRecDepth 20000
attribute [local irreducible] cQ dF dV aM cP eC e5 e1 e2 e6 eX e4 J.L
def vV(h:A->B:=by exact aI xR rfl):=h
def a06(h:A->B:=by exact P8 N rfl rfl rfl rfl sX aB aB aB):=h
def Zc(h:B:=by exact⟨u,by rw[eV],by rw[eV];exact dL,AY,rfl,λr M=>((kJ r M).mono (lS aA)).mono kY⟩):=h
def a7I(h:A->B:=by exact aI mM rfl):=h
def a40(h:A->B:=by exact bE q1 rfl rfl rfl):=h
def a7n(h:A->B:=by exact bE xR rfl rfl rfl):=h
def a5x(h:A->B:=by exact bE DT rfl rfl rfl):=h
def aEi(h:A->B:=by exact aI DT rfl):=h
def aFJ(h:A->B:=by exact bE mM rfl rfl rfl):=h
def aJX(h:A->B:=by exact Oz rfl rfl rfl rfl sX aB aB aB bA):=h
def Dh(g:hL)(q:bZ×Int)(L:aR)(R:aO):oK:=λv E G=>∃y:cL,v=.tuple #[y.val,.int .i64 q.2]/\h3 g q.1 y/\kU y G/\L=E/\∀r∈R,aL r G
def aTT(g:hL)(p:bZ)(x:cL)(t:Int)(L:aR)(R:aO)(K:h3 g p x):
 aM prog 214 [x.val,.int .i64 t].toArray L R (λv E G=>v=.bool (!decide (nU p t))/\L=E/\R=G):=by
 have r2:x.time=p.time:=K.time;refine b6 13 call214 func214 rfl rfl rfl ?_;apply(dB);intro eH;apply nG∘FX∘Y7∘dE;apply iR (Z:=[_,_]) (j:=4) (a9:=9) rfl rfl aB rfl aY rfl;·intro hD;replace hD:=bB hD;exact(cE) RI
 intro wP;apply(uK);refine lG L R ?_;exact⟨by refine congrArg Value.bool ?_;rw[Bv,<-decide_not,decide_eq_true_iff (p:=¬nU p t),nU,<-r2];simp,rfl,rfl⟩
def aVq(g:hL)(p:bZ)(x:cL)(t:Int)(L:aR)(R:aO)(eT:Inv g p)(K:h3 g p x)(bO:kU x R):
 aM prog 137 [x.val,.int .i64 t].toArray L R (Dh g (FC g p t) L R):=by
 refine b6 14 call137 func137 rfl rfl rfl ?_;apply(dB);intro eH;apply(dZ);intro eD;apply hH∘vV∘cE;refine cD rfl Om ?_;apply(nK);refine U ?_ ?_<;>intro aQ;·
  apply dC∘vV∘p8;refine bQ L R oC ?_;have aX:nU p t:=by simpa using aQ
  exact⟨x,by rw[FC,if_pos aX],by rw[FC,if_pos aX];exact K,bO,rfl,n1 _⟩
 have aX:¬nU p t:=by simpa using aQ
 have fH:=uH aX;apply e0∘vV∘cE;refine dT rfl a3L rfl ?_;rintro v E G ⟨y,rfl,aS,iG,rfl,kJ⟩;apply(oH);refine bQ L _ oC ?_;exact⟨y,by rw[FC,if_neg aX],by rw[FC,if_neg aX];exact aS,iG,rfl,kJ⟩
def aVl(g:hL)(p:bZ)(x:cL)(k sh t:Int)(L:aR)(R:aO)(eT:Inv g p)(K:h3 g p x)(bO:kU x R):
 aM prog 133 [x.val,.int .i64 k,.int .i64 sh,.int .i64 t].toArray L R (Dh g (AF g p k sh t) L R):=by
 have AQ:x.cU.aZ.l=p.Y:=K.Y;have QL:x.cU.a2.l=g.cI:=K.cI;have kE:x.cU.cB=g.bX:=K.bX;have EH:q6 x.cU.aZ.l x.cU.a2.l x.cU.cB k sh=q6 p.Y g.cI g.bX k sh:=by rw[AQ,QL,kE]
 refine b6 34 call133 func133 rfl rfl rfl ?_;apply(dB);intro eD;apply(dZ);intro h6;apply hH∘vV∘cE;refine cD rfl Om ?_;apply(nK);refine U ?_ ?_<;>intro aQ;·
  apply dC∘vV∘p8;refine bQ L R oC ?_;have aX:nU p t:=by simpa using aQ
  exact⟨x,by rw[AF,if_pos aX],by rw[AF,if_pos aX];exact K,bO,rfl,n1 _⟩
 have aX:¬nU p t:=by simpa using aQ
 have fH:=uH aX;apply e0∘e7∘a7I∘lD;refine dT rfl (b0Q x.cU k sh _ _ bO.cU) rfl ?_;rintro v E G ⟨B9,EV,Ho,rfl,⟨aAs,aAO⟩,a9g,rfl,rfl⟩;refine aI iL rfl ?_;apply(CS);intro i0;apply jZ∘PT;refine U ?_ ?_<;>intro bL;·
  apply dC∘vV∘tQ;refine bQ L R oC ?_;have W:q6 p.Y g.cI g.bX k sh≠0:=by rw[<-EH];exact bL
  exact⟨x,by rw[AF,if_neg aX,if_pos W,EH],by rw[AF,if_neg aX,if_pos W];exact K,bO,rfl,n1 _⟩
 apply e0∘a7I∘e7∘a06∘j2;refine hB (T:=3) (f:=a1) (aN:=1) EV [] cF bD aW aAO e8 ?_;refine eM gD ?_;refine hB (T:=76) (f:=bS.cells) (aN:=5) B9 [] cF bD aW aAs e8 ?_;refine eM gD ?_;have W:q6 p.Y g.cI g.bX k sh=0:=by rw[<-EH];exact Decidable.not_not.1 bL
 obtain⟨WT,aAN,aAT⟩:=a9g (by rw[EH];exact W);have vK:=eT.a7S W;have Ta:h3 g {p with Y:=JV p.Y k sh} ({x with cU:=⟨B9.V,EV.V,Ho⟩}:cL):={K with Y:=by rw[<-AQ];exact WT,cI:=aAN.trans QL,bX:=aAT.trans kE};have lS:∀r∈R,aL r (s4 B9.V::dU EV.V::R):=λr M=>aT (.tail _ (.tail _ M));have a9d:kU ({x with cU:=⟨B9.V,EV.V,Ho⟩}:cL) (s4 B9.V::dU EV.V::R):=⟨bO.aK.mono lS,bO.held.mono lS,bO.c7.mono lS,bO.eG.mono lS,bO.aV.mono lS,⟨aT (.head _),aT (.tail _ (.head _))⟩,bO.eQ.mono lS⟩;apply eB∘vV∘cE;refine dT rfl (a7J g _ _ t _ _ vK Ta a9d fH) rfl ?_;rintro v E G ⟨y,rfl,aS,iG,rfl,kJ⟩;apply(oH);refine bQ L _ oC ?_;have e:AF g p k sh t=(bP g {p with Y:=JV p.Y k sh} t,0):=by rw[AF,if_neg aX,if_neg Xt]
 exact⟨y,by rw[e],by rw[e];exact aS,iG,rfl,λr M=>(lS r M).mono kJ⟩
def kU.aD{x:cL}{q:jP}{R:aO}(h:kU x R):kU ({x with aD:=q}:cL) R:=⟨h.aK,h.held,h.c7,h.eG,h.aV,h.cU,h.eQ⟩
def FJ.of{g:hL}{p:bZ}{y:cL}{aA:a4 bC}{R:aO}(bO:kU y R):FJ y.aK y.aV aA (sU aA::R):=⟨bO.aK.mono λr M=>aT (.tail _ M),bO.aV.mono λr M=>aT (.tail _ M),aT (.head _)⟩
def aWd(g:hL)(p:bZ)(x:cL)(a z t:Int)(L:aR)(R:aO)(eT:Inv g p)(K:h3 g p x)(bO:kU x R):
 aM prog 134 [x.val,.int .i64 a,.int .i64 z,.int .i64 t].toArray L R (Dh g (x0 g p a z t) L R):=by
 refine b6 48 call134 func134 rfl rfl rfl ?_;apply(dB);intro eD;apply(dZ);intro h6;apply hH∘vV∘cE;refine cD rfl Om ?_;apply(nK);refine U ?_ ?_<;>intro aQ;·
  apply dC∘vV∘p8;refine bQ L R oC ?_;have aX:nU p t:=by simpa using aQ
  exact⟨x,by rw[x0,if_pos aX],by rw[x0,if_pos aX];exact K,bO,rfl,n1 _⟩
 have aX:¬nU p t:=by simpa using aQ
 have fH:=uH aX;have mV:=eT.settle fH.1 fH.2;apply e0∘vV∘cE;refine dT rfl a3L rfl ?_;rintro v E G ⟨y,rfl,aS,iG,rfl,kJ⟩;obtain⟨gS,rfl⟩:∃gS,gS=G:=⟨_,rfl⟩;have KB:u6 y gS:=u6.of mV aS iG.aK iG.c7;have uS:lB y.aK.b0.aC g.b0:=fX.xA aS.aK mV.xA;have rD:y.aD=(bP g p t).aD:=aS.aD;have lS:∀aA:a4 bC,∀r∈gS,aL r (sU aA::gS):=λ_ r M=>aT (.tail _ M);try dsimp only[cL.cells]
 apply(HT);refine gZ N [0,1,2,3,4,6,7,8,9,10,5,11,12,13,14,15,16,17] ([bN.mk eD _ _]) dO bI bA ?_;apply lA∘a40∘g7∘a7n∘lA∘a5x;iterate 3 apply(hK)
 refine tP rfl (a0C y g.b0 _ _ KB uS) rfl rfl ?_;rintro v E G ⟨aA,rfl,gA,rfl,rfl⟩;refine⟨bA,iQ,?_⟩;have i2:aA.l=e9 g (bP g p t):=gA.trans (h3.vI aS);refine lW rfl (aWB y.aK y.aV aA y.aD a z t _ _ (FJ.of (g:=g) (p:=p) iG) (by rw[i2];exact a6N mV)) ?_;refine bE iL rfl rfl rfl ?_;refine bE q2 rfl rfl rfl ?_;refine bE q2 rfl rfl rfl ?_;apply(qH);intro i0;apply(v0);refine g5 (a8 (bK (bK ?_)));have mQ:y.aV.l=(bP g p t).aV:=aS.aV;have EH:oZ y.aK y.aV.l aA.l y.aD a z t=oZ g.aK (bP g p t).aV (e9 g (bP g p t)) (bP g p t).aD a z t:=by rw[fX.oZ aS.aK,mQ,i2,rD]
 have Eo:s9 y.aK y.aV.l aA.l y.aD a z t=s9 g.aK (bP g p t).aV (e9 g (bP g p t)) (bP g p t).aD a z t:=by rw[fX.s9 aS.aK,mQ,i2,rD]
 rw[EH,Eo];obtain⟨e,W⟩:∃e,e=oZ g.aK (bP g p t).aV (e9 g (bP g p t)) (bP g p t).aD a z t:=⟨_,rfl⟩;rw[<-W];apply(SS);refine U ?_ ?_<;>intro bL;·
  apply dC∘vV∘lD;refine dT rfl (SC g (bP g p t) y 7 z e _ _ aS (iG.mono (lS aA)) mV.eQ) rfl ?_;rintro v E G ⟨u,rfl,dL,AY,rfl,kY⟩;apply(tQ);refine bQ L _ oC ?_;have eV:x0 g p a z t=(nT (bP g p t) 7 z e,e):=by rw[x0,if_neg aX];dsimp only;rw[<-W,if_pos bL]
  exact Zc
 apply e0∘aEi∘e7∘a06∘j2;obtain⟨k6,xI⟩:∃k6:cL,k6={y with aD:=s9 g.aK (bP g p t).aV (e9 g (bP g p t)) (bP g p t).aD a z t}:=⟨_,rfl⟩;have Hb:h3 g {(bP g p t)with aD:=s9 g.aK (bP g p t).aV (e9 g (bP g p t)) (bP g p t).aD a z t} k6:=by rw[xI];exact{aS with aD:=rfl}
 have Hc:kU k6 (sU aA::gS):=by rw[xI];exact(iG.mono (lS aA)).aD
 refine tO (E:=⟨h6,uD.cells,54⟩::⟨eD,k6.cells,54⟩::L) (by rw[xI];exact bA) eN ?_;try dsimp only[cL.cells]
 apply eB∘vV∘lD;refine dT rfl (SC g _ k6 4 z a _ _ Hb Hc mV.eQ) rfl ?_;rintro v E G ⟨u,rfl,dL,AY,rfl,kY⟩;apply(oH);refine bQ L _ oC ?_;have eV:x0 g p a z t=(nT {(bP g p t)with aD:=s9 g.aK (bP g p t).aV (e9 g (bP g p t)) (bP g p t).aD a z t} 4 z a,0):=by rw[x0,if_neg aX];dsimp only;rw[<-W,if_neg bL]
 exact Zc
def b0M(g:hL)(p:bZ)(x:cL)(a t:Int)(L:aR)(R:aO)(eT:Inv g p)(K:h3 g p x)(bO:kU x R):
 aM prog 135 [x.val,.int .i64 a,.int .i64 t].toArray L R (Dh g (z1 g p a t) L R):=by
 refine b6 49 call135 func135 rfl rfl rfl ?_;apply(dB);intro eS;apply(dZ);intro i1;apply hH∘vV∘cE;refine cD rfl Om ?_;apply(nK);refine U ?_ ?_<;>intro aQ;·
  apply dC∘vV∘p8;refine bQ L R oC ?_;have aX:nU p t:=by simpa using aQ
  exact⟨x,by rw[z1,if_pos aX],by rw[z1,if_pos aX];exact K,bO,rfl,n1 _⟩
 have aX:¬nU p t:=by simpa using aQ
 have fH:=uH aX;have mV:=eT.settle fH.1 fH.2;apply e0∘vV∘cE;refine dT rfl a3L rfl ?_;rintro v E G ⟨y,rfl,aS,iG,rfl,kJ⟩;obtain⟨gS,rfl⟩:∃gS,gS=G:=⟨_,rfl⟩;have KB:u6 y gS:=u6.of mV aS iG.aK iG.c7;have uS:lB y.aK.b0.aC g.b0:=fX.xA aS.aK mV.xA;have rD:y.aD=(bP g p t).aD:=aS.aD;have lS:∀aA:a4 bC,∀r∈gS,aL r (sU aA::gS):=λ_ r M=>aT (.tail _ M);try dsimp only[cL.cells]
 apply sI∘HP∘x2;refine gZ N [0,1,2,3,4,6,7,8,9,5,10,11,12,13,14,15,16] ([bN.mk eS _ _]) dO bI bA ?_;apply lA∘a40∘g7∘a7n∘lA∘a5x∘hK∘hK;refine tP rfl (a0C y g.b0 _ _ KB uS) rfl rfl ?_;rintro v E G ⟨aA,rfl,gA,rfl,rfl⟩;refine⟨bA,iQ,?_⟩;have i2:aA.l=e9 g (bP g p t):=gA.trans (h3.vI aS);refine lW rfl (b0F y.aK y.aV aA y.aD a t _ _ (FJ.of (g:=g) (p:=p) iG) (by rw[i2];exact a6N mV) (by rw[rD];exact mV.aD.1)) ?_;refine bE iL rfl rfl rfl ?_;refine bE q2 rfl rfl rfl ?_;refine bE q2 rfl rfl rfl ?_;apply(qH);intro jR;apply(v0);refine g5 (a8 (bK (bK ?_)));have mQ:y.aV.l=(bP g p t).aV:=aS.aV;have EH:rV y.aK y.aV.l aA.l y.aD a t=rV g.aK (bP g p t).aV (e9 g (bP g p t)) (bP g p t).aD a t:=by rw[fX.rV aS.aK,mQ,i2,rD]
 have Eo:tU y.aK y.aV.l aA.l y.aD a t=tU g.aK (bP g p t).aV (e9 g (bP g p t)) (bP g p t).aD a t:=by rw[fX.tU aS.aK,mQ,i2,rD]
 rw[EH,Eo];obtain⟨e,W⟩:∃e,e=rV g.aK (bP g p t).aV (e9 g (bP g p t)) (bP g p t).aD a t:=⟨_,rfl⟩;rw[<-W];apply(SS);refine U ?_ ?_<;>intro bL;·
  apply dC∘vV∘lD;refine dT rfl (SC g (bP g p t) y 7 y.aD.dN e _ _ aS (iG.mono (lS aA)) mV.eQ) rfl ?_;rintro v E G ⟨u,rfl,dL,AY,rfl,kY⟩;apply(tQ);refine bQ L _ oC ?_;have eV:z1 g p a t=(nT (bP g p t) 7 y.aD.dN e,e):=by rw[z1,if_neg aX];dsimp only;rw[<-W,if_pos bL,rD]
  exact Zc
 apply e0∘aEi∘e7∘a06∘j2;obtain⟨k6,xI⟩:∃k6:cL,k6={y with aD:=tU g.aK (bP g p t).aV (e9 g (bP g p t)) (bP g p t).aD a t}:=⟨_,rfl⟩;have Hb:h3 g {(bP g p t)with aD:=tU g.aK (bP g p t).aV (e9 g (bP g p t)) (bP g p t).aD a t} k6:=by rw[xI];exact{aS with aD:=rfl}
 have Hc:kU k6 (sU aA::gS):=by rw[xI];exact(iG.mono (lS aA)).aD
 refine tO (E:=⟨i1,uD.cells,54⟩::⟨eS,k6.cells,54⟩::L) (by rw[xI];exact bA) eN ?_;try dsimp only[cL.cells]
 apply eB∘vV∘lD;refine dT rfl (SC g _ k6 5 y.aD.dN a _ _ Hb Hc mV.eQ) rfl ?_;rintro v E G ⟨u,rfl,dL,AY,rfl,kY⟩;apply(oH);refine bQ L _ oC ?_;have eV:z1 g p a t=(nT {(bP g p t)with aD:=tU g.aK (bP g p t).aV (e9 g (bP g p t)) (bP g p t).aD a t} 5 y.aD.dN a,0):=by rw[z1,if_neg aX];dsimp only;rw[<-W,if_neg bL,rD]
 exact Zc
def aWh(g:hL)(p:bZ)(x:cL)(t:Int)(L:aR)(R:aO)(eT:Inv g p)(K:h3 g p x)(bO:kU x R):
 aM prog 136 [x.val,.int .i64 t].toArray L R (Dh g (zU g p t) L R):=by
 refine b6 67 call136 func136 rfl rfl rfl ?_;apply(dB);intro eH;apply(dZ);intro eD;apply hH∘vV∘cE;refine cD rfl Om ?_;apply(nK);refine U ?_ ?_<;>intro aQ;·
  apply dC∘vV∘p8;refine bQ L R oC ?_;have aX:nU p t:=by simpa using aQ
  exact⟨x,by rw[zU,if_pos aX],by rw[zU,if_pos aX];exact K,bO,rfl,n1 _⟩
 have aX:¬nU p t:=by simpa using aQ
 have fH:=uH aX;have mV:=eT.settle fH.1 fH.2;apply e0∘vV∘cE;refine dT rfl a3L rfl ?_;rintro v E G ⟨y,rfl,aS,iG,rfl,kJ⟩;obtain⟨gS,rfl⟩:∃gS,gS=G:=⟨_,rfl⟩;have KB:u6 y gS:=u6.of mV aS iG.aK iG.c7;have uS:lB y.aK.b0.aC g.b0:=fX.xA aS.aK mV.xA;have rD:y.aD=(bP g p t).aD:=aS.aD;have mQ:y.aV.l=(bP g p t).aV:=aS.aV;have IE:a4o y.cU (nY g (bP g p t)):=⟨aS.Y,aS.cI,aS.bX⟩;have sP:=mV.Ik;have kK:=mV.BU;have rZ:=mV.ZN;have TJ:=mV.aD;rw[<-rD]at TJ;have He:y.cU.a2.l=g.cI:=aS.cI;have a2u:y.cU.aZ.l=(bP g p t).Y:=aS.Y;have b3w:jS y.cU.aZ.l y.cU.a2.l y.cU.cB=0:=by rw[a2u,He,aS.bX];exact mV.y6
 have lS:∀aA:a4 bC,∀r∈gS,aL r (sU aA::gS):=λ_ r M=>aT (.tail _ M);have o4:=iG.cU.cI;have vN:y.cU.a2.l.length=(bP g p t).aV.length:=by rw[He,sP,kK]
 try dsimp only[cL.cells]
 apply sI∘HP∘mO∘Y3∘D7;refine F3 ([7]++cN 25 9) ((⟨λg=>[(7,.int .i64 g.1)],λ_=>⟨eD,uD.cells,54⟩::⟨eH,y.cells,54⟩::L,λ_=>gS,λ_=>0⟩:fB {a:Int//0<=y.aD.dN->a=v5 y.cU y.aD.dN})) ?_ ?_;·
  skip
  refine U ?_ ?_<;>intro bL;·have qG:=bJ (l:=y.cU.a2.l) (k:=y.aD.dN.toNat) 0 D;have A0:=rZ.X5 y.aD.dN.toNat D;rw[<-He,<-a2u]at A0;refine gZ N [0,1,2,3,4,5,6,7,8,9] ([bN.mk eH _ _]) dO bI bA ?_;apply lA∘aFJ∘lA∘l1;refine bE (by first|exact j4 N rfl rfl rfl rfl i9 (i:=y.aD.dN.toNat) dA D|exact i5 N rfl rfl rfl rfl (i:=y.aD.dN.toNat) dA D) rfl rfl rfl ?_;apply(k4);refine lW rfl (aIv y.cU (y.cU.a2.l.getD y.aD.dN.toNat 0) _ _ iG.cU b3w D) ?_;apply(qV);refine g5 ?_;exact Df ⟨PG y.cU.aZ.l (vU y.cU.aZ.l y.cU.a2.l y.cU.cB (y.cU.a2.l.getD y.aD.dN.toNat 0)),λ_=>rfl⟩ gW bV hA eN
  refine eP ?_;exact Df ⟨-1,λh=>absurd h bL⟩ gW bV hA eN
 rintro⟨a,bT⟩ cH;try dsimp only
 dsimp only[cL.cells];refine bK ?_;refine gZ N [0,1,2,3,4,6,7,8,9,10,5,11,12,13,14,15,16,17,18,19,20,21,22] ([bN.mk eH _ _]) dO bI bA ?_;apply lA∘a40∘g7∘a7n∘lA∘a5x∘lA∘aFJ∘hK;refine tP rfl (a0C y g.b0 _ _ KB uS) rfl rfl ?_;rintro v E G ⟨aA,rfl,gA,rfl,rfl⟩;refine⟨bA,iQ,?_⟩;have i2:aA.l=e9 g (bP g p t):=gA.trans (h3.vI aS);refine tP rfl (aYj y.aK y.aV aA y.aD y.cU t _ _ (FJ.of (g:=g) (p:=p) iG) (iG.cU.mono (lS aA)) (by rw[i2];exact a6N mV) TJ.1 (by rw[mQ];have:=mV.OQ.len;omega)) rfl rfl ?_;rintro v E G ⟨Bl,k7,lJ,m4,r3,AK,fV,jK,Ay,Ld,bX,eY,wS,oQ,rfl,⟨TN,aAB,aAK⟩,WB,rfl,rfl⟩;refine⟨bA,iQ,?_⟩;have Fp:qL y.aK y.aV.l aA.l y.aD y.cU t=qL g.aK (bP g p t).aV (e9 g (bP g p t)) (bP g p t).aD (nY g (bP g p t)) t:=by rw[Rd aS.aK IE,mQ,i2,rD]
 rw[Fp]at WB|-;refine bE iL rfl rfl rfl ?_;iterate 4 refine bE q2 rfl rfl rfl ?_
 apply(qH);intro h6;apply(qH);intro i0;apply(uC);refine bE zT rfl rfl rfl ?_;apply(v0);refine g5 (a8 (bK (bK ?_)));obtain⟨e,W⟩:∃e,e=qL g.aK (bP g p t).aV (e9 g (bP g p t)) (bP g p t).aD (nY g (bP g p t)) t:=⟨_,rfl⟩;rw[<-W]at WB Fp|-;refine hB (T:=71) (f:=b8.cells) (aN:=3) eY [] cF bD aW TN e8 ?_;refine eM gD ?_;refine hB (T:=3) (f:=a1) (aN:=1) oQ [] cF bD aW aAK e8 ?_;refine eM gD ?_;refine hB (T:=76) (f:=bS.cells) (aN:=5) wS [] cF bD aW aAB e8 ?_;refine eM gD ?_;obtain⟨oV,F8⟩:∃oV,oV=s4 wS.V::dU oQ.V::sE eY.V::sU aA::gS:=⟨_,rfl⟩;have EJ:∀r∈gS,aL r oV:=λr M=>aT (by rw[F8];exact .tail _ (.tail _ (.tail _ (.tail _ M))));have Ug:aL (sE eY.V) oV:=aT (by rw[F8];exact .tail _ (.tail _ (.head _)));have aAv:k0 ⟨wS.V,oQ.V,y.cU.cB⟩ oV:=⟨aT a36,aT (by rw[F8];exact .tail _ (.head _))⟩;refine wK (show _=oV by rw[F8]) ?_;apply(SS);refine U ?_ ?_<;>intro cC;·
  apply dC∘vV∘lD;refine dT rfl (SC g (bP g p t) y 7 y.aD.dN e _ _ aS (iG.mono EJ) mV.eQ) rfl ?_;rintro v E G ⟨u,rfl,dL,AY,rfl,kY⟩;apply(tQ);refine bQ L _ oC ?_;have eV:zU g p t=(nT (bP g p t) 7 y.aD.dN e,e):=by rw[zU,if_neg aX];dsimp only;rw[<-W,if_pos cC,rD]
  exact aPA
 have o2:e=0:=Decidable.not_not.1 cC;obtain⟨aAL,WJ,AX,b6a,rfl,aM2,b5c,b5d⟩:=WB o2;cases WJ;cases AX;cases b6a;have v8:mP y.aK y.aV.l aA.l y.aD y.cU t=0:=by have JZ:qL y.aK y.aV.l aA.l y.aD y.cU t=0:=Fp.trans o2;exact aPt
 obtain⟨xI,-,-⟩:=a7l v8;have N2:a=v5 (nY g (bP g p t)) (bP g p t).aD.dN:=by rw[bT xI.1,Cs IE,rD]
 obtain⟨k6,aBk⟩:∃k6:cL,k6={y with aD:=Bl,aV:=eY.V,cU:=⟨wS.V,oQ.V,y.cU.cB⟩}:=⟨_,rfl⟩;have Hb:h3 g ({(bP g p t)with aD:=x4 g.aK (bP g p t).aV (e9 g (bP g p t)) (bP g p t).aD (nY g (bP g p t)) t,aV:=AE g.aK (bP g p t).aV (e9 g (bP g p t)) (bP g p t).aD (nY g (bP g p t)) t,Y:=BR g.aK (bP g p t).aV (e9 g (bP g p t)) (bP g p t).aD (nY g (bP g p t)) t}:bZ) k6:=by rw[aBk];exact{aS with aD:=by show Bl=_;rw[aAL,aKc aS.aK IE,mQ,i2,rD],aV:=by show eY.l=_;rw[aM2,aJk aS.aK IE,mQ,i2,rD],Y:=by show wS.l=_;rw[b5c,aEY aS.aK IE,mQ,i2,rD],cI:=b5d.trans He}
 have Hc:kU k6 oV:=by rw[aBk];exact⟨iG.aK.mono EJ,iG.held.mono EJ,iG.c7.mono EJ,iG.eG.mono EJ,Ug,aAv,iG.eQ.mono EJ⟩
 apply(wW);refine iS N [59,60] [0,1,2] [3,4,5,6,7,8] ([bN.mk i0 _ _,bN.mk h6 _ _,bN.mk eH _ _]) _ dO bI bA aC9 ?_;refine fP DT rfl rfl rfl rfl ?_;refine m2 oS rfl rfl rfl rfl ?_;refine m2 mM rfl rfl rfl rfl ?_;apply zN∘lA∘aJX∘PQ∘lA∘aJX∘IP;refine tO (E:=⟨eD,uD.cells,54⟩::⟨eH,k6.cells,54⟩::L) (by rw[aBk];exact bA) eN ?_;dsimp only[cL.cells];apply eB∘vV∘cE;refine dT rfl (SC g _ k6 6 a 0 _ _ Hb Hc mV.eQ) rfl ?_;rintro v E G ⟨u,rfl,dL,AY,rfl,kY⟩;apply(oH);refine bQ L _ oC ?_;have eV:zU g p t=(nT ({(bP g p t)with aD:=x4 g.aK (bP g p t).aV (e9 g (bP g p t)) (bP g p t).aD (nY g (bP g p t)) t,aV:=AE g.aK (bP g p t).aV (e9 g (bP g p t)) (bP g p t).aD (nY g (bP g p t)) t,Y:=BR g.aK (bP g p t).aV (e9 g (bP g p t)) (bP g p t).aD (nY g (bP g p t)) t}:bZ) 6 a 0,0):=by rw[zU,if_neg aX];dsimp only;rw[<-W,if_neg cC,N2]
 exact aPA
def b0r(g:hL)(p:bZ)(x:cL)(nC:a4 Int)(t:Int)(L:aR)(R:aO)(eT:Inv g p)(K:h3 g p x)(bO:kU x R)(ZX:aL (gX nC) R)(a14:pN nC.l)(a9l:nC.l.length<=100000)(QK:0<=p.eK/\p.eK<=1152921504606846976):
 aM prog 132 [x.val,nC.val,.int .i64 t].toArray L R (Dh g (FD g p nC.l t) L R):=by
 have TX:x.eK=p.eK:=K.eK;have Z9:x.held.l=p.held:=K.held;have aMs:=eT.held;have m6:x.aK.cO.l=g.aK.cO.l:=fX.OP K.aK;have GL:=eT.OQ.len;have Sp:pN (x.held.l++nC.l):=λy aS=>by exact aP9
 have b4a:=bO.c7;have QQ:x.c7.l.length=g.aK.cO.l.length:=by rw[K.c7];exact eT.c7
 refine b6 61 call132 func132 rfl rfl rfl ?_;apply(dB);intro eS;apply(dZ);intro i1;apply hH∘vV∘cE;refine cD rfl Om ?_;apply(nK);refine U ?_ ?_<;>intro aQ;·
  apply dC∘vV∘p8;refine bQ L R oC ?_;have aX:nU p t:=by simpa using aQ
  exact⟨x,by rw[FD,if_pos aX],by rw[FD,if_pos aX];exact K,bO,rfl,n1 _⟩
 have aX:¬nU p t:=by simpa using aQ
 have fH:=uH aX;apply e0∘z6∘gU;refine dT rfl (aYl x.held nC x.eK _ _ bO.held ZX Sp D (by rw[Z9];omega)) rfl ?_;rintro v E G ⟨wR,dD,rfl,⟨aAy,aAo⟩,aAz,Gk,Tg,rfl,a1Z⟩;have i2:jO (x.held.l++nC.l) x.eK=jO (p.held++nC.l) p.eK:=by rw[Z9,TX]
 have b4T:dD.l.length<=200000:=by have O:=aKZ _ (l:=x.held.l++nC.l) x.eK rfl;rw[<-Gk,sV,l9,Z9]at O;omega
 have Tb:=aDW _ (l:=x.held.l++nC.l) x.eK rfl Sp;rw[<-Gk]at Tb;have b4b:=b4a.mono a1Z;refine aI iL rfl ?_;apply(CS);intro h6;apply jZ∘vD∘nZ∘e7∘a06∘j8∘fD;refine hT (r9 (f:=eE.cells) (xs:=x.c7) N rfl rfl rfl aW rfl rfl (b4b) bD D) rfl ?_;rintro v E G ⟨IL,rfl,a2k,rfl,rfl⟩;apply(HR);refine hB (T:=118) (f:=kV.cells) (aN:=3) dD (dD.l.map kV.sub) cF bD aW aAo (λs aH=>by obtain⟨y,aS,rfl⟩:=List.mem_map.1 aH;exact Tg y aS) ?_;refine eM gD ?_;refine hB (T:=5) (f:=rL) (aN:=1) wR [] cF bD aW aAy e8 ?_;refine eM gD ?_;obtain⟨oW,ZR⟩:∃oW,oW=gX wR.V::a0i dD.V::G:=⟨_,rfl⟩;have H9:∀r∈R,aL r oW:=λr M=>(a1Z r M).mono λr M=>aT a30;have aAw:aL (gX wR.V) oW:=aT (by rw[ZR];exact .head _);have aAn:aL (a0i dD.V) oW:=aT (by rw[ZR];exact .tail _ (.head _));have a9w:∀y∈dD.l,aL (gX y.data) oW:=λy aS=>(Tg y aS).mono λr M=>aT a30;have aAZ:=bO.aK.cO.mono H9;refine wK (show _=oW by rw[ZR]) ?_;refine Yu aAn λb4S=>?_;refine tO (E:=(⟨IL,x.c7.l⟩:J eE).L 93 eE.cells++(⟨i1,uD.cells,54⟩::⟨eS,({x with held:=wR.V,eK:=(jO (x.held.l++nC.l) x.eK).eK}:cL).cells,54⟩::L)) bA eN ?_;apply(NE);refine dS [(2,.int _ _),(3,.pointer _),(6,.pointer _),(9,.slice _ _ _),(10,.slice _ _ _),(11,.int _ _)] bV λfK=>?_;refine k2 ([11,12,13]++cN 31 25) ((⟨λg=>[(11,.int .i64 ((g.1.1:Nat):Int))],λg=>(⟨IL,g.1.2⟩:J eE).L 93 eE.cells++(⟨i1,uD.cells,54⟩::⟨eS,({x with held:=wR.V,eK:=(jO (x.held.l++nC.l) x.eK).eK}:cL).cells,54⟩::L),λ_=>oW,λg=>dD.l.length-g.1.1⟩:fB {q:Nat×List eE//q.1<=dD.l.length/\q.2=((dD.l.map kV.kQ).take q.1).foldl (HD g.aK.cO.l t) p.c7})) (⟨(0,x.c7.l),by dsimp only;omega,K.c7⟩) ?_;rintro⟨⟨k,tY⟩,aG,pG⟩ cH;try dsimp only
 dsimp only at aG pG;have a92:tY.length=x.c7.l.length:=by rw[pG,(a1u (S:=g.aK.cO.l) (t:=t) _ eT.IK).2,K.c7]
 have a91:(⟨IL,tY⟩:J eE).ok 4 eE.cells:=J.o6 bD a2k a92;apply(uM);refine U ?_ ?_<;>intro bL;·
  have b7:=bJ (l:=dD.l) (k:=k) default D;obtain⟨cR,kE⟩:∃cR,cR=dD.l.getD k default:=⟨_,rfl⟩;rw[<-kE]at b7;have a9G:=hV b7;have J6:(dD.l.map kV.kQ)[k]?=some cR.kQ:=by rw[pA,b7];rfl
  have Ly:=aGo (S:=g.aK.cO.l) (t:=t) (m:=p.c7) J6;rw[<-pG]at Ly;have LU:pN cR.data.l:=Tb cR.kQ (hV J6);refine eP (a8 (bK (fR (bK ?_))));refine gZ N [0,1,2,3,4,5,6,7,8,9,10,11,12,13,14] ([bN.mk eS _ _]) dO bI bA ?_;apply(LD);refine bE oS rfl rfl rfl ?_;apply JO∘OO∘hK;refine tP rfl (aZ2 x.aK.cO cR t _ _ aAZ (a9w cR a9G) LU (by rw[m6];omega)) rfl rfl ?_;rintro v E G ⟨m,rfl,a3,rfl,rfl⟩;refine⟨bA,iQ,?_⟩;refine bE iL rfl rfl rfl ?_;refine bE q2 rfl rfl rfl ?_;refine bE q2 rfl rfl rfl ?_;apply(qH);intro n3;apply(v0);refine g5 (a8 (bK (c2 ?_)));apply cE∘nJ;refine U ?_ ?_<;>intro cC;·(have WK:uG g.aK.cO.l cR.kQ t=0:=by rw[<-m6];exact cC);have Lx:=a3 cC;rw[m6]at Lx;(have J7:m.k5=BG g.aK.cO.l cR.kQ.hX:=by rw[Lx];rfl);have Z0:=a5n WK;have B6:=bJ (l:=tY) (k:=m.k5.toNat) default (by rw[J7];omega);(have b4d:0<=m.k5:=by omega);apply eB∘yY∘r5;refine aI (jA N ((⟨IL,tY⟩:J eE)) _ rfl rfl ((show _=Value.slice _ _ _ from rfl).trans (by simp only[J.val,a92])) rfl bR (i:=m.k5.toNat) dA jC) rfl ?_;refine jH (R2 N ((⟨IL,tY⟩:J eE)) (m) rfl rfl rfl rfl cF bR bD bR (KO rfl) aB aB) ?_;rintro v E G ⟨rfl,rfl⟩;exact(VO) aRH
  apply(mT);exact hP ⟨(k+1,tY),by dsimp only;omega,by
  dsimp only;rw[Ly,HD,if_neg];intro WK;exact cC (by rw[m6];exact WK)⟩ gW bV bA eN hO
 obtain rfl:k=dD.l.length:=by omega
 have qS:(dD.l.map kV.kQ).take dD.l.length=(jO (p.held++nC.l) p.eK).dD:=by rw[<-i2,<-Gk,DK (by rw[sV];exact iK _)]
 rw[qS]at pG;have vK:=eT.QD a14 t;have WJ:(⟨IL,tY⟩:J eE).V.val=(⟨IL,x.c7.l⟩:J eE).V.val:=by simp only[J.V,a4.val,a92]
 refine hB (T:=93) (f:=eE.cells) (aN:=4) (⟨IL,tY⟩:J eE) [] cF bD aW a91 e8 ?_;refine eM gD ?_;apply M9∘FT∘j2;obtain⟨k6,xI⟩:∃k6:cL,k6={x with held:=wR.V,eK:=(jO (x.held.l++nC.l) x.eK).eK,c7:=(⟨IL,tY⟩:J eE).V}:=⟨_,rfl⟩;have Hb:h3 g (QD g p nC.l t) k6:=by rw[xI];exact{K with held:=by show wR.l=_;rw[aAz,i2];rfl,eK:=by show(jO (x.held.l++nC.l) x.eK).eK=_;rw[i2];rfl,c7:=pG}
 have Sv:∀r∈oW,aL r (gT (⟨IL,tY⟩:J eE).V::oW):=λr M=>aT (.tail _ M);have kO:∀r∈R,aL r (gT (⟨IL,tY⟩:J eE).V::oW):=λr M=>(H9 r M).mono Sv;have Hc:kU k6 (gT (⟨IL,tY⟩:J eE).V::oW):=by rw[xI];exact⟨bO.aK.mono kO,aAw.mono Sv,aT (.head _),bO.eG.mono kO,bO.aV.mono kO,bO.cU.mono kO,bO.eQ.mono kO⟩
 refine eM (E:=⟨i1,uD.cells,54⟩::⟨eS,k6.cells,54⟩::L) (by rw[xI];simp only[cL.cells,WJ];rfl) ?_;dsimp only[cL.cells];apply eB∘vV∘cE;refine dT rfl (a7J g _ k6 t _ _ vK Hb Hc fH) rfl ?_;rintro v E G ⟨y,rfl,aS,iG,rfl,kJ⟩;apply(oH);refine bQ L _ oC ?_;exact⟨y,by rw[FD,if_neg aX],by rw[FD,if_neg aX];exact aS,iG,rfl,λr M=>(kO r M).mono kJ⟩
def I9(g:hL)(p:bZ)(k:Nat):Int:=if YC g p k=true then min (M0 p.Y g.bX) (p.time+1)else M0 p.Y g.bX
def aZr{g:hL}{p:bZ}{k:Nat}(h:p6 g.aK.cO.l p.c7 (k:Int) p.time≠kH):I9 g p (k+1)=min (I9 g p k) (p.time+1):=by rw[I9,I9,a0H,decide_eq_true h,Nk,if_pos rfl];split<;>omega
def aTX{g:hL}{p:bZ}{k:Nat}(h:p6 g.aK.cO.l p.c7 (k:Int) p.time=kH):I9 g p (k+1)=I9 g p k:=by rw[I9,I9,a0H,decide_eq_false (λX=>X h),Bool.or_false]
def aER(g:hL)(p:bZ)(v a:Int): ∀k,yL g p k (min v a)=min (yL g p k v) a
 |0=>rfl
 |k+1=>by
  rw[yL,yL,aER g p v a k]
  split<;>omega
def aY7(g:hL)(p:bZ):(if yL g p g.aK.fC.l.length (I9 g p g.aK.cO.l.length)<=p.time then p.time+1 else yL g p g.aK.fC.l.length (I9 g p g.aK.cO.l.length))=Ja g p:=by
 rw[Ja,Rf,I9,show a4D g p=YC g p g.aK.cO.l.length from rfl];split;·rw[aER];split<;>split<;>omega
 ·rfl
def aYv(a0:hL)(p:bZ)(x:cL)(L:aR)(R:aO)(eT:Inv a0 p)(K:h3 a0 p x)(bO:kU x R):
 aM prog 67 [x.val].toArray L R (λv E G=>v=.int .i64 (Ja a0 p)/\L=E/\R=G):=by
 have j1:=eT.OQ.len;have kK:x.aK.fC.l=a0.aK.fC.l:=fX.fC K.aK;have m6:x.aK.cO.l=a0.aK.cO.l:=fX.OP K.aK;have tX:x.eG.l=p.eG:=K.eG;have pG:x.c7.l=p.c7:=K.c7;have r2:x.time=p.time:=K.time;have Ag:=eT.time;have b5M:x.eG.l.length=a0.aK.fC.l.length:=by rw[tX];exact eT.Bq
 have QQ:x.c7.l.length=a0.aK.cO.l.length:=by rw[pG];exact eT.c7
 have Tf:x.aK.fC.l.length=a0.aK.fC.l.length:=by rw[kK]
 have b5v:x.aK.cO.l.length=a0.aK.cO.l.length:=by rw[m6]
 have AN:=bO.aK.fC;have aBb:=bO.eG;have a94:∀m∈x.c7.l,v2 m:=by rw[pG];exact eT.IK
 have a9z:UT x.cU.aZ.l x.cU.a2.l x.cU.cB=I9 a0 p 0:=by rw[K.Y,K.cI,K.bX,UT,if_neg (by rw[eT.y6];decide)];rfl
 refine b6 69 call67 func67 rfl rfl rfl ?_;apply(dB);intro gL;apply mO∘e7∘a7I;refine cD rfl (aXq x.cU _ _ bO.cU) ?_;apply(P1);rw[a9z];apply(NE);refine dS [(1,.pointer _),(3,.int _ _),(4,.int _ _)] bV λfK=>?_;refine gY ([3,4]++cN 9 22) (λg:{k:Nat//k<=a0.aK.cO.l.length}=>[(4,.int .i64 ((g.1:Nat):Int)),(3,.int .i64 (I9 a0 p g.1))]) (λg=>a0.aK.cO.l.length-g.1) (⟨0,by omega⟩) ?_;rintro⟨j,a6⟩ cH;try dsimp only
 apply(q9);refine U ?_ ?_<;>intro aQ;·
  have Ts:p6 x.aK.cO.l x.c7.l (j:Int) x.time=p6 a0.aK.cO.l p.c7 (j:Int) p.time:=by rw[m6,pG,r2]
  apply j9∘e7;refine aI q1 rfl ?_;apply gK∘fD;refine cD rfl (a4M x.aK x.c7 (j:Int) x.time _ _ bO.aK.cO bO.c7 a94 D) ?_;refine cD rfl G5 ?_;refine aI (aFl Kh rfl rfl) rfl ?_;apply(b9);refine U ?_ ?_<;>intro bL;·
   apply tR∘fD∘k3;refine aI KT rfl ?_;apply dM∘VO;exact hP ⟨j+1,by omega⟩ gW (by
   dsimp only;rw[aZr (by rw[<-Ts];intro h;rw[h]at bL;simp[kH]at bL),<-r2];exact⟨rfl,rfl,trivial⟩) bA eN hO
  apply(mT);exact hP ⟨j+1,by omega⟩ gW (by
  dsimp only;rw[aTX (by rw[<-Ts,R4];simpa[kH]using bL)];exact⟨rfl,rfl,trivial⟩) bA eN hO
 obtain rfl:j=a0.aK.cO.l.length:=by omega
 obtain⟨lP,uT⟩:∃lP,lP=I9 a0 p a0.aK.cO.l.length:=⟨_,rfl⟩;rw[<-uT];apply(PZ);refine dS [(1,.pointer _),(3,.int _ _),(5,.int _ _)] bV λoA=>?_;refine gY ([3,5]++cN 31 30) (λg:{k:Nat//k<=a0.aK.fC.l.length}=>[(5,.int .i64 ((g.1:Nat):Int)),(3,.int .i64 (yL a0 p g.1 lP))]) (λg=>a0.aK.fC.l.length-g.1) (⟨0,by omega⟩) ?_;rintro⟨k,aG⟩ cH;try dsimp only
 apply(q9);refine U ?_ ?_<;>intro cC;·
  have b7:=bJ (l:=x.aK.fC.l) (k:=k) default D;have Fz:=bJ (l:=x.eG.l) (k:=k) default D;have W7:=eT.Br (x.eG.l.getD k default) (by rw[<-tX];exact hV Fz);have Uw:=W7.1;rw[I6]at Uw;have Ft:yL a0 p (k+1) lP=if(x.aK.fC.l.getD k default).kind=1 then min (yL a0 p k lP) (Ef (x.aK.fC.l.getD k default).nF (x.eG.l.getD k default))else yL a0 p k lP:=by rw[yL,kK,tX]
  obtain⟨c,cG⟩:∃c,c=x.aK.fC.l.getD k default:=⟨_,rfl⟩;obtain⟨w,dH⟩:∃w,w=x.eG.l.getD k default:=⟨_,rfl⟩;rw[<-cG]at b7 Ft;rw[<-dH]at Fz W7 Uw Ft;apply j9∘BM;refine aI pL rfl ?_;apply sH∘nJ;refine U ?_ ?_<;>intro dX;·refine gZ N [0,1,2,3,4,5,6,7,8,9,10,11,12,13,14,15] ([bN.mk gL _ _]) dO bI bA ?_;apply hK∘lA∘HQ∘Vq∘OO∘HQ∘OO;refine lW rfl (aTZ c.nF w _ _ D) ?_;refine bE KT rfl rfl rfl ?_;exact(qV∘JN) aSG
  exact(mT) aSI
 obtain rfl:k=a0.aK.fC.l.length:=by omega
 have GD:=aY7 a0 p;rw[<-uT]at GD;apply xN∘NF∘PX;refine U ?_ ?_<;>intro dY;·apply LB∘k3∘w7;refine cX L R ?_;exact⟨by rw[<-GD,if_pos D,r2],rfl,rfl⟩
 apply e0∘Qx;refine cX L R ?_;exact⟨by rw[<-GD,if_neg D],rfl,rfl⟩
end Go.Proofs.YtchfclmokpbldaaGreat
