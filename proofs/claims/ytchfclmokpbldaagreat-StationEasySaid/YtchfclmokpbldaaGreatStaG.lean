-- By an AI agent; no person has read it.
import Derived.Test.YtchfclmokpbldaaGreatStaD
set_option linter.all false
set_option maxHeartbeats 4000000
variable{A B:Prop}
namespace Go.Proofs.YtchfclmokpbldaaGreat
open Go.Aw Go Go.Proofs.Tryz
set_option maxRecDepth 20000
attribute [local irreducible] cQ dF dV aM cP eC e5 e1 e2 e6 eX e4 J.L
def HM(h:A->B:=by exact aI xR rfl):=h
def Ee(h:A->B:=by exact hB (T:=93) (f:=eE.cells) (aN:=4) dK [] cF bD aW fE.Au e8):=h
def Zg(h:A->B:=by exact hB (T:=150) (f:=fG.cells) (aN:=4) c9 [] cF bD aW fE.OE e8):=h
def Yo(h:A->B:=by exact hB (T:=150) (f:=fG.cells) (aN:=4) fW [] cF bD aW IG e8):=h
def a5w(h:A->B:=by exact P8 N rfl rfl rfl rfl sX aB aB aB):=h
def aFM(h:A->B:=by exact aI mM rfl):=h
def aKO(h:A->B:=by exact hB (T:=3) (f:=a1) (aN:=1) EV [] cF bD aW aAO e8):=h
def aIr(h:A->B:=by exact hB (T:=76) (f:=bS.cells) (aN:=5) B9 [] cF bD aW aAs e8):=h
def aGt(h:A->B:=by exact bE q1 rfl rfl rfl):=h
def aJC(h:A->B:=by exact bE xR rfl rfl rfl):=h
def aHQ(h:A->B:=by exact bE DT rfl rfl rfl):=h
def aFF(h:A->B:=by exact tP rfl aSy rfl rfl):=h
def aGA(h:B:=by exact⟨(⟨s,t,h,x.eK,dK.V,fO,jK,iE,(bP g p t).aD,fW.V⟩:cL),iI fW.V::(e3++(gT dK.V::fL)),by rw[eV],by rw[eV];exact eL.yC DB,⟨fE.aK.mono cK,fE.held.mono cK,(fY _ (.head _)).mono aU,vP.mono aU,cC.mono aU,vL.mono aU,aT (.head _)⟩,rfl,rfl⟩):=h
def aHH(h:A->B:=by exact aI DT rfl):=h
def h3.vI{g:hL}{q:bZ}{x:cL}(h:h3 g q x):HL x.aK g.b0 x.c7.l x.time=e9 g q:=by rw[fX.vI h.aK,h.c7,h.time,e9]
def aVv(g:hL)(p:bZ)(x:cL)(k sh t:Int)(L:aR)(R:aO)(eT:Inv g p)(K:h3 g p x)(bO:kU x R):
 aM prog 80 [x.val,.int .i64 k,.int .i64 sh,.int .i64 t].toArray L R (Dv g (AF g p k sh t) L R):=by
 refine b6 36 call80 func80 rfl rfl rfl ?_;apply(dB);intro eD;apply(dZ);intro h6;apply mO∘HM;refine dT rfl Ob rfl ?_;rintro v E G ⟨s,h,w,c,f,dK,c9,fL,rfl,fE,rfl,rfl⟩;apply(dZ);intro i0;apply rT∘HM∘cE;refine cD rfl (Jf x t _ _) ?_;apply(b9);refine U ?_ ?_<;>intro aQ;·refine bK ?_;apply(Ee);refine eM gD ?_;apply(Zg);refine eM gD ?_;apply eB∘HM∘p8;refine bQ L ((iI c9.V::gT dK.V::fL)++R) oC ?_;have aX:nU p t:=(MZ K).1 zR;exact⟨(⟨s,x.time,h,x.eK,dK.V,w,c,f,x.aD,c9.V⟩:cL),iI c9.V::gT dK.V::fL,by rw[AF,if_pos aX],by rw[AF,if_pos aX];exact fE.is K,fE.S4 (λr M=>aT (.tail _ (.tail _ M))) X0 mA,rfl,rfl⟩
 have aX:¬nU p t:=λh=>absurd ((MZ K).2 h) zR;have fH:=uH aX;have BW:=fE.is K;have AQ:f.aZ.l=p.Y:=BW.Y;have QL:f.a2.l=g.cI:=BW.cI;have kE:f.cB=g.bX:=BW.bX;have EH:q6 f.aZ.l f.a2.l f.cB k sh=q6 p.Y g.cI g.bX k sh:=by rw[AQ,QL,kE]
 apply e0∘e7∘aFM∘lD;refine dT rfl (aWy f k sh _ _ fE.cU) rfl ?_;rintro v E G ⟨B9,EV,Ho,rfl,⟨aAs,aAO⟩,a9g,rfl,rfl⟩;refine aI iL rfl ?_;apply(CS);intro H1;apply jZ∘PT;refine U ?_ ?_<;>intro bL;·
  refine bK ?_;apply(aKO);refine eM gD ?_;apply(aIr);refine eM gD ?_;refine tO (G:=fL++R) hA (λr M=>aT (.tail _ (.tail _ M))) ?_;apply(Ee);refine eM gD ?_;apply(Zg);refine eM gD ?_;apply eB∘HM∘tQ;refine bQ L ((iI c9.V::gT dK.V::fL)++R) oC ?_;have W:q6 p.Y g.cI g.bX k sh≠0:=by rw[<-EH];exact bL
  exact⟨(⟨s,x.time,h,x.eK,dK.V,w,c,f,x.aD,c9.V⟩:cL),iI c9.V::gT dK.V::fL,by rw[AF,if_neg aX,if_pos W,EH],by rw[AF,if_neg aX,if_pos W];exact BW,fE.S4 (λr M=>aT (.tail _ (.tail _ M))) X0 mA,rfl,rfl⟩
 apply wW∘aIr;refine eM gD ?_;apply(aKO);refine eM gD ?_;apply(Ee);refine eM gD ?_;have W:q6 p.Y g.cI g.bX k sh=0:=by rw[<-EH];exact Decidable.not_not.1 bL
 obtain⟨WT,aAN,aAT⟩:=a9g (by rw[EH];exact W);have vK:=eT.a7S W;have Ta:h3 g {p with Y:=JV p.Y k sh} (⟨s,x.time,h,x.eK,dK.V,w,c,⟨B9.V,EV.V,Ho⟩,x.aD,c9.V⟩:cL):={BW with Y:=by rw[<-AQ];exact WT,cI:=aAN.trans QL,bX:=aAT.trans kE};have lS:∀r∈fL++R,aL r (gT dK.V::dU EV.V::s4 B9.V::(fL++R)):=λr M=>aT (.tail _ (.tail _ (.tail _ M)));apply eB∘aFM∘e7∘a5w∘j2;refine tO (E:=⟨i0,(⟨s,x.time,h,x.eK,dK.V,w,c,⟨B9.V,EV.V,Ho⟩,x.aD,c9.V⟩:cL).cells,54⟩::(c9.L 150 fG.cells++_)) bA eN ?_;apply(tR);refine dT rfl (Qm g {p with Y:=JV p.Y k sh} (⟨s,x.time,h,x.eK,dK.V,w,c,⟨B9.V,EV.V,Ho⟩,x.aD,c9.V⟩:cL) c9 i0 t _ _ vK Ta (fE.aK.mono lS) mA (fE.eG.mono lS) (fE.aV.mono lS) ⟨aT (.tail _ (.tail _ (.head _))),aT (.tail _ (.head _))⟩ fE.OE fH) rfl ?_;rintro v E G ⟨fO,jK,iE,q,e3,gR,eL,⟨vP,cC,vL⟩,rfl,rfl⟩;apply(j2);refine hB (T:=150) (f:=fG.cells) (aN:=4) q [] cF bD aW gR e8 ?_;refine eM gD ?_;have aU:∀r∈e3++(gT dK.V::dU EV.V::s4 B9.V::(fL++R)),aL r ((iI q.V::(e3++(gT dK.V::dU EV.V::s4 B9.V::fL)))++R):=λr M=>aT (by rw[pK,oB,pK,pK,pK];exact .tail _ M);have cK:∀r∈fL++R,aL r ((iI q.V::(e3++(gT dK.V::dU EV.V::s4 B9.V::fL)))++R):=λr M=>(lS r M).mono λr M=>aU r (lZ _ M);refine wK (G:=((iI q.V::(e3++(gT dK.V::dU EV.V::s4 B9.V::fL)))++R)) (by simp only[pK,oB]) ?_;apply eB∘HM∘oH;refine bQ L ((iI q.V::(e3++(gT dK.V::dU EV.V::s4 B9.V::fL)))++R) oC ?_;have e:AF g p k sh t=(bP g {p with Y:=JV p.Y k sh} t,0):=by rw[AF,if_neg aX,if_neg Xt]
 exact⟨(⟨s,t,h,x.eK,dK.V,fO,jK,iE,(bP g {p with Y:=JV p.Y k sh} t).aD,q.V⟩:cL),iI q.V::(e3++(gT dK.V::dU EV.V::s4 B9.V::fL)),by rw[e],by rw[e];exact eL,⟨fE.aK.mono cK,fE.held.mono cK,aU _ (lZ _ (.head _)),vP.mono aU,cC.mono aU,vL.mono aU,aT (.head _)⟩,rfl,rfl⟩
def aJt(g:hL)(p:bZ)(x:cL)(a z t:Int)(L:aR)(R:aO)(eT:Inv g p)(K:h3 g p x)(bO:kU x R):
 aM prog 21 [x.val,.int .i64 a,.int .i64 z,.int .i64 t].toArray L R (Dv g (x0 g p a z t) L R):=by
 refine b6 49 call21 func21 rfl rfl rfl ?_;apply(dB);intro eD;apply(dZ);intro h6;apply mO∘HM;refine dT rfl Ob rfl ?_;rintro v E G ⟨s,h,w,c,f,dK,c9,fL,rfl,fE,rfl,rfl⟩;apply(dZ);intro i0;apply rT∘HM∘cE;refine cD rfl (Jf x t _ _) ?_;apply(b9);refine U ?_ ?_<;>intro aQ;·refine bK ?_;apply(Ee);refine eM gD ?_;apply(Zg);refine eM gD ?_;apply eB∘HM∘p8;refine bQ L ((iI c9.V::gT dK.V::fL)++R) oC ?_;have aX:nU p t:=(MZ K).1 zR;exact⟨(⟨s,x.time,h,x.eK,dK.V,w,c,f,x.aD,c9.V⟩:cL),iI c9.V::gT dK.V::fL,by rw[x0,if_pos aX],by rw[x0,if_pos aX];exact fE.is K,fE.S4 (λr M=>aT (.tail _ (.tail _ M))) X0 mA,rfl,rfl⟩
 have aX:¬nU p t:=λh=>absurd ((MZ K).2 h) zR;have fH:=uH aX;have BW:=fE.is K;have lS:∀r∈fL++R,aL r (gT dK.V::(fL++R)):=λr M=>aT (.tail _ M);apply(Ee);refine eM gD ?_;apply(SW);refine dT rfl (Qm g p (⟨s,x.time,h,x.eK,dK.V,w,c,f,x.aD,c9.V⟩:cL) c9 i0 t _ _ eT BW (fE.aK.mono lS) mA (fE.eG.mono lS) (fE.aV.mono lS) (fE.cU.mono lS) fE.OE fH) rfl ?_;rintro v E G ⟨fO,jK,iE,q,e3,gR,eL,⟨vP,cC,vL⟩,rfl,rfl⟩;apply(j2);have mV:=eT.settle fH.1 fH.2;have fY:∀r∈gT dK.V::(fL++R),aL r (e3++(gT dK.V::(fL++R))):=λr M=>aT (lZ _ M);have i7:∀r∈fL++R,aL r (e3++(gT dK.V::(fL++R))):=λr M=>(lS r M).mono fY;have KB:u6 (⟨s,t,h,x.eK,dK.V,fO,jK,iE,(bP g p t).aD,q.V⟩:cL) (e3++(gT dK.V::(fL++R))):=u6.of mV eL (fE.aK.mono i7) (fY _ (.head _));have uS:lB s.b0.aC g.b0:=fX.xA eL.aK mV.xA;refine gZ N [0,1,2,3,4,6,7,8,9,10,5,11,12,13,14,15,16,17] _ dO bI hA ?_;apply lA∘aGt∘g7∘aJC∘lA∘aHQ;iterate 3 apply(hK)
 apply(aFF);rintro v E G ⟨aA,rfl,gA,rfl,rfl⟩;refine⟨bA,iQ,?_⟩;refine lW rfl (b0k s jK aA (bP g p t).aD a z t _ _ ⟨(fE.aK.mono i7).mono λr M=>aT (.tail _ M),cC.mono λr M=>aT (.tail _ M),aT (.head _)⟩) ?_;refine bE iL rfl rfl rfl ?_;refine bE q2 rfl rfl rfl ?_;refine bE q2 rfl rfl rfl ?_;apply(qH);intro H1;apply(v0);refine g5 (a8 (bK (bK ?_)));have i2:aA.l=e9 g (bP g p t):=gA.trans (h3.vI eL);have mQ:jK.l=(bP g p t).aV:=eL.aV;have EH:oZ s jK.l aA.l (bP g p t).aD a z t=oZ g.aK (bP g p t).aV (e9 g (bP g p t)) (bP g p t).aD a z t:=by rw[fX.oZ eL.aK,mQ,i2]
 have Eo:s9 s jK.l aA.l (bP g p t).aD a z t=s9 g.aK (bP g p t).aV (e9 g (bP g p t)) (bP g p t).aD a z t:=by rw[fX.s9 eL.aK,mQ,i2]
 rw[EH,Eo];obtain⟨e,W⟩:∃e,e=oZ g.aK (bP g p t).aV (e9 g (bP g p t)) (bP g p t).aD a z t:=⟨_,rfl⟩;rw[<-W];have Ah:q.l.length<=400:=by have:=mV.eQ;rw[<-eL.eQ]at this;exact this
 apply(SS);refine U ?_ ?_<;>intro bL;·
  refine bK ?_;refine tO (E:=⟨i0,(⟨s,t,h,x.eK,dK.V,fO,jK,iE,(bP g p t).aD,q.V⟩:cL).cells,54⟩::(q.L 150 fG.cells++_)) bA eN ?_;apply eB∘lD;refine dT rfl (RR (⟨s,t,h,x.eK,dK.V,fO,jK,iE,(bP g p t).aD,q.V⟩:cL) q i0 7 z e _ _ gR Ah) rfl ?_;rintro v E G ⟨fW,IG,DB,rfl,rfl⟩;apply j2∘Yo;refine eM gD ?_;refine tO (G:=((iI fW.V::(e3++(gT dK.V::fL)))++R)) hA (λr M=>aT (by
   rw[pK,oB,pK]at M;rcases List.mem_cons.1 M with h|h;·rw[h];exact .head _
   ·exact .tail _ (.tail _ h))) ?_
  have aU:∀r∈(e3++(gT dK.V::(fL++R))),aL r ((iI fW.V::(e3++(gT dK.V::fL)))++R):=λr M=>aT Xh;have cK:∀r∈fL++R,aL r ((iI fW.V::(e3++(gT dK.V::fL)))++R):=λr M=>(i7 r M).mono aU;apply eB∘HM∘tQ;refine bQ L ((iI fW.V::(e3++(gT dK.V::fL)))++R) oC ?_;have eV:x0 g p a z t=(nT (bP g p t) 7 z e,e):=by rw[x0,if_neg aX];dsimp only;rw[<-W,if_pos bL]
  exact aGA
 apply e0∘aHH∘e7∘a5w∘j2;refine tO (E:=⟨i0,(⟨s,t,h,x.eK,dK.V,fO,jK,iE,s9 g.aK (bP g p t).aV (e9 g (bP g p t)) (bP g p t).aD a z t,q.V⟩:cL).cells,54⟩::(q.L 150 fG.cells++_)) bA eN ?_;apply eB∘lD;refine dT rfl (RR (⟨s,t,h,x.eK,dK.V,fO,jK,iE,s9 g.aK (bP g p t).aV (e9 g (bP g p t)) (bP g p t).aD a z t,q.V⟩:cL) q i0 4 z a _ _ gR Ah) rfl ?_;rintro v E G ⟨fW,IG,DB,rfl,rfl⟩;apply j2∘Yo;refine eM gD ?_;refine tO (G:=((iI fW.V::(e3++(gT dK.V::fL)))++R)) hA (λr M=>aT (by
  rw[pK,oB,pK]at M;rcases List.mem_cons.1 M with h|h;·rw[h];exact .head _
  ·exact .tail _ (.tail _ h))) ?_
 have aU:∀r∈(e3++(gT dK.V::(fL++R))),aL r ((iI fW.V::(e3++(gT dK.V::fL)))++R):=λr M=>aT Xh;have cK:∀r∈fL++R,aL r ((iI fW.V::(e3++(gT dK.V::fL)))++R):=λr M=>(i7 r M).mono aU;apply eB∘HM∘oH;refine bQ L ((iI fW.V::(e3++(gT dK.V::fL)))++R) oC ?_;have eV:x0 g p a z t=(nT {(bP g p t)with aD:=s9 g.aK (bP g p t).aV (e9 g (bP g p t)) (bP g p t).aD a z t} 4 z a,0):=by rw[x0,if_neg aX];dsimp only;rw[<-W,if_neg bL]
 have ZT:h3 g {(bP g p t)with aD:=s9 g.aK (bP g p t).aV (e9 g (bP g p t)) (bP g p t).aD a z t} (⟨s,t,h,x.eK,dK.V,fO,jK,iE,s9 g.aK (bP g p t).aV (e9 g (bP g p t)) (bP g p t).aD a z t,q.V⟩:cL):={eL with aD:=rfl};exact⟨(⟨s,t,h,x.eK,dK.V,fO,jK,iE,s9 g.aK (bP g p t).aV (e9 g (bP g p t)) (bP g p t).aD a z t,fW.V⟩:cL),iI fW.V::(e3++(gT dK.V::fL)),by rw[eV],by rw[eV];exact ZT.yC DB,⟨fE.aK.mono cK,fE.held.mono cK,(fY _ (.head _)).mono aU,vP.mono aU,cC.mono aU,vL.mono aU,aT (.head _)⟩,rfl,rfl⟩
def aYr(g:hL)(p:bZ)(x:cL)(a t:Int)(L:aR)(R:aO)(eT:Inv g p)(K:h3 g p x)(bO:kU x R):
 aM prog 22 [x.val,.int .i64 a,.int .i64 t].toArray L R (Dv g (z1 g p a t) L R):=by
 refine b6 50 call22 func22 rfl rfl rfl ?_;apply(dB);intro eS;apply(dZ);intro i1;apply mO∘HM;refine dT rfl Ob rfl ?_;rintro v E G ⟨s,h,w,c,f,dK,c9,fL,rfl,fE,rfl,rfl⟩;apply(dZ);intro h6;apply rT∘HM∘cE;refine cD rfl (Jf x t _ _) ?_;apply(b9);refine U ?_ ?_<;>intro aQ;·refine bK ?_;apply(Ee);refine eM gD ?_;apply(Zg);refine eM gD ?_;apply eB∘HM∘p8;refine bQ L ((iI c9.V::gT dK.V::fL)++R) oC ?_;have aX:nU p t:=(MZ K).1 zR;exact⟨(⟨s,x.time,h,x.eK,dK.V,w,c,f,x.aD,c9.V⟩:cL),iI c9.V::gT dK.V::fL,by rw[z1,if_pos aX],by rw[z1,if_pos aX];exact fE.is K,fE.S4 (λr M=>aT (.tail _ (.tail _ M))) X0 mA,rfl,rfl⟩
 have aX:¬nU p t:=λh=>absurd ((MZ K).2 h) zR;have fH:=uH aX;have BW:=fE.is K;have lS:∀r∈fL++R,aL r (gT dK.V::(fL++R)):=λr M=>aT (.tail _ M);apply(Ee);refine eM gD ?_;apply(SW);refine dT rfl (Qm g p (⟨s,x.time,h,x.eK,dK.V,w,c,f,x.aD,c9.V⟩:cL) c9 h6 t _ _ eT BW (fE.aK.mono lS) mA (fE.eG.mono lS) (fE.aV.mono lS) (fE.cU.mono lS) fE.OE fH) rfl ?_;rintro v E G ⟨fO,jK,iE,q,e3,gR,eL,⟨vP,cC,vL⟩,rfl,rfl⟩;apply(j2);have mV:=eT.settle fH.1 fH.2;have fY:∀r∈gT dK.V::(fL++R),aL r (e3++(gT dK.V::(fL++R))):=λr M=>aT (lZ _ M);have i7:∀r∈fL++R,aL r (e3++(gT dK.V::(fL++R))):=λr M=>(lS r M).mono fY;have KB:u6 (⟨s,t,h,x.eK,dK.V,fO,jK,iE,(bP g p t).aD,q.V⟩:cL) (e3++(gT dK.V::(fL++R))):=u6.of mV eL (fE.aK.mono i7) (fY _ (.head _));have uS:lB s.b0.aC g.b0:=fX.xA eL.aK mV.xA;apply eB∘HP∘x2;refine gZ N [0,1,2,3,4,6,7,8,9,5,10,11,12,13,14,15,16] _ dO bI hA ?_;apply lA∘aGt∘g7∘aJC∘lA∘aHQ∘hK∘hK∘aFF;rintro v E G ⟨aA,rfl,gA,rfl,rfl⟩;refine⟨bA,iQ,?_⟩;refine lW rfl (aZg s jK aA (bP g p t).aD a t _ _ ⟨(fE.aK.mono i7).mono λr M=>aT (.tail _ M),cC.mono λr M=>aT (.tail _ M),aT (.head _)⟩) ?_;refine bE iL rfl rfl rfl ?_;refine bE q2 rfl rfl rfl ?_;refine bE q2 rfl rfl rfl ?_;apply(qH);intro i0;apply(v0);refine g5 (a8 (bK (bK ?_)));have i2:aA.l=e9 g (bP g p t):=gA.trans (h3.vI eL);have mQ:jK.l=(bP g p t).aV:=eL.aV;have EH:rV s jK.l aA.l (bP g p t).aD a t=rV g.aK (bP g p t).aV (e9 g (bP g p t)) (bP g p t).aD a t:=by rw[fX.rV eL.aK,mQ,i2]
 have Eo:tU s jK.l aA.l (bP g p t).aD a t=tU g.aK (bP g p t).aV (e9 g (bP g p t)) (bP g p t).aD a t:=by rw[fX.tU eL.aK,mQ,i2]
 rw[EH,Eo];obtain⟨e,W⟩:∃e,e=rV g.aK (bP g p t).aV (e9 g (bP g p t)) (bP g p t).aD a t:=⟨_,rfl⟩;rw[<-W];have Ah:q.l.length<=400:=by have:=mV.eQ;rw[<-eL.eQ]at this;exact this
 apply(SS);refine U ?_ ?_<;>intro bL;·
  refine bK ?_;refine tO (E:=⟨h6,(⟨s,t,h,x.eK,dK.V,fO,jK,iE,(bP g p t).aD,q.V⟩:cL).cells,54⟩::(q.L 150 fG.cells++_)) bA eN ?_;apply eB∘lD;refine dT rfl (RR (⟨s,t,h,x.eK,dK.V,fO,jK,iE,(bP g p t).aD,q.V⟩:cL) q h6 7 (bP g p t).aD.dN e _ _ gR Ah) rfl ?_;rintro v E G ⟨fW,IG,DB,rfl,rfl⟩;apply j2∘Yo;refine eM gD ?_;refine tO (G:=((iI fW.V::(e3++(gT dK.V::fL)))++R)) hA (λr M=>aT (by
   rw[pK,oB,pK]at M;rcases List.mem_cons.1 M with h|h;·rw[h];exact .head _
   ·exact .tail _ (.tail _ h))) ?_
  have aU:∀r∈(e3++(gT dK.V::(fL++R))),aL r ((iI fW.V::(e3++(gT dK.V::fL)))++R):=λr M=>aT Xh;have cK:∀r∈fL++R,aL r ((iI fW.V::(e3++(gT dK.V::fL)))++R):=λr M=>(i7 r M).mono aU;apply eB∘HM∘tQ;refine bQ L ((iI fW.V::(e3++(gT dK.V::fL)))++R) oC ?_;have eV:z1 g p a t=(nT (bP g p t) 7 (bP g p t).aD.dN e,e):=by rw[z1,if_neg aX];dsimp only;rw[<-W,if_pos bL]
  exact aGA
 apply e0∘aHH∘e7∘a5w∘j2;refine tO (E:=⟨h6,(⟨s,t,h,x.eK,dK.V,fO,jK,iE,tU g.aK (bP g p t).aV (e9 g (bP g p t)) (bP g p t).aD a t,q.V⟩:cL).cells,54⟩::(q.L 150 fG.cells++_)) bA eN ?_;apply eB∘lD;refine dT rfl (RR (⟨s,t,h,x.eK,dK.V,fO,jK,iE,tU g.aK (bP g p t).aV (e9 g (bP g p t)) (bP g p t).aD a t,q.V⟩:cL) q h6 5 (bP g p t).aD.dN a _ _ gR Ah) rfl ?_;rintro v E G ⟨fW,IG,DB,rfl,rfl⟩;apply j2∘Yo;refine eM gD ?_;refine tO (G:=((iI fW.V::(e3++(gT dK.V::fL)))++R)) hA (λr M=>aT (by
  rw[pK,oB,pK]at M;rcases List.mem_cons.1 M with h|h;·rw[h];exact .head _
  ·exact .tail _ (.tail _ h))) ?_
 have aU:∀r∈(e3++(gT dK.V::(fL++R))),aL r ((iI fW.V::(e3++(gT dK.V::fL)))++R):=λr M=>aT Xh;have cK:∀r∈fL++R,aL r ((iI fW.V::(e3++(gT dK.V::fL)))++R):=λr M=>(i7 r M).mono aU;apply eB∘HM∘oH;refine bQ L ((iI fW.V::(e3++(gT dK.V::fL)))++R) oC ?_;have eV:z1 g p a t=(nT {(bP g p t)with aD:=tU g.aK (bP g p t).aV (e9 g (bP g p t)) (bP g p t).aD a t} 5 (bP g p t).aD.dN a,0):=by rw[z1,if_neg aX];dsimp only;rw[<-W,if_neg bL]
 have ZT:h3 g {(bP g p t)with aD:=tU g.aK (bP g p t).aV (e9 g (bP g p t)) (bP g p t).aD a t} (⟨s,t,h,x.eK,dK.V,fO,jK,iE,tU g.aK (bP g p t).aV (e9 g (bP g p t)) (bP g p t).aD a t,q.V⟩:cL):={eL with aD:=rfl};exact⟨(⟨s,t,h,x.eK,dK.V,fO,jK,iE,tU g.aK (bP g p t).aV (e9 g (bP g p t)) (bP g p t).aD a t,fW.V⟩:cL),iI fW.V::(e3++(gT dK.V::fL)),by rw[eV],by rw[eV];exact ZT.yC DB,⟨fE.aK.mono cK,fE.held.mono cK,(fY _ (.head _)).mono aU,vP.mono aU,cC.mono aU,vL.mono aU,aT (.head _)⟩,rfl,rfl⟩
def a0z(h:A->B:=by exact aI xR rfl):=h
def aDW:∀(n:Nat) {l:List Int} (d:Int),l.length=n->pN l->∀f∈(jO l d).dD,pN f.data:=by
 intro n;induction n using Nat.strongRecOn with
 |ind n c6=>
  intro l d b1 a5 f aF;rcases DM (l=[])with h|h;·subst h;rw[Ro]at aF;cases aF
  ·
   have WV:=List.length_pos_iff.2 h;have C6:pN l.tail:=λx K=>a5 x (aCo K);have Gu:=c6 l.tail.length (by rw[Nr];omega) (d+1) rfl C6;rcases DM (xV l)with O|O;·rw[Da h (.inl O)]at aF;exact Gu f aF
   ·
    rcases DM (x1 l)with X|X;·rw[Ri h O X]at aF;cases aF
    ·
     rcases DM (s3 (JL l)=NN l)with aU|aU;·
      rw[Yv h O X aU]at aF;rcases List.mem_cons.1 aF with aF|aF;·rw[aF];intro x K;have K:x∈(l.take (4+jM l)).drop 4:=K;exact a5 x (Wf (Cb K))
      ·exact c6 (l.drop (jM l+6)).length (by rw[DL];omega) d rfl (λx K=>a5 x (Cb K)) f aF
     ·rw[Da h (.inr ⟨X,aU⟩)]at aF;exact Gu f aF
def aKZ:∀(n:Nat) {l:List Int} (d:Int),l.length=n->(jO l d).dD.length<=n:=by
 intro n;induction n using Nat.strongRecOn with
 |ind n c6=>
  intro l d b1;rcases DM (l=[])with h|h;·subst h;rw[Ro];exact EZ _
  ·
   have WV:=List.length_pos_iff.2 h;have Gu:=c6 l.tail.length (by rw[Nr];omega) (d+1) rfl;rw[Nr]at Gu;rcases DM (xV l)with O|O;·rw[Da h (.inl O)];omega
   ·
    rcases DM (x1 l)with X|X;·rw[Ri h O X];exact EZ _
    ·
     rcases DM (s3 (JL l)=NN l)with aU|aU;·rw[Yv h O X aU];have:=c6 (l.drop (jM l+6)).length (by rw[DL];omega) d rfl;rw[DL]at this;show(_::_).length<=n;rw[wD];omega
     ·rw[Da h (.inr ⟨X,aU⟩)];omega
def aGo{S:List gP}{t:Int}{m:List eE}{l:List z4}{k:Nat}{x:z4}(h:l[k]?=some x):(l.take (k+1)).foldl (HD S t) m=HD S t ((l.take k).foldl (HD S t) m) x:=by rw[ME,h,Bu];rfl
def uD:cL:=⟨⟨⟨⟨⟨none,0,[]⟩,⟨none,0,[]⟩⟩,⟨none,0,[]⟩,⟨none,0,[]⟩⟩,⟨none,0,[]⟩,⟨none,0,[]⟩,⟨none,0,[]⟩,⟨none,0,[]⟩⟩,0,⟨none,0,[]⟩,0,⟨none,0,[]⟩,⟨none,0,[]⟩,⟨none,0,[]⟩,⟨⟨none,0,[]⟩,⟨none,0,[]⟩,0⟩,⟨0,0,0,0,0⟩,⟨none,0,[]⟩⟩
def a5n{S:List gP}{f:z4}{t:Int}(h:uG S f t=0):0<=BG S f.hX/\(BG S f.hX).toNat<S.length:=by
 rw[uG]at h;split at h;·cases h
 split at h;·cases h
 rename_i X;have:=aX0 (S:=S) (qB:=f.hX) D;exact⟨this.2,this.1⟩
def aZq(g:hL)(p:bZ)(x:cL)(nC:a4 Int)(t:Int)(L:aR)(R:aO)(eT:Inv g p)(K:h3 g p x)(bO:kU x R)(ZX:aL (gX nC) R)(a14:pN nC.l)(a9l:nC.l.length<=100000)(QK:0<=p.eK/\p.eK<=1152921504606846976):
 aM prog 18 [x.val,nC.val,.int .i64 t].toArray L R (Dv g (FD g p nC.l t) L R):=by
 have TX:x.eK=p.eK:=K.eK;refine b6 65 call18 func18 rfl rfl rfl ?_;apply(dB);intro eS;apply(dZ);intro i1;apply mO∘a0z;refine dT rfl Ob rfl ?_;rintro v E G ⟨s,h,w,c,f,dK,c9,fL,rfl,fE,rfl,rfl⟩;apply(dZ);intro h6;apply rT∘a0z∘cE;refine cD rfl (Jf x t _ _) ?_;apply(b9);refine U ?_ ?_<;>intro aQ;·refine bK ?_;refine hB (T:=93) (f:=eE.cells) (aN:=4) dK [] cF bD aW fE.Au e8 ?_;refine eM gD ?_;refine hB (T:=150) (f:=fG.cells) (aN:=4) c9 [] cF bD aW fE.OE e8 ?_;refine eM gD ?_;apply eB∘a0z∘p8;refine bQ L ((iI c9.V::gT dK.V::fL)++R) oC ?_;have aX:nU p t:=(MZ K).1 zR;exact⟨(⟨s,x.time,h,x.eK,dK.V,w,c,f,x.aD,c9.V⟩:cL),iI c9.V::gT dK.V::fL,by rw[FD,if_pos aX],by rw[FD,if_pos aX];exact fE.is K,fE.S4 (λr M=>aT (.tail _ (.tail _ M))) X0 mA,rfl,rfl⟩
 have aX:¬nU p t:=λh=>absurd ((MZ K).2 h) zR;have fH:=uH aX;have BW:=fE.is K;have Z9:h.l=p.held:=BW.held;have aMs:=eT.held;have m6:s.cO.l=g.aK.cO.l:=fX.OP BW.aK;have GL:=eT.OQ.len;have Sp:pN (h.l++nC.l):=λy aS=>by exact aP9
 have b9X:dK.l.length=g.aK.cO.l.length:=by rw[show dK.l=p.c7 from BW.c7];exact eT.c7
 apply e0∘z6∘gU;refine dT rfl (b0i h nC x.eK _ _ fE.held (ZX.mono λr M=>aT (lZ _ M)) Sp D (by rw[Z9];omega)) rfl ?_;rintro v E G ⟨wR,dD,rfl,⟨aAy,aAo⟩,aAz,Gk,Tg,rfl,a1Z⟩;have i2:jO (h.l++nC.l) x.eK=jO (p.held++nC.l) p.eK:=by rw[Z9,TX]
 have b4T:dD.l.length<=200000:=by have O:=aKZ _ (l:=h.l++nC.l) x.eK rfl;rw[<-Gk,sV,l9,Z9]at O;omega
 have Tb:=aDW _ (l:=h.l++nC.l) x.eK rfl Sp;rw[<-Gk]at Tb;refine aI iL rfl ?_;apply(CS);intro jR;apply jZ∘vD∘nZ∘e7;refine P8 N rfl rfl rfl rfl sX aB aB aB ?_;apply(CB);refine hB (T:=118) (f:=kV.cells) (aN:=3) dD (dD.l.map kV.sub) cF bD aW aAo (λs aH=>by obtain⟨y,aS,rfl⟩:=List.mem_map.1 aH;exact Tg y aS) ?_;refine eM gD ?_;refine hB (T:=5) (f:=rL) (aN:=1) wR [] cF bD aW aAy e8 ?_;refine eM gD ?_;obtain⟨oW,ZR⟩:∃oW,oW=gX wR.V::a0i dD.V::G:=⟨_,rfl⟩;have H9:∀r∈fL++R,aL r oW:=λr M=>(a1Z r M).mono λr M=>aT a30;have aAw:aL (gX wR.V) oW:=aT (by rw[ZR];exact .head _);have aAn:aL (a0i dD.V) oW:=aT (by rw[ZR];exact .tail _ (.head _));have a9w:∀y∈dD.l,aL (gX y.data) oW:=λy aS=>(Tg y aS).mono λr M=>aT a30;have aAZ:=fE.aK.cO.mono H9;refine wK (show _=oW by rw[ZR]) ?_;refine Yu aAn λb4S=>?_;refine tO (E:=⟨h6,(⟨s,x.time,wR.V,(jO (h.l++nC.l) x.eK).eK,dK.V,w,c,f,x.aD,c9.V⟩:cL).cells,54⟩::(c9.L 150 fG.cells++(dK.L 93 eE.cells++(⟨i1,uD.cells,54⟩::⟨eS,x.cells,54⟩::L)))) bA eN ?_;apply eB∘BN;refine dS [(2,.int _ _),(6,.pointer _),(8,.pointer _),(30,.slice _ _ _),(31,.int _ _),(32,.int _ _)] bV λfK=>?_;refine k2 ([12,13,14]++cN 32 30) ((⟨λg=>[(32,.int .i64 ((g.1.1:Nat):Int))],λg=>⟨h6,(⟨s,x.time,wR.V,(jO (h.l++nC.l) x.eK).eK,dK.V,w,c,f,x.aD,c9.V⟩:cL).cells,54⟩::(c9.L 150 fG.cells++((⟨dK.o,g.1.2⟩:J eE).L 93 eE.cells++(⟨i1,uD.cells,54⟩::⟨eS,x.cells,54⟩::L))),λ_=>oW,λg=>dD.l.length-g.1.1⟩:fB {q:Nat×List eE//q.1<=dD.l.length/\q.2=((dD.l.map kV.kQ).take q.1).foldl (HD g.aK.cO.l t) p.c7})) (⟨(0,dK.l),by dsimp only;omega,BW.c7⟩) ?_;rintro⟨⟨k,tY⟩,aG,pG⟩ cH;try dsimp only
 dsimp only at aG pG;have QQ:tY.length=dK.l.length:=by rw[pG,(a1u (S:=g.aK.cO.l) (t:=t) _ eT.IK).2,show dK.l=p.c7 from BW.c7]
 have a91:(⟨dK.o,tY⟩:J eE).ok 4 eE.cells:=J.o6 bD fE.Au QQ;apply(h0);refine U ?_ ?_<;>intro bL;·
  have b7:=bJ (l:=dD.l) (k:=k) default D;obtain⟨cR,kE⟩:∃cR,cR=dD.l.getD k default:=⟨_,rfl⟩;rw[<-kE]at b7;have a9G:=hV b7;have J6:(dD.l.map kV.kQ)[k]?=some cR.kQ:=by rw[pA,b7];rfl
  have Ly:=aGo (S:=g.aK.cO.l) (t:=t) (m:=p.c7) J6;rw[<-pG]at Ly;have LU:pN cR.data.l:=Tb cR.kQ (hV J6);apply(j9);refine aI pL rfl ?_;apply Hm∘dZ;intro n3;apply sI∘HP;refine aI mM rfl ?_;apply(cE);refine dT rfl (aWq s.cO cR t _ _ aAZ (a9w cR a9G) LU (by rw[m6];omega)) rfl ?_;rintro v E G ⟨m,rfl,a3,rfl,rfl⟩;refine aI iL rfl ?_;apply(CS);intro C2;apply jZ∘rS∘sG;apply iR (Z:=[_,_,_,_,_,_]) (j:=2) (a9:=47) rfl rfl aB rfl aY rfl;·intro fQ;replace fQ:=bB fQ;exact(fD∘kD) DU
  intro mK;apply(b9);refine U ?_ ?_<;>intro cC;·(have WK:uG g.aK.cO.l cR.kQ t=0:=by rw[<-m6];exact cC.1);have Lx:=a3 cC.1;rw[m6]at Lx;(have J7:m.k5=BG g.aK.cO.l cR.kQ.hX:=by rw[Lx];rfl);have Z0:=a5n WK;have B6:=bJ (l:=tY) (k:=m.k5.toNat) default (by rw[J7];omega);(have b4d:0<=m.k5:=by omega);apply eB∘j0∘r5;refine aI (jA N ((⟨dK.o,tY⟩:J eE)) _ rfl rfl ((show _=Value.slice _ _ _ from rfl).trans (by simp only[J.val,QQ])) rfl bR (i:=m.k5.toNat) dA jC) rfl ?_;refine jH (R2 N ((⟨dK.o,tY⟩:J eE)) (m) rfl rfl rfl rfl cF bR bD bR (KO rfl) aB aB) ?_;rintro v E G ⟨rfl,rfl⟩;exact(uJ) aRH
  apply(mU);exact hP ⟨(k+1,tY),by dsimp only;omega,by
  dsimp only;rw[Ly,HD,if_neg];intro WK;have aMf:uG s.cO.l cR.kQ t=0:=by rw[m6];exact WK
  have Z0:=a5n WK;have J7:m.k5=BG g.aK.cO.l cR.kQ.hX:=by rw[a3 aMf,m6];rfl
  rcases cC with JZ|JZ;·exact JZ aMf
  ·exact JZ (by rw[J7];omega)⟩ gW bV bA eN hO
 obtain rfl:k=dD.l.length:=by omega
 have qS:(dD.l.map kV.kQ).take dD.l.length=(jO (p.held++nC.l) p.eK).dD:=by rw[<-i2,<-Gk,DK (by rw[sV];exact iK _)]
 rw[qS]at pG;have vK:=eT.QD a14 t;have WJ:(⟨dK.o,tY⟩:J eE).V.val=dK.V.val:=by simp only[J.V,a4.val,QQ]
 refine hB (T:=93) (f:=eE.cells) (aN:=4) (⟨dK.o,tY⟩:J eE) [] cF bD aW a91 e8 ?_;refine eM gD ?_;refine eM (E:=⟨h6,(⟨s,x.time,wR.V,(jO (h.l++nC.l) x.eK).eK,(⟨dK.o,tY⟩:J eE).V,w,c,f,x.aD,c9.V⟩:cL).cells,54⟩::(c9.L 150 fG.cells++(⟨i1,uD.cells,54⟩::⟨eS,x.cells,54⟩::L))) (by simp only[cL.cells,WJ]) ?_;have Ta:h3 g (QD g p nC.l t) (⟨s,x.time,wR.V,(jO (h.l++nC.l) x.eK).eK,(⟨dK.o,tY⟩:J eE).V,w,c,f,x.aD,c9.V⟩:cL):={BW with held:=by show wR.l=_;rw[aAz,i2];rfl,eK:=by show(jO (h.l++nC.l) x.eK).eK=_;rw[i2];rfl,c7:=pG};obtain⟨s0,ZS⟩:∃s0,s0=gT (⟨dK.o,tY⟩:J eE).V::oW:=⟨_,rfl⟩;have aMD:aL (gT (⟨dK.o,tY⟩:J eE).V) s0:=aT (by rw[ZS];exact .head _);have Sv:∀r∈oW,aL r s0:=λr M=>aT (by rw[ZS];exact .tail _ M);have lS:∀r∈fL++R,aL r s0:=λr M=>(H9 r M).mono Sv;refine wK (show _=s0 by rw[ZS]) ?_;apply n9∘cE;refine dT rfl (Qm g (QD g p nC.l t) (⟨s,x.time,wR.V,(jO (h.l++nC.l) x.eK).eK,(⟨dK.o,tY⟩:J eE).V,w,c,f,x.aD,c9.V⟩:cL) c9 h6 t _ _ vK Ta (fE.aK.mono lS) aMD (fE.eG.mono lS) (fE.aV.mono lS) (fE.cU.mono lS) fE.OE fH) rfl ?_;rintro v E G ⟨fO,jK,iE,q,e3,gR,eL,⟨vP,cC,vL⟩,rfl,rfl⟩;apply(j2);refine hB (T:=150) (f:=fG.cells) (aN:=4) q [] cF bD aW gR e8 ?_;refine eM gD ?_;have aU:∀r∈e3++s0,aL r ((iI q.V::(e3++s0))++R):=λr M=>aT (.tail _ (r7 _ M));have ZP:∀r∈s0,aL r ((iI q.V::(e3++s0))++R):=λr M=>aU r (lZ _ M);have cK:∀r∈fL++R,aL r ((iI q.V::(e3++s0))++R):=λr M=>(lS r M).mono ZP;apply eB∘a0z∘oH;refine lH (E:=L) (G:=(iI q.V::(e3++s0))++R) oC ?aP ?dI ?bO;case aP=>
  have eV:FD g p nC.l t=(bP g (QD g p nC.l t) t,0):=by rw[FD,if_neg aX]
  exact⟨(⟨s,t,wR.V,(jO (h.l++nC.l) x.eK).eK,(⟨dK.o,tY⟩:J eE).V,fO,jK,iE,(bP g (QD g p nC.l t) t).aD,q.V⟩:cL),iI q.V::(e3++s0),by rw[eV],by rw[eV];exact eL,⟨fE.aK.mono cK,(aAw.mono Sv).mono ZP,aMD.mono ZP,vP.mono aU,cC.mono aU,vL.mono aU,aT (.head _)⟩,rfl,rfl⟩
 case dI=>exact bA
 case bO=>
  exact λr M=>by
   rcases List.mem_append.1 M with h|h;·exact aT h
   ·exact(lS r (lZ _ h)).mono λr M=>aT (.tail _ (lZ _ M))
def Rc(h:A->B:=by exact aI xR rfl):=h
def aIt(h:A->B:=by exact hB (T:=93) (f:=eE.cells) (aN:=4) dK [] cF bD aW fE.Au e8):=h
def aKu(h:A->B:=by exact bE mM rfl rfl rfl):=h
def aKy(h:A->B:=by exact hB (T:=150) (f:=fG.cells) (aN:=4) fW [] cF bD aW IG e8):=h
def aDX(h:A->B:=by exact aI mM rfl):=h
def aFX(h:A->B:=by exact Oz rfl rfl rfl rfl sX aB aB aB bA):=h
structure a4o(f EG:hJ):Prop where
 Y:f.aZ.l=EG.aZ.l
 cI:f.a2.l=EG.a2.l
 bX:f.cB=EG.cB
section
variable{s s':eA}{f EG:hJ}(h:fX s s')(k:a4o f EG)(c:List b8)(aA:List bC)(r:jP)(t:Int)
include k in
def Cs(z:Int):v5 f z=v5 EG z:=by rw[v5,v5,k.Y,k.cI,k.bX]
include h k
def aWI:mP s c aA r f t=mP s' c aA r EG t:=by simp only[mP,fX.sT h,fX.qW h,fX.a2L h,k.Y,k.cI,k.bX,Cs k]
def Rd:qL s c aA r f t=qL s' c aA r EG t:=by simp only[qL,aWI h k,k.Y,k.cI,k.bX,Cs k]
def aKc:x4 s c aA r f t=x4 s' c aA r EG t:=by simp only[x4,Rd h k,M3,k.cI,Cs k]
def aJk:AE s c aA r f t=AE s' c aA r EG t:=by simp only[AE,Rd h k,M3,k.cI,Cs k]
def aEY:BR s c aA r f t=BR s' c aA r EG t:=by simp only[BR,Rd h k,k.Y,Cs k]
end
def aWn(g:hL)(p:bZ)(x:cL)(t:Int)(L:aR)(R:aO)(eT:Inv g p)(K:h3 g p x)(bO:kU x R):
 aM prog 23 [x.val,.int .i64 t].toArray L R (Dv g (zU g p t) L R):=by
 refine b6 67 call23 func23 rfl rfl rfl ?_;apply(dB);intro eH;apply(dZ);intro eD;apply mO∘Rc;refine dT rfl Ob rfl ?_;rintro v E G ⟨s,h,w,c,f,dK,c9,fL,rfl,fE,rfl,rfl⟩;apply(dZ);intro i1;apply rT∘Rc∘cE;refine cD rfl (Jf x t _ _) ?_;apply(b9);refine U ?_ ?_<;>intro aQ;·refine bK ?_;apply(aIt);refine eM gD ?_;refine hB (T:=150) (f:=fG.cells) (aN:=4) c9 [] cF bD aW fE.OE e8 ?_;refine eM gD ?_;apply eB∘Rc∘p8;refine bQ L ((iI c9.V::gT dK.V::fL)++R) oC ?_;have aX:nU p t:=(MZ K).1 zR;exact⟨(⟨s,x.time,h,x.eK,dK.V,w,c,f,x.aD,c9.V⟩:cL),iI c9.V::gT dK.V::fL,by rw[zU,if_pos aX],by rw[zU,if_pos aX];exact fE.is K,fE.S4 (λr M=>aT (.tail _ (.tail _ M))) X0 mA,rfl,rfl⟩
 have aX:¬nU p t:=λh=>absurd ((MZ K).2 h) zR;have fH:=uH aX;have BW:=fE.is K;have lS:∀r∈fL++R,aL r (gT dK.V::(fL++R)):=λr M=>aT (.tail _ M);apply(aIt);refine eM gD ?_;apply(SW);refine dT rfl aRN rfl ?_;rintro v E G ⟨fO,jK,iE,q,e3,gR,eL,⟨vP,cC,vL⟩,rfl,rfl⟩;apply(j2);have mV:=eT.settle fH.1 fH.2;have fY:∀r∈gT dK.V::(fL++R),aL r (e3++(gT dK.V::(fL++R))):=λr M=>aT (lZ _ M);have i7:∀r∈fL++R,aL r (e3++(gT dK.V::(fL++R))):=λr M=>(lS r M).mono fY;have KB:u6 (⟨s,t,h,x.eK,dK.V,fO,jK,iE,(bP g p t).aD,q.V⟩:cL) (e3++(gT dK.V::(fL++R))):=u6.of mV eL (fE.aK.mono i7) (fY _ (.head _));have uS:lB s.b0.aC g.b0:=fX.xA eL.aK mV.xA;have mQ:jK.l=(bP g p t).aV:=eL.aV;have IE:a4o iE (nY g (bP g p t)):=⟨eL.Y,eL.cI,eL.bX⟩;have DD:=mV.OQ.len;have rZ:=mV.ZN;have tV:jK.l.length<=1000:=by rw[mQ,mV.BU];omega
 have AU:iE.aZ.l.length<=1000:=by rw[IE.Y];exact G0 rZ.A7 aW
 have b4f:iE.a2.l.length<=1000:=by rw[IE.cI];exact G0 rZ.w1 aW
 apply eB∘HP∘x2;refine gZ N [0,1,2,3,4,6,7,8,9,10,5,11,12,13,14,15,16,17,18,19,20,21,22] _ dO bI hA ?_;apply(lA);refine bE q1 rfl rfl rfl ?_;apply(g7);refine bE xR rfl rfl rfl ?_;apply(lA);refine bE DT rfl rfl rfl ?_;apply lA∘aKu∘hK;refine tP rfl aSy rfl rfl ?_;rintro v E G ⟨aA,rfl,gA,rfl,rfl⟩;refine⟨bA,iQ,?_⟩;refine tP rfl (aUj s jK aA (bP g p t).aD iE t _ _ ⟨(fE.aK.mono i7).mono λr M=>aT (.tail _ M),cC.mono λr M=>aT (.tail _ M),aT (.head _)⟩ (vL.mono λr M=>aT (.tail _ M)) ⟨tV,AU,b4f⟩) rfl rfl ?_;rintro v E G ⟨Bl,eY,wS,oQ,bX,rfl,⟨TN,aAB,aAK⟩,WB,rfl,b2k⟩;refine⟨bA,iQ,?_⟩;refine bE iL rfl rfl rfl ?_;iterate 4 refine bE q2 rfl rfl rfl ?_
 apply(qH);intro h6;apply(qH);intro i0;apply(uC);refine bE zT rfl rfl rfl ?_;apply(v0);refine g5 (a8 (bK (bK ?_)));have i2:aA.l=e9 g (bP g p t):=gA.trans (h3.vI eL);have Fp:qL s jK.l aA.l (bP g p t).aD iE t=qL g.aK (bP g p t).aV (e9 g (bP g p t)) (bP g p t).aD (nY g (bP g p t)) t:=by rw[Rd eL.aK IE,mQ,i2]
 have AN:Bl=x4 g.aK (bP g p t).aV (e9 g (bP g p t)) (bP g p t).aD (nY g (bP g p t)) t:=by rw[WB.aD,aKc eL.aK IE,mQ,i2]
 have b2T:eY.l=AE g.aK (bP g p t).aV (e9 g (bP g p t)) (bP g p t).aD (nY g (bP g p t)) t:=by rw[WB.aV,aJk eL.aK IE,mQ,i2]
 have b2X:wS.l=BR g.aK (bP g p t).aV (e9 g (bP g p t)) (bP g p t).aD (nY g (bP g p t)) t:=by rw[WB.Y,aEY eL.aK IE,mQ,i2]
 have b2Y:oQ.l=g.cI:=WB.cI.trans IE.cI;have b2U:bX=g.bX:=WB.bX.trans IE.bX;rw[Fp];obtain⟨e,W⟩:∃e,e=qL g.aK (bP g p t).aV (e9 g (bP g p t)) (bP g p t).aD (nY g (bP g p t)) t:=⟨_,rfl⟩;rw[<-W]at Fp|-;have Ah:q.l.length<=400:=by have:=mV.eQ;rw[<-eL.eQ]at this;exact this
 refine hB (T:=3) (f:=a1) (aN:=1) oQ [] cF bD aW aAK e8 ?_;refine eM gD ?_;refine hB (T:=76) (f:=bS.cells) (aN:=5) wS [] cF bD aW aAB e8 ?_;refine eM gD ?_;refine hB (T:=71) (f:=b8.cells) (aN:=3) eY [] cF bD aW TN e8 ?_;refine eM gD ?_;obtain⟨oV,F8⟩:∃oV,oV=sE eY.V::s4 wS.V::dU oQ.V::G:=⟨_,rfl⟩;have EJ:∀r∈(e3++(gT dK.V::(fL++R))),aL r oV:=λr M=>(b2k r (.tail _ M)).mono λr M=>aT (by rw[F8];exact .tail _ (.tail _ (.tail _ M)));have Ug:aL (sE eY.V) oV:=aT a36;have aAv:k0 ⟨wS.V,oQ.V,bX⟩ oV:=⟨aT (by rw[F8];exact .tail _ (.head _)),aT (by rw[F8];exact .tail _ (.tail _ (.head _)))⟩;have a8s:∀r∈fL++R,aL r oV:=λr M=>(i7 r M).mono EJ;refine wK (show _=oV by rw[F8]) ?_;apply(SS);refine U ?_ ?_<;>intro bL;·
  refine bK ?_;refine tO (E:=⟨i1,(⟨s,t,h,x.eK,dK.V,fO,jK,iE,(bP g p t).aD,q.V⟩:cL).cells,54⟩::(q.L 150 fG.cells++_)) bA eN ?_;apply eB∘lD;refine dT rfl (RR (⟨s,t,h,x.eK,dK.V,fO,jK,iE,(bP g p t).aD,q.V⟩:cL) q i1 7 (bP g p t).aD.dN e _ _ gR Ah) rfl ?_;rintro v E G ⟨fW,IG,DB,rfl,rfl⟩;apply j2∘aKy;refine eM gD ?_;have aU:∀r∈(e3++(gT dK.V::(fL++R))),aL r ((iI fW.V::oV)++R):=λr M=>(EJ r M).mono λr M=>aT (.tail _ (r7 _ M));have cK:∀r∈fL++R,aL r ((iI fW.V::oV)++R):=λr M=>(i7 r M).mono aU;apply eB∘Rc∘tQ;refine lH (E:=L) (G:=(iI fW.V::oV)++R) oC ?aP ?dI ?bO;case aP=>(have eV:zU g p t=(nT (bP g p t) 7 (bP g p t).aD.dN e,e):=by rw[zU,if_neg aX];dsimp only;rw[<-W,if_pos bL]);exact⟨(⟨s,t,h,x.eK,dK.V,fO,jK,iE,(bP g p t).aD,fW.V⟩:cL),iI fW.V::oV,by rw[eV],by rw[eV];exact eL.yC DB,⟨fE.aK.mono cK,fE.held.mono cK,(fY _ (.head _)).mono aU,vP.mono aU,cC.mono aU,vL.mono aU,aT (.head _)⟩,rfl,rfl⟩
  case dI=>exact bA
  case bO=>
   exact λr M=>by
    rcases List.mem_append.1 M with h|h;·exact aT h
    ·exact(a8s r (lZ _ h)).mono λr M=>aT (.tail _ M)
 have o2:e=0:=Decidable.not_not.1 bL;have v8:mP s jK.l aA.l (bP g p t).aD iE t=0:=by have JZ:qL s jK.l aA.l (bP g p t).aD iE t=0:=Fp.trans o2;exact aPt
 obtain⟨xI,EU,b52⟩:=a7l v8;apply e0∘fD∘e7∘aDX∘cE;refine dT rfl (aDD jK iE (bP g p t).aD.dN _ _ (cC.mono EJ) (vL.mono EJ) b52 D EU) rfl ?_;rintro v E G ⟨rfl,rfl,a83⟩;obtain⟨oW,H9⟩:∃oW,oW=G:=⟨_,rfl⟩;rw[<-H9]at a83|-;refine aI iL rfl ?_;apply CO∘D6∘j2;refine iS N [59,60] [0,1,2] [3,4,5,6,7,8] (_) _ dO bI bA (by(repeat(first|apply List.Sublist.cons (a:=bN.mk i1 _ _)|apply List.Sublist.cons_cons));exact rH _) ?_;refine fP DT rfl rfl rfl rfl ?_;refine m2 oS rfl rfl rfl rfl ?_;refine m2 mM rfl rfl rfl rfl ?_;apply zN∘lA∘aFX∘PQ∘lA∘aFX∘IP;have N2:v5 iE (bP g p t).aD.dN=v5 (nY g (bP g p t)) (bP g p t).aD.dN:=Cs IE _;refine tO (E:=⟨i1,(⟨s,t,h,x.eK,dK.V,fO,eY.V,⟨wS.V,oQ.V,bX⟩,Bl,q.V⟩:cL).cells,54⟩::(q.L 150 fG.cells++_)) bA eN ?_;apply(tR);refine dT rfl (RR (⟨s,t,h,x.eK,dK.V,fO,eY.V,⟨wS.V,oQ.V,bX⟩,Bl,q.V⟩:cL) q i1 6 (v5 iE (bP g p t).aD.dN) 0 _ _ gR Ah) rfl ?_;rintro v E G ⟨fW,IG,DB,rfl,rfl⟩;apply j2∘aKy;refine eM gD ?_;obtain⟨s0,ZS⟩:∃s0,s0=iI fW.V::oW:=⟨_,rfl⟩;refine wK (show _=s0 by rw[ZS]) ?_;have a2p:aL (iI fW.V) (s0++R):=aT (by rw[ZS];exact .head _);have b1V:∀r∈oW,aL r (s0++R):=λr M=>aT (by rw[ZS];exact .tail _ (r7 _ M));have ZP:∀r∈oV,aL r (s0++R):=λr M=>(a83 r M).mono b1V;have aLL:∀r∈(e3++(gT dK.V::(fL++R))),aL r (s0++R):=λr M=>(EJ r M).mono ZP;have cK:∀r∈fL++R,aL r (s0++R):=λr M=>(a8s r M).mono ZP;have sN:∀r∈R,aL r s0:=λr M=>((a8s r (lZ _ M)).mono a83).mono λr M=>aT (by rw[ZS];exact .tail _ M);apply eB∘Rc∘oH;refine lH (E:=L) (G:=s0++R) oC ?aP ?dI ?bO;case aP=>
  have eV:zU g p t=(nT {(bP g p t)with aD:=x4 g.aK (bP g p t).aV (e9 g (bP g p t)) (bP g p t).aD (nY g (bP g p t)) t,aV:=AE g.aK (bP g p t).aV (e9 g (bP g p t)) (bP g p t).aD (nY g (bP g p t)) t,Y:=BR g.aK (bP g p t).aV (e9 g (bP g p t)) (bP g p t).aD (nY g (bP g p t)) t} 6 (v5 (nY g (bP g p t)) (bP g p t).aD.dN) 0,0):=by rw[zU,if_neg aX];dsimp only;rw[<-W,if_neg bL]
  have ZT:h3 g {(bP g p t)with aD:=x4 g.aK (bP g p t).aV (e9 g (bP g p t)) (bP g p t).aD (nY g (bP g p t)) t,aV:=AE g.aK (bP g p t).aV (e9 g (bP g p t)) (bP g p t).aD (nY g (bP g p t)) t,Y:=BR g.aK (bP g p t).aV (e9 g (bP g p t)) (bP g p t).aD (nY g (bP g p t)) t} (⟨s,t,h,x.eK,dK.V,fO,eY.V,⟨wS.V,oQ.V,bX⟩,Bl,q.V⟩:cL):={eL with aD:=AN,aV:=b2T,Y:=b2X,cI:=b2Y,bX:=b2U};rw[N2]at DB;exact⟨(⟨s,t,h,x.eK,dK.V,fO,eY.V,⟨wS.V,oQ.V,bX⟩,Bl,fW.V⟩:cL),s0,by rw[eV],by rw[eV];exact ZT.yC DB,⟨fE.aK.mono cK,fE.held.mono cK,(fY _ (.head _)).mono aLL,vP.mono aLL,Ug.mono ZP,aAv.mono ZP,a2p⟩,rfl,rfl⟩
 case dI=>exact bA
 case bO=>
  exact λr M=>by
   rcases List.mem_append.1 M with h|h;·exact aT h
   ·exact sN r h
def YC(g:hL)(p:bZ)(k:Nat):Bool:=(List.range k).any λi=>decide (p6 g.aK.cO.l p.c7 (i:Int) p.time≠kH)
def a0H(g:hL)(p:bZ)(k:Nat):YC g p (k+1)=(YC g p k||decide (p6 g.aK.cO.l p.c7 (k:Int) p.time≠kH)):=by rw[YC,IX,List.any_append];simp[YC]
def PB(g:hL)(p:bZ)(d:Int)(k:Nat):Int:=if YC g p k=true then min d p.time else d
def aWU{g:hL}{p:bZ}{d:Int}{k:Nat}(h:p6 g.aK.cO.l p.c7 (k:Int) p.time≠kH):PB g p d (k+1)=min (PB g p d k) p.time:=by rw[PB,PB,a0H,decide_eq_true h,Nk,if_pos rfl];split<;>omega
def b0h{g:hL}{p:bZ}{d:Int}{k:Nat}(h:p6 g.aK.cO.l p.c7 (k:Int) p.time=kH):PB g p d (k+1)=PB g p d k:=by rw[PB,PB,a0H,decide_eq_false (λX=>X h),Bool.or_false]
def aXz(a0:hL)(p:bZ)(x:cL)(L:aR)(R:aO)(eT:Inv a0 p)(K:h3 a0 p x)(bO:kU x R):
 aM prog 37 [x.val].toArray L R (λv E G=>v=.int .i64 (Ja a0 p)/\L=E/\R=G):=by
 have j1:=eT.OQ.len;have kK:x.aK.fC.l=a0.aK.fC.l:=fX.fC K.aK;have m6:x.aK.cO.l=a0.aK.cO.l:=fX.OP K.aK;have tX:x.eG.l=p.eG:=K.eG;have pG:x.c7.l=p.c7:=K.c7;have r2:x.time=p.time:=K.time;have Ag:=eT.time;have b5M:x.eG.l.length=a0.aK.fC.l.length:=by rw[tX];exact eT.Bq
 have Tf:x.aK.fC.l.length=a0.aK.fC.l.length:=by rw[kK]
 have b5v:x.aK.cO.l.length=a0.aK.cO.l.length:=by rw[m6]
 have AN:=bO.aK.fC;have aBb:=bO.eG;have a94:∀m∈x.c7.l,v2 m:=by rw[pG];exact eT.IK
 have a9z:UT x.cU.aZ.l x.cU.a2.l x.cU.cB=(M0 p.Y a0.bX):=by rw[K.Y,K.cI,K.bX,UT,if_neg (by rw[eT.y6];decide)]
 refine b6 70 call37 func37 rfl rfl rfl ?_;apply(dB);intro gL;apply mO∘e7∘aDX;refine cD rfl (aUz x.cU _ _ bO.cU) ?_;apply(P1);rw[a9z];apply eB∘e7∘qP;refine dS [(1,.pointer _),(3,.int _ _),(12,.slice _ _ _),(13,.int _ _),(14,.int _ _)] bV λfK=>?_;refine gY ([3,4,5]++cN 14 26) (λg:{k:Nat//k<=a0.aK.fC.l.length}=>[(14,.int .i64 ((g.1:Nat):Int)),(3,.int .i64 (yL a0 p g.1 (M0 p.Y a0.bX)))]) (λg=>a0.aK.fC.l.length-g.1) (⟨0,by omega⟩) ?_;rintro⟨k,aG⟩ cH;try dsimp only
 apply(h0);refine U ?_ ?_<;>intro aQ;·
  have b7:=bJ (l:=x.aK.fC.l) (k:=k) default D;have Fz:=bJ (l:=x.eG.l) (k:=k) default D;have W7:=eT.Br (x.eG.l.getD k default) (by rw[<-tX];exact hV Fz);have Uw:=W7.1;rw[I6]at Uw;have Ft:yL a0 p (k+1) (M0 p.Y a0.bX)=if(x.aK.fC.l.getD k default).kind=1 then min (yL a0 p k (M0 p.Y a0.bX)) (Ef (x.aK.fC.l.getD k default).nF (x.eG.l.getD k default))else yL a0 p k (M0 p.Y a0.bX):=by rw[yL,kK,tX]
  obtain⟨c,cG⟩:∃c,c=x.aK.fC.l.getD k default:=⟨_,rfl⟩;obtain⟨w,dH⟩:∃w,w=x.eG.l.getD k default:=⟨_,rfl⟩;rw[<-cG]at b7 Ft;rw[<-dH]at Fz W7 Uw Ft;apply(oJ);refine aI pL rfl ?_;refine aI Wt rfl ?_;apply(dZ);intro gQ;apply dM∘z8∘sG;apply iR (Z:=[_,_,_,_,_]) (j:=3) (a9:=22) rfl rfl aB rfl aY rfl;·intro eR;replace eR:=bB eR;exact(cE∘kD) DU
  intro h8;apply(b9);refine U ?_ ?_<;>intro bL;·refine gZ N [0,1,2,3,4,5,6,7,8,9,10] _ dO bI hA ?_;apply hK∘lA∘aKu∘HQ∘OO;refine lW rfl (aZM c.nF w _ _ D) ?_;refine bE KT rfl rfl rfl ?_;exact(qV∘PV) aSG
  exact(mU) aSI
 obtain rfl:k=a0.aK.fC.l.length:=by omega
 obtain⟨lP,uT⟩:∃lP,lP=yL a0 p a0.aK.fC.l.length (M0 p.Y a0.bX):=⟨_,rfl⟩;rw[<-uT];apply xN∘e7∘qP;refine dS [(1,.pointer _),(3,.int _ _),(43,.int _ _),(44,.int _ _)] bV λoA=>?_;refine gY ([3,6]++cN 44 18) (λg:{j:Nat//j<=a0.aK.cO.l.length}=>[(44,.int .i64 ((g.1:Nat):Int)),(3,.int .i64 (PB a0 p lP g.1))]) (λg=>a0.aK.cO.l.length-g.1) (⟨0,by omega⟩) ?_;rintro⟨j,a6⟩ cH;try dsimp only
 apply(h0);refine U ?_ ?_<;>intro cC;·
  have Ts:p6 x.aK.cO.l x.c7.l (j:Int) x.time=p6 a0.aK.cO.l p.c7 (j:Int) p.time:=by rw[m6,pG,r2]
  apply oJ∘mO∘e7;refine aI q1 rfl ?_;apply gK∘fD;refine cD rfl (a4Z x.aK x.c7 (j:Int) x.time _ _ bO.aK.cO bO.c7 a94 D) ?_;refine cD rfl (PK _ _) ?_;refine aI (aFl Kh rfl rfl) rfl ?_;apply(b9);refine U ?_ ?_<;>intro dX;·
   apply tR∘fD;refine aI KT rfl ?_;apply dM∘uJ;exact hP ⟨j+1,by omega⟩ gW (by
   dsimp only;rw[aWU (by rw[<-Ts];intro h;rw[h]at dX;simp[kH]at dX),<-r2];exact⟨rfl,rfl,trivial⟩) bA eN hO
  apply(mU);exact hP ⟨j+1,by omega⟩ gW (by
  dsimp only;rw[b0h (by rw[<-Ts,R4];simpa[kH]using dX)];exact⟨rfl,rfl,trivial⟩) bA eN hO
 obtain rfl:j=a0.aK.cO.l.length:=by omega
 have a9y:PB a0 p lP a0.aK.cO.l.length=Rf a0 p:=by rw[PB,Rf,a4D,YC,uT]
 rw[a9y];apply xN∘NF∘PX;refine U ?_ ?_<;>intro dY;·apply LB∘k3∘w7;refine cX L R ?_;exact⟨by rw[Ja,if_pos D,r2],rfl,rfl⟩
 apply e0∘Qx;refine cX L R ?_;exact⟨by rw[Ja,if_neg D],rfl,rfl⟩
end Go.Proofs.YtchfclmokpbldaaGreat
