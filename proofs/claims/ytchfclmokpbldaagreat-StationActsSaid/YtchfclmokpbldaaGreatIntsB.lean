--By an AI agent.
import Derived.Test.YtchfclmokpbldaaGreatRefP
import Derived.Test.YtchfclmokpbldaaGreatStaG
import Derived.Test.YtchfclmokpbldaaGreatCutB
import Derived.Test.YtchfclmokpbldaaGreatStaA
import Derived.Test.YtchfclmokpbldaaGreatFeedP
set_option maxRecDepth 9999
set_option linter.all false
set_option maxHeartbeats 0
variable{A B:Prop}
namespace Go.Proofs.YtchfclmokpbldaaGreat
open Go.Aw Go Go.Proofs.Tryz
section
attribute [local irreducible] cH c6 dP aI cJ eD e9 e0 e1 e5 eS e8 J.L
def W9(h:A->B:=by exact(m5 oG ·)):=h
def WZ(h:A->B:=by exact(m5 lR ·)):=h
def W8(h:A->B:=by exact(a4 A0 ·)):=h
def YZ(h:A->B:=by exact(eO E0 ·)):=h
def a5R(h:A->B:=by exact(m5 zV ·)):=h
def a5L(h:A->B:=by exact(aG lR ·)):=h
def aMn(h:A->B:=by exact(aG qI ·)):=h
def aAD(s:dQ)(c:List b8)(Z:List a9)(r:j4)(f:hI)(t:Int)(L:aP)(R:aJ):oY:=λv E G=>
 ∃(q:j4) (j5 kK lV:Option Addr) (sC yN fL jG YC Tp:Nat) (bT:Int) (eW:J b8) (yX:J bL) (p1:J Int),v=.tuple #[q.val,.slice j5 sC yN,.agg #[.slice kK fL jG,.slice lV YC Tp,.int .i64 bT],.int .i64 (r6 s c Z r f t)]/\(eW.ok 3 b8.cells/\yX.ok 5 bL.cells/\p1.ok 1 aL)/\
  (r6 s c Z r f t=0->q=z7 s c Z r f t/\Value.slice j5 sC yN=eW.val/\Value.slice kK fL jG=yX.val/\Value.slice lV YC Tp=p1.val/\bT=f.cA/\eW.l=CV s c Z r f t/\yX.l=D3 s c Z r f t/\p1.l=f.aU.l)/\eW.L 71 b8.cells++(p1.L 3 aL++(yX.L 76 bL.cells++L))=E/\R=G
def aAD.pT{s:dQ}{c:List b8}{Z:List a9}{r:j4}{f:hI}{t e:Int}{L:aP}{R:aJ}{q:j4}{j5 kK lV:Option Addr}{sC yN fL jG YC Tp:Nat}{bT:Int}(h:r6 s c Z r f t=e)(X:e≠0):aAD s c Z r f t L R (.tuple #[q.val,.slice j5 sC yN,.agg #[.slice kK fL jG,.slice lV YC Tp,.int .i64 bT],.int .i64 e]) L R:=
 ⟨q,j5,kK,lV,sC,yN,fL,jG,YC,Tp,bT,.nil,.nil,.nil,by rw[h],⟨J.g6,J.g6,J.g6⟩,λk=>by omega,by rw[lT,lT,lT];rfl,rfl⟩
def a5O{s:dQ}{c:List b8}{Z:List a9}{r:j4}{f:hI}{t e:Int}(h:nP s c Z r f t=e)(X:e≠0):r6 s c Z r f t=e:=by rw[r6,if_pos D,h]
def b76(s:dQ)(c:a0 b8)(Z:a0 a9)(r:j4)(f:hI)(t:Int)(L:aP)(R:aJ)(h:IB s c Z R)(hf:k9 f R)(fW:∀x∈Z.l,-4611686018427387904<=x.bO)(M:0<=r.time)(hn:c.l.length<=1000):
 aI prog 223 [s.val,c.val,Z.val,r.val,f.val,.int .i64 t].toArray L R (aAD s c.l Z.l r f t L R):=by
 have C7:=h.aS;have jA:=hf.aF;have pL:=hf.cG;refine bW 132 call223 func223 ?_;apply(c8);intro hP;apply(iU);intro h8;apply(iU);intro jE;apply(dA);intro lN;apply jS∘dA;intro sA;apply g7∘aMn∘TH;refine cC rfl (aBH s c Z t _ _ h) ?_;apply(kB);apply(W)<;>intro aO;·
  refine a6 ?_;refine hF O [32,33,34] [0,1,2,3] [4,5,6,7] ([a5.mk sA _ _,a5.mk lN _ _,a5.mk jE _ _,a5.mk h8 _ _]) _ cX bE a2 NO ?_;apply YZ∘W9∘WZ∘a5R∘p7∘W8∘wX;refine gS (aZ (iT (gD ?_)));refine bN L R NQ ?_;have X:nP s c.l Z.l r f t=uO s c.l.length Z.l.length t:=by rw[nP,if_pos aO]
  exact .pT (q:=r) (a5O X aO) aO
 obtain⟨hok,kD,dS⟩:=Kv (s:=s) (YD:=c.l.length) (M9:=Z.l.length) (t:=t) D;apply GW∘tC;apply cB (aC:=[_,_,_]) (j:=3) (a7:=38) rfl rfl aE rfl aW rfl;·exact Jh
 intro iG;apply(b3);apply(W)<;>intro bF;·
  refine a6 ?_;refine hF O [44,45] [0,1,2] [3,4,5,6] ([a5.mk sA _ _,a5.mk lN _ _,a5.mk jE _ _,a5.mk h8 _ _]) _ cX bE a2 NO ?_;apply YZ∘W9∘WZ∘p7∘W8∘wX;refine gS (aZ (iT (gD ?_)));refine bN L R NQ ?_;have X:nP s c.l Z.l r f t=10:=by rw[nP,if_neg aO,if_pos D]
  exact a8r
 apply(iK);refine aG E0 ?_;apply(b1);refine cC rfl (aMP r t _ _ M dS) ?_;apply(oW);apply(W)<;>intro b2;·
  refine a6 ?_;refine hF O [51,52] [0,1,2] [3,4,5,6] ([a5.mk sA _ _,a5.mk lN _ _,a5.mk jE _ _,a5.mk h8 _ _]) _ cX bE a2 NO ?_;apply YZ∘W9∘WZ∘p7∘W8∘wX;refine gS (aZ (iT (gD ?_)));refine bN L R NQ ?_;have X:nP s c.l Z.l r f t=8:=by rw[nP,if_neg aO,if_neg D,if_pos PN]
  exact a8r
 have jH:¬P7 r t:=by simpa using b2
 apply iK∘aMn∘Fb∘gE;refine cC rfl (aCx s c Z r.dI t _ _ h hok kD dS fW) ?_;apply(kB);apply(W)<;>intro dZ;·
  refine a6 ?_;refine hF O [63,64,65] [0,1,2,3] [4,5,6,7] ([a5.mk sA _ _,a5.mk lN _ _,a5.mk jE _ _,a5.mk h8 _ _]) _ cX bE a2 NO ?_;apply YZ∘W9∘WZ∘a5R∘p7∘W8∘wX;refine gS (aZ (iT (gD ?_)));refine bN L R NQ ?_;have X:nP s c.l Z.l r f t=sF s c.l Z.l r.dI t:=by rw[nP,if_neg aO,if_neg D,if_neg jH,if_pos dZ]
  exact .pT (q:=r) (a5O X dZ) dZ
 apply iK∘a5L;refine cC rfl (Ll f _ _ hf) ?_;apply(kB);apply(W)<;>intro dX;·
  refine a6 ?_;refine hF O [71,72,73] [0,1,2,3] [4,5,6,7] ([a5.mk sA _ _,a5.mk lN _ _,a5.mk jE _ _,a5.mk h8 _ _]) _ cX bE a2 NO ?_;apply YZ∘W9∘WZ∘a5R∘p7∘W8∘wX;refine gS (aZ (iT (gD ?_)));refine bN L R NQ ?_;have X:nP s c.l Z.l r f t=i6 f.aT.l f.aU.l f.cA:=by rw[nP,if_neg aO,if_neg D,if_neg jH,if_neg dZ,if_pos dX]
  exact .pT (q:=r) (a5O X dX) dX
 apply QR∘nO∘qP;apply(W)<;>intro h3;·
  refine a6 ?_;refine hF O [81,82] [0,1,2] [3,4,5,6] ([a5.mk sA _ _,a5.mk lN _ _,a5.mk jE _ _,a5.mk h8 _ _]) _ cX bE a2 NO ?_;apply YZ∘W9∘WZ∘p7∘W8∘wX;refine gS (aZ (iT (gD ?_)));refine bN L R NQ ?_;have X:nP s c.l Z.l r f t=17:=by rw[nP,if_neg aO,if_neg D,if_neg jH,if_neg dZ,if_neg dX,if_pos D]
  exact a8r
 have aTJ:=a4B (s:=s) (c:=c.l) (Z:=Z.l) (k:=r.dI) (t:=t) D;have iJ:i6 f.aT.l f.aU.l f.cA=0:=Decidable.not_not.1 dX;have bCJ:=zD iJ;have DH:=bCJ.Dh r.dI.toNat D;have rZ:=bJ f.aU.l r.dI.toNat 0;have rB:=bJ c.l r.dI.toNat default;obtain⟨x,K⟩:∃x,x=c.l.getD r.dI.toNat default:=⟨_,rfl⟩;rw[<-K]at rB;obtain⟨a,ha⟩:∃a,a=xK f r.dI:=⟨_,rfl⟩;have Uj:SW f.aT.l (xC f.aT.l f.aU.l f.cA (f.aU.l.getD r.dI.toNat 0))=a:=by rw[ha,xK]
 apply eR∘kJ;refine aG aI0 ?_;apply ZW∘a5L∘b1;refine cC rfl (aO3 f (f.aU.l.getD r.dI.toNat 0) _ _ hf iJ D) ?_;apply(OD);rw[Uj];apply wC∘a5L∘gE;refine cC rfl (b5v c f r.dI a _ _ C7 hf iJ D) ?_;apply(b3);apply(W)<;>intro hW;·
  refine a6 ?_;refine hF O [99,100] [0,1,2] [3,4,5,6] ([a5.mk sA _ _,a5.mk lN _ _,a5.mk jE _ _,a5.mk h8 _ _]) _ cX bE a2 NO ?_;apply YZ∘W9∘WZ∘p7∘W8∘wX;refine gS (aZ (iT (gD ?_)));refine bN L R NQ ?_;have X:nP s c.l Z.l r f t=20:=by rw[nP,if_neg aO,if_neg D,if_neg jH,if_neg dZ,if_neg dX,if_neg D,if_pos (by rw[<-ha];simpa using hW)]
  exact a8r
 have qB:nP s c.l Z.l r f t=0:=by rw[nP,if_neg aO,if_neg D,if_neg jH,if_neg dZ,if_neg dX,if_neg D,if_neg (by rw[<-ha];simpa using hW)]
 have X:(r6 s c.l Z.l r f t)=BK f.aT.l f.aU.l f.cA a t:=by rw[r6,if_neg D,<-ha]
 apply eR∘a5L∘pS;refine cK (b7C f a t _ _ hf) ?_;rintro v E G ⟨p,q,bT,rfl,⟨iB,gG⟩,i1,rfl,rfl⟩;refine aG iR ?_;apply(G7);intro yL;apply i3∘TJ;apply(W)<;>intro oO;·refine a6 ?_;refine hF O [111,112,113] [0,1,2,3] [4,5,6,7] ([a5.mk yL _ _,a5.mk sA _ _,a5.mk lN _ _,a5.mk jE _ _,a5.mk h8 _ _]) _ cX bE a2 NO ?_;apply YZ∘W9∘WZ∘a5R∘p7∘W8∘wX;refine gS (aZ (iT (gD ?_)));refine bN L R NQ ?_;exact .pT (q:=r) X oO
 have nQ:BK f.aT.l f.aU.l f.cA a t=0:=by omega
 obtain⟨eB,gB,rfl⟩:=i1 nQ;have Ue:¬(r6 s c.l Z.l r f t)≠0:=by omega
 have a7j:P2 f r↔a=f.aU.l.getD r.dI.toNat 0:=by rw[P2,<-ha]
 apply(G1);refine gO aZV rfl ?_;rintro v E G ⟨UY,rfl,aTp,rfl,rfl⟩;apply z5∘pS∘qP;apply(W)<;>intro FV;·apply yF∘r7∘jW;refine hF O [122,123] [0,1,2] [3,4,5,6] ([a5.mk yL _ _,a5.mk sA _ _,a5.mk lN _ _,a5.mk jE _ _,a5.mk h8 _ _]) _ cX bE a2 NO ?_;apply YZ∘W9∘WZ∘p7∘W8∘wX;refine gS (aZ (iT (gD ?_)));refine bN ((⟨UY,c.l⟩:J b8).L 71 b8.cells++(q.L 3 aL++(p.L 76 bL.cells++L))) R NQ ?_;exact⟨⟨r.dI,r.first,r.Pw,r.step,t⟩,UY.oM,p.o.oM,q.o.oM,c.l.length,UY.cap,p.l.length,p.o.cap,q.l.length,q.o.cap,f.cA,⟨UY,c.l⟩,p,q,by rw[X,nQ];rfl,⟨aTp,iB,gG⟩,λ_=>⟨by rw[z7,if_neg Ue,if_neg (by rw[a7j];omega)],rfl,rfl,rfl,rfl,by rw[CV,if_neg Ue,if_neg (by rw[a7j];omega)],by rw[D3,if_neg Ue,eB,ha],gB⟩,rfl,rfl⟩
 apply eR∘BB;refine aG (h4 O ((⟨UY,c.l⟩:J b8)) _ rfl rfl rfl rfl bC (i:=r.dI.toNat) cW iC) ?_;apply(k7);refine i4 (jL O ((⟨UY,c.l⟩:J b8)) (⟨false,x.clear,x.jJ⟩) rfl rfl rfl rfl c0 bC bI bC bH aE aE) ?_;rintro v E G ⟨rfl,rfl⟩;apply(jW);have aFY:=J.p4 (f:=b8.cells) (aR:=3) (p:=⟨UY,c.l⟩) (i:=r.dI.toNat) (x:=⟨false,x.clear,x.jJ⟩) bI aTp;refine hF O [130,131] [1,2,0] [3,4,5,6] ([a5.mk yL _ _,a5.mk sA _ _,a5.mk lN _ _,a5.mk jE _ _,a5.mk h8 _ _]) _ cX bE a2 NO ?_;apply W9∘WZ;refine k2 rfl (aCm _ _) rfl rfl ?_;rintro v E G ⟨rfl,rfl,rfl⟩;refine⟨a2,gN,?_⟩;apply p7∘W8∘wX;refine gS (aZ (iT ?_));refine bN ((⟨UY,c.l.set r.dI.toNat ⟨false,x.clear,x.jJ⟩⟩:J b8).L 71 b8.cells++(q.L 3 aL++(p.L 76 bL.cells++L))) R NQ ?_;exact⟨u9,UY.oM,p.o.oM,q.o.oM,c.l.length,UY.cap,p.l.length,p.o.cap,q.l.length,q.o.cap,f.cA,⟨UY,c.l.set r.dI.toNat ⟨false,x.clear,x.jJ⟩⟩,p,q,by rw[X,nQ];rfl,⟨aFY,iB,gG⟩,λ_=>⟨by rw[z7,if_neg Ue,if_pos (by rw[a7j];omega)],by simp only[J.val,p6],rfl,rfl,rfl,by rw[CV,if_neg Ue,if_pos (by rw[a7j];omega),<-K],by rw[D3,if_neg Ue,eB,ha],gB⟩,rfl,rfl⟩
end
def b6u{s:fA}{m:eA}{t:Int}(hm:w9 m):-1125899906842624<=(xL s m t).bO:=by
 rw[w9]at hm;rw[xL];split;·show(-1125899906842624:Int)<=1125899906842624;decide
 rename_i h;have hb:=(a6e h).2;split;·exact hm.2.2.1
 split;·exact NJ
 ·rw[a5s];dsimp only;omega
def Dn(l:List a9):Prop:=∀k:Nat,-1125899906842624<=(l.getD k default).bO
def Dn.set{l:List a9}(h:Dn l)(k:Nat){x:a9}(K:-1125899906842624<=x.bO):Dn (l.set k x):=λj=>by
 rw[iW,EU]
 split
 ·split
  ·exact K
  ·show(-1125899906842624:Int)<=0;decide
 ·have:=h j
  rwa[iW]at this
def b70{n:Nat}{t:Int}{l:List fA}{e7:SM}{x:eA}(h:Dn e7.cU)(K:w9 x):Dn (H5 n 3 kY t l e7 x).cU:=by
 rw[H5];split;·exact h
 split;·refine h.set _ ?_;rw[Ri,BG];have N:=h (l.getD x.lX.toNat default).target.toNat;have V:=b6u (s:=l.getD x.lX.toNat default) (t:=t) K;exact NJ
 ·exact h.set _ (by show(-1125899906842624:Int)<=1125899906842624;decide)
def aRv{n:Nat}{t:Int}{l:List fA}: ∀(m:List eA) {e7:SM},(∀x∈m,w9 x)->Dn e7.cU->Dn (m.foldl (H5 n 3 kY t l) e7).cU
 |[],_,_,h=>h
 |x::m,_,hm,h=>aRv m (λy aN=>hm y (.tail _ aN)) (b70 h (hm x (.head _)))
def aCW{g:hQ}{p:b0}(h:Inv g p):∀x∈fC g p,-4611686018427387904<=x.bO:=λx K=>by
 have N:Dn (fC g p):=by
  rw[fC,KE,P0,P5]
  refine aRv _ (λy aN=>h.LF y (Qc aN)) ?_
  exact λk=>(b9a h.bU (a9x _ _) h.xI k).2.1
 obtain⟨j,aY,rfl⟩:=Qm K
 have:=N j
 rw[iW,ET aY]at this
 have e:(some (fC g p)[j]).getD default=(fC g p)[j]:=rfl
 rw[e]at this
 omega
attribute [local irreducible] cH c6 dP aI cJ eD e9 e0 e1 e5 eS e8 J.L
def xB(h:A->B:=by exact(aG x9 ·)):=h
def a41(h:A->B:=by exact PW O rfl rfl rfl rfl s6 aE aE aE):=h
def a32(h:B:=by exact⟨u,by rw[dY],by rw[dY];exact c4,xV,rfl,λr M=>((nF r M).mono (mV Z)).mono jR⟩):=h
def aBi(h:A->B:=by exact(aG lR ·)):=h
def aCr(h:A->B:=by exact(a4 qI ·)):=h
def aAP(h:A->B:=by exact(a4 x9 ·)):=h
def aCB(h:A->B:=by exact(a4 E0 ·)):=h
def aP1(h:A->B:=by exact(aG E0 ·)):=h
def aMI(h:A->B:=by exact(a4 lR ·)):=h
def aRp(h:A->B:=by exact Ye rfl rfl rfl rfl s6 aE aE aE a2):=h
def Kw(g:hQ)(q:b0×Int)(L:aP)(R:aJ):oY:=λv E G=>∃y:cF,v=.tuple #[y.val,.int .i64 q.2]/\h5 g q.1 y/\lK y G/\L=E/\∀r∈R,aH r G
def b38(g:hQ)(p:b0)(x:cF)(t:Int)(L:aP)(R:aJ)(K:h5 g p x):
 aI prog 214 [x.val,.int .i64 t].toArray L R (λv E G=>v=.bool (!decide (o8 p t))/\L=E/\R=G):=by
 have rX:x.time=p.time:=K.time;refine bW 13 call214 func214 ?_;apply(c8);intro cS;apply QU∘IW∘DL∘c9;apply iZ (aC:=[_,_]) (j:=4) (a7:=9) rfl rfl aE rfl aW rfl;·intro gW;replace gW:=a8 gW;exact(b1) VP
 intro yU;apply(v9);refine lG L R ?_;exact⟨by refine congrArg Value.bool ?_;rw[Jb,<-decide_not,decide_eq_true_iff (p:=¬o8 p t),o8,<-rX];simp,rfl,rfl⟩
def b4q(g:hQ)(p:b0)(x:cF)(t:Int)(L:aP)(R:aJ)(dR:Inv g p)(K:h5 g p x)(bD:lK x R):
 aI prog 137 [x.val,.int .i64 t].toArray L R (Kw g (IJ g p t) L R):=by
 refine bW 14 call137 func137 ?_;apply(c8);intro cS;apply(dA);intro cT;apply g7∘xB∘b1;refine cC rfl Xd ?_;apply(oW);apply(W)<;>intro aO;·
  apply cO∘xB∘q4;refine bN L R nL ?_;have hl:o8 p t:=by simpa using aO
  exact⟨x,by rw[IJ,if_pos hl],by rw[IJ,if_pos hl];exact K,bD,rfl,mB _⟩
 have hl:¬o8 p t:=by simpa using aO
 have dS:=wT hl;apply eR∘xB∘b1;refine cK a88 ?_;rintro v E G ⟨y,rfl,aN,jZ,rfl,nF⟩;apply(pI);refine bN L _ nL ?_;exact⟨y,by rw[IJ,if_neg hl],by rw[IJ,if_neg hl];exact aN,jZ,rfl,nF⟩
def b5F(g:hQ)(p:b0)(x:cF)(k sh t:Int)(L:aP)(R:aJ)(dR:Inv g p)(K:h5 g p x)(bD:lK x R):
 aI prog 133 [x.val,.int .i64 k,.int .i64 sh,.int .i64 t].toArray L R (Kw g (CW g p k sh t) L R):=by
 have vP:x.cP.aT.l=p.aF:=K.aF;have HH:x.cP.aU.l=g.cG:=K.cG;have kS:x.cP.cA=g.bT:=K.bT;have HC:sT x.cP.aT.l x.cP.aU.l x.cP.cA k sh=sT p.aF g.cG g.bT k sh:=by rw[vP,HH,kS]
 refine bW 34 call133 func133 ?_;apply(c8);intro cT;apply(dA);intro gL;apply g7∘xB∘b1;refine cC rfl Xd ?_;apply(oW);apply(W)<;>intro aO;·
  apply cO∘xB∘q4;refine bN L R nL ?_;have hl:o8 p t:=by simpa using aO
  exact⟨x,by rw[CW,if_pos hl],by rw[CW,if_pos hl];exact K,bD,rfl,mB _⟩
 have hl:¬o8 p t:=by simpa using aO
 have dS:=wT hl;apply eR∘eP∘aBi∘pS;refine cK (b3t x.cP k sh _ _ bD.cP) ?_;rintro v E G ⟨EI,HQ,PE,rfl,⟨aFX,aGk⟩,aED,rfl,rfl⟩;refine aG iR ?_;apply(G7);intro jE;apply i3∘TJ;apply(W)<;>intro bF;·
  apply cO∘xB∘tZ;refine bN L R nL ?_;have X:sT p.aF g.cG g.bT k sh≠0:=by rw[<-HC];exact bF
  exact⟨x,by rw[CW,if_neg hl,if_pos X,HC],by rw[CW,if_neg hl,if_pos X];exact K,bD,rfl,mB _⟩
 apply eR∘aBi∘eP∘a41∘jW;refine hG 3 aL 1 HQ [] aGk ?_;refine fU ?_;refine hG 76 bL.cells 5 EI [] aFX ?_;refine fU ?_;have X:sT p.aF g.cG g.bT k sh=0:=by rw[<-HC];exact Decidable.not_not.1 bF
 obtain⟨XY,aGj,aGp⟩:=aED (by rw[HC];exact X);have w2:=dR.aDe X;have a1m:h5 g {p with aF:=LZ p.aF k sh} ({x with cP:=⟨EI.U,HQ.U,PE⟩}:cF):={K with aF:=by rw[<-vP];exact XY,cG:=aGj.trans HH,bT:=aGp.trans kS};have mV:∀r∈R,aH r (uT EI.U::cZ HQ.U::R):=λr M=>aM (.tail _ (.tail _ M));have Ui:lK ({x with cP:=⟨EI.U,HQ.U,PE⟩}:cF) (uT EI.U::cZ HQ.U::R):=⟨bD.aK.mono mV,bD.held.mono mV,bD.c5.mono mV,bD.eF.mono mV,bD.aS.mono mV,⟨aM (.head _),aM (.tail _ (.head _))⟩,bD.eM.mono mV⟩;apply eK∘xB∘b1;refine cK (a9L g _ _ t _ _ w2 a1m Ui dS) ?_;rintro v E G ⟨y,rfl,aN,jZ,rfl,nF⟩;apply(pI);refine bN L _ nL ?_;have e:CW g p k sh t=(bM g {p with aF:=LZ p.aF k sh} t,0):=by rw[CW,if_neg hl,if_neg a20]
 exact⟨y,by rw[e],by rw[e];exact aN,jZ,rfl,λr M=>(mV r M).mono nF⟩
def lK.aB{x:cF}{q:j4}{R:aJ}(h:lK x R):lK ({x with aB:=q}:cF) R:=⟨h.aK,h.held,h.c5,h.eF,h.aS,h.cP,h.eM⟩
def IB.of{g:hQ}{p:b0}{y:cF}{Z:a0 a9}{R:aJ}(bD:lK y R):IB y.aK y.aS Z (s3 Z::R):=⟨bD.aK.mono λr M=>aM (.tail _ M),bD.aS.mono λr M=>aM (.tail _ M),aM (.head _)⟩
def b87(g:hQ)(p:b0)(x:cF)(a z t:Int)(L:aP)(R:aJ)(dR:Inv g p)(K:h5 g p x)(bD:lK x R):
 aI prog 134 [x.val,.int .i64 a,.int .i64 z,.int .i64 t].toArray L R (Kw g (zZ g p a z t) L R):=by
 refine bW 48 call134 func134 ?_;apply(c8);intro cT;apply(dA);intro gL;apply g7∘xB∘b1;refine cC rfl Xd ?_;apply(oW);apply(W)<;>intro aO;·
  apply cO∘xB∘q4;refine bN L R nL ?_;have hl:o8 p t:=by simpa using aO
  exact⟨x,by rw[zZ,if_pos hl],by rw[zZ,if_pos hl];exact K,bD,rfl,mB _⟩
 have hl:¬o8 p t:=by simpa using aO
 have dS:=wT hl;have nX:=dR.settle dS.1 dS.2;apply eR∘xB∘b1;refine cK a88 ?_;rintro v E G ⟨y,rfl,aN,jZ,rfl,nF⟩;obtain⟨gR,rfl⟩:∃gR,gR=G:=⟨_,rfl⟩;have EF:tX y gR:=tX.of nX aN jZ.aK jZ.c5;have uF:lS y.aK.bU.Y g.bU:=fZ.xI aN.aK nX.xI;have rW:y.aB=(bM g p t).aB:=aN.aB;have mV:∀Z:a0 a9,∀r∈gR,aH r (s3 Z::gR):=λ_ r M=>aM (.tail _ M);try dsimp only[cF.cells]
 apply(G5);refine gJ O [0,1,2,3,4,6,7,8,9,10,5,11,12,13,14,15,16,17] ([a5.mk cT _ _]) cX bE a2 ?_;apply kT∘aCr∘iI∘aAP∘kT∘aCB;iterate 3 apply(g1)
 refine q1 rfl (Zw y g.bU _ _ EF uF) rfl rfl ?_;rintro v E G ⟨Z,rfl,fW,rfl,rfl⟩;refine⟨a2,gN,?_⟩;have iJ:Z.l=fC g (bM g p t):=fW.trans (h5.g8 aN);refine k6 rfl (b57 y.aK y.aS Z y.aB a z t _ _ (IB.of (g:=g) (p:=p) jZ) (by rw[iJ];exact aCW nX)) ?_;refine a4 iR ?_;refine a4 sL ?_;refine a4 sL ?_;apply(p2);intro jE;apply(wX);refine gS (aZ (a6 (a6 ?_)));have nQ:y.aS.l=(bM g p t).aS:=aN.aS;have HC:p9 y.aK y.aS.l Z.l y.aB a z t=p9 g.aK (bM g p t).aS (fC g (bM g p t)) (bM g p t).aB a z t:=by rw[fZ.p9 aN.aK,nQ,iJ,rW]
 have Q2:u0 y.aK y.aS.l Z.l y.aB a z t=u0 g.aK (bM g p t).aS (fC g (bM g p t)) (bM g p t).aB a z t:=by rw[fZ.u0 aN.aK,nQ,iJ,rW]
 rw[HC,Q2];obtain⟨e,X⟩:∃e,e=p9 g.aK (bM g p t).aS (fC g (bM g p t)) (bM g p t).aB a z t:=⟨_,rfl⟩;rw[<-X];apply(WS);apply(W)<;>intro bF;·
  apply cO∘xB∘pS;refine cK (WA g (bM g p t) y 7 z e _ _ aN (jZ.mono (mV Z)) nX.eM) ?_;rintro v E G ⟨u,rfl,c4,xV,rfl,jR⟩;apply(tZ);refine bN L _ nL ?_;have dY:zZ g p a z t=(o7 (bM g p t) 7 z e,e):=by rw[zZ,if_neg hl];dsimp only;rw[<-X,if_pos bF]
  exact a32
 apply eR∘aP1∘eP∘a41∘jW;obtain⟨lY,zO⟩:∃lY:cF,lY={y with aB:=u0 g.aK (bM g p t).aS (fC g (bM g p t)) (bM g p t).aB a z t}:=⟨_,rfl⟩;have Pg:h5 g {(bM g p t)with aB:=u0 g.aK (bM g p t).aS (fC g (bM g p t)) (bM g p t).aB a z t} lY:=by rw[zO];exact{aN with aB:=rfl}
 have Ph:lK lY (s3 Z::gR):=by rw[zO];exact(jZ.mono (mV Z)).aB
 refine uV (E:=⟨gL,r2.cells,54⟩::⟨cT,lY.cells,54⟩::L) (by rw[zO];exact a2) fF ?_;try dsimp only[cF.cells]
 apply eK∘xB∘pS;refine cK (WA g _ lY 4 z a _ _ Pg Ph nX.eM) ?_;rintro v E G ⟨u,rfl,c4,xV,rfl,jR⟩;apply(pI);refine bN L _ nL ?_;have dY:zZ g p a z t=(o7 {(bM g p t)with aB:=u0 g.aK (bM g p t).aS (fC g (bM g p t)) (bM g p t).aB a z t} 4 z a,0):=by rw[zZ,if_neg hl];dsimp only;rw[<-X,if_neg bF]
 exact a32
def b2E(g:hQ)(p:b0)(x:cF)(a t:Int)(L:aP)(R:aJ)(dR:Inv g p)(K:h5 g p x)(bD:lK x R):
 aI prog 135 [x.val,.int .i64 a,.int .i64 t].toArray L R (Kw g (CQ g p a t) L R):=by
 refine bW 49 call135 func135 ?_;apply(c8);intro dG;apply(dA);intro hP;apply g7∘xB∘b1;refine cC rfl Xd ?_;apply(oW);apply(W)<;>intro aO;·
  apply cO∘xB∘q4;refine bN L R nL ?_;have hl:o8 p t:=by simpa using aO
  exact⟨x,by rw[CQ,if_pos hl],by rw[CQ,if_pos hl];exact K,bD,rfl,mB _⟩
 have hl:¬o8 p t:=by simpa using aO
 have dS:=wT hl;have nX:=dR.settle dS.1 dS.2;apply eR∘xB∘b1;refine cK a88 ?_;rintro v E G ⟨y,rfl,aN,jZ,rfl,nF⟩;obtain⟨gR,rfl⟩:∃gR,gR=G:=⟨_,rfl⟩;have EF:tX y gR:=tX.of nX aN jZ.aK jZ.c5;have uF:lS y.aK.bU.Y g.bU:=fZ.xI aN.aK nX.xI;have rW:y.aB=(bM g p t).aB:=aN.aB;have mV:∀Z:a0 a9,∀r∈gR,aH r (s3 Z::gR):=λ_ r M=>aM (.tail _ M);try dsimp only[cF.cells]
 apply rP∘FE∘zG;refine gJ O [0,1,2,3,4,6,7,8,9,5,10,11,12,13,14,15,16] ([a5.mk dG _ _]) cX bE a2 ?_;apply kT∘aCr∘iI∘aAP∘kT∘aCB∘g1∘g1;refine q1 rfl (Zw y g.bU _ _ EF uF) rfl rfl ?_;rintro v E G ⟨Z,rfl,fW,rfl,rfl⟩;refine⟨a2,gN,?_⟩;have iJ:Z.l=fC g (bM g p t):=fW.trans (h5.g8 aN);refine k6 rfl (b2s y.aK y.aS Z y.aB a t _ _ (IB.of (g:=g) (p:=p) jZ) (by rw[iJ];exact aCW nX) (by rw[rW];exact nX.aB.1)) ?_;refine a4 iR ?_;refine a4 sL ?_;refine a4 sL ?_;apply(p2);intro h8;apply(wX);refine gS (aZ (a6 (a6 ?_)));have nQ:y.aS.l=(bM g p t).aS:=aN.aS;have HC:tD y.aK y.aS.l Z.l y.aB a t=tD g.aK (bM g p t).aS (fC g (bM g p t)) (bM g p t).aB a t:=by rw[fZ.tD aN.aK,nQ,iJ,rW]
 have Q2:vL y.aK y.aS.l Z.l y.aB a t=vL g.aK (bM g p t).aS (fC g (bM g p t)) (bM g p t).aB a t:=by rw[fZ.vL aN.aK,nQ,iJ,rW]
 rw[HC,Q2];obtain⟨e,X⟩:∃e,e=tD g.aK (bM g p t).aS (fC g (bM g p t)) (bM g p t).aB a t:=⟨_,rfl⟩;rw[<-X];apply(WS);apply(W)<;>intro bF;·
  apply cO∘xB∘pS;refine cK (WA g (bM g p t) y 7 y.aB.dI e _ _ aN (jZ.mono (mV Z)) nX.eM) ?_;rintro v E G ⟨u,rfl,c4,xV,rfl,jR⟩;apply(tZ);refine bN L _ nL ?_;have dY:CQ g p a t=(o7 (bM g p t) 7 y.aB.dI e,e):=by rw[CQ,if_neg hl];dsimp only;rw[<-X,if_pos bF,rW]
  exact a32
 apply eR∘aP1∘eP∘a41∘jW;obtain⟨lY,zO⟩:∃lY:cF,lY={y with aB:=vL g.aK (bM g p t).aS (fC g (bM g p t)) (bM g p t).aB a t}:=⟨_,rfl⟩;have Pg:h5 g {(bM g p t)with aB:=vL g.aK (bM g p t).aS (fC g (bM g p t)) (bM g p t).aB a t} lY:=by rw[zO];exact{aN with aB:=rfl}
 have Ph:lK lY (s3 Z::gR):=by rw[zO];exact(jZ.mono (mV Z)).aB
 refine uV (E:=⟨hP,r2.cells,54⟩::⟨dG,lY.cells,54⟩::L) (by rw[zO];exact a2) fF ?_;try dsimp only[cF.cells]
 apply eK∘xB∘pS;refine cK (WA g _ lY 5 y.aB.dI a _ _ Pg Ph nX.eM) ?_;rintro v E G ⟨u,rfl,c4,xV,rfl,jR⟩;apply(pI);refine bN L _ nL ?_;have dY:CQ g p a t=(o7 {(bM g p t)with aB:=vL g.aK (bM g p t).aS (fC g (bM g p t)) (bM g p t).aB a t} 5 y.aB.dI a,0):=by rw[CQ,if_neg hl];dsimp only;rw[<-X,if_neg bF,rW]
 exact a32
def b9b(g:hQ)(p:b0)(x:cF)(t:Int)(L:aP)(R:aJ)(dR:Inv g p)(K:h5 g p x)(bD:lK x R):
 aI prog 136 [x.val,.int .i64 t].toArray L R (Kw g (CE g p t) L R):=by
 refine bW 67 call136 func136 ?_;apply(c8);intro cS;apply(dA);intro cT;apply g7∘xB∘b1;refine cC rfl Xd ?_;apply(oW);apply(W)<;>intro aO;·
  apply cO∘xB∘q4;refine bN L R nL ?_;have hl:o8 p t:=by simpa using aO
  exact⟨x,by rw[CE,if_pos hl],by rw[CE,if_pos hl];exact K,bD,rfl,mB _⟩
 have hl:¬o8 p t:=by simpa using aO
 have dS:=wT hl;have nX:=dR.settle dS.1 dS.2;apply eR∘xB∘b1;refine cK a88 ?_;rintro v E G ⟨y,rfl,aN,jZ,rfl,nF⟩;obtain⟨gR,rfl⟩:∃gR,gR=G:=⟨_,rfl⟩;have EF:tX y gR:=tX.of nX aN jZ.aK jZ.c5;have uF:lS y.aK.bU.Y g.bU:=fZ.xI aN.aK nX.xI;have rW:y.aB=(bM g p t).aB:=aN.aB;have nQ:y.aS.l=(bM g p t).aS:=aN.aS;have K5:a9v y.cP (pD g (bM g p t)):=⟨aN.aF,aN.cG,aN.bT⟩;have tL:=nX.Qx;have i1:=nX.D5;have rT:=nX.Gg;have XT:=nX.aB;rw[<-rW]at XT;have Pk:y.cP.aU.l=g.cG:=aN.cG;have a7u:y.cP.aT.l=(bM g p t).aF:=aN.aF;have bCD:i6 y.cP.aT.l y.cP.aU.l y.cP.cA=0:=by rw[a7u,Pk,aN.bT];exact nX.BN
 have mV:∀Z:a0 a9,∀r∈gR,aH r (s3 Z::gR):=λ_ r M=>aM (.tail _ M);have pL:=jZ.cP.cG;have rU:y.cP.aU.l.length=(bM g p t).aS.length:=by rw[Pk,tL,i1]
 try dsimp only[cF.cells]
 apply rP∘FE∘mL∘Ez∘GY;refine v2 ([7]++b4 25 9) ((⟨λg=>[(7,.int .i64 g.1)],λ_=>⟨cT,r2.cells,54⟩::⟨cS,y.cells,54⟩::L,λ_=>gR,λ_=>0⟩:dV {a:Int//0<=y.aB.dI->a=xK y.cP y.aB.dI})) ?_ ?_;·
  skip
  apply(W)<;>intro bF;·have rZ:=bJ y.cP.aU.l y.aB.dI.toNat 0;have DH:=rT.Dh y.aB.dI.toNat D;rw[<-Pk,<-a7u]at DH;refine gJ O [0,1,2,3,4,5,6,7,8,9] ([a5.mk cS _ _]) cX bE a2 ?_;apply kT∘aMI∘kT∘oV;refine a4 (by first|exact j9 O rfl rfl rfl rfl jC (i:=y.aB.dI.toNat) cW D|exact i9 O rfl rfl rfl rfl (i:=y.aB.dI.toNat) cW D) ?_;apply(lW);refine k6 rfl (aO3 y.cP (y.cP.aU.l.getD y.aB.dI.toNat 0) _ _ jZ.cP bCD D) ?_;apply(qD);refine gS ?_;exact VV ⟨SW y.cP.aT.l (xC y.cP.aT.l y.cP.aU.l y.cP.cA (y.cP.aU.l.getD y.aB.dI.toNat 0)),λ_=>rfl⟩ kG bP g3 fF
  refine dK ?_;exact VV ⟨-1,λh=>absurd h bF⟩ kG bP g3 fF
 rintro⟨a,ha⟩ bZ;try dsimp only
 dsimp only[cF.cells];refine a6 ?_;refine gJ O [0,1,2,3,4,6,7,8,9,10,5,11,12,13,14,15,16,17,18,19,20,21,22] ([a5.mk cS _ _]) cX bE a2 ?_;apply kT∘aCr∘iI∘aAP∘kT∘aCB∘kT∘aMI∘g1;refine q1 rfl (Zw y g.bU _ _ EF uF) rfl rfl ?_;rintro v E G ⟨Z,rfl,fW,rfl,rfl⟩;refine⟨a2,gN,?_⟩;have iJ:Z.l=fC g (bM g p t):=fW.trans (h5.g8 aN);refine q1 rfl (b76 y.aK y.aS Z y.aB y.cP t _ _ (IB.of (g:=g) (p:=p) jZ) (jZ.cP.mono (mV Z)) (by rw[iJ];exact aCW nX) XT.1 (by rw[nQ];have:=nX.RX.len;omega)) rfl rfl ?_;rintro v E G ⟨Iq,j5,kK,lV,sC,yN,fL,jG,YC,Tp,bT,eW,yX,p1,rfl,⟨XZ,aF7,aGg⟩,Ai,rfl,rfl⟩;refine⟨a2,gN,?_⟩;have Nl:r6 y.aK y.aS.l Z.l y.aB y.cP t=r6 g.aK (bM g p t).aS (fC g (bM g p t)) (bM g p t).aB (pD g (bM g p t)) t:=by rw[a0p aN.aK K5,nQ,iJ,rW]
 rw[Nl]at Ai|-;refine a4 iR ?_;iterate 4 refine a4 sL ?_
 apply(p2);intro gL;apply(p2);intro jE;apply(sE);refine a4 A0 ?_;apply(wX);refine gS (aZ (a6 (a6 ?_)));obtain⟨e,X⟩:∃e,e=r6 g.aK (bM g p t).aS (fC g (bM g p t)) (bM g p t).aB (pD g (bM g p t)) t:=⟨_,rfl⟩;rw[<-X]at Ai Nl|-;refine hG 71 b8.cells 3 eW [] XZ ?_;refine fU ?_;refine hG 3 aL 1 p1 [] aGg ?_;refine fU ?_;refine hG 76 bL.cells 5 yX [] aF7 ?_;refine fU ?_;obtain⟨n4,I5⟩:∃n4,n4=uT yX.U::cZ p1.U::sS eW.U::s3 Z::gR:=⟨_,rfl⟩;have HE:∀r∈gR,aH r n4:=λr M=>aM (by rw[I5];exact .tail _ (.tail _ (.tail _ (.tail _ M))));have a1X:aH (sS eW.U) n4:=aM (by rw[I5];exact .tail _ (.tail _ (.head _)));have aFZ:k9 ⟨yX.U,p1.U,y.cP.cA⟩ n4:=⟨aM a2V,aM (by rw[I5];exact .tail _ (.head _))⟩;refine sU a9q ?_;apply(WS);apply(W)<;>intro b2;·
  apply cO∘xB∘pS;refine cK (WA g (bM g p t) y 7 y.aB.dI e _ _ aN (jZ.mono HE) nX.eM) ?_;rintro v E G ⟨u,rfl,c4,xV,rfl,jR⟩;apply(tZ);refine bN L _ nL ?_;have dY:CE g p t=(o7 (bM g p t) 7 y.aB.dI e,e):=by rw[CE,if_neg hl];dsimp only;rw[<-X,if_pos b2,rW]
  exact aWq
 have qB:e=0:=Decidable.not_not.1 b2;obtain⟨aGh,As,xU,bFr,rfl,aTE,bEt,bEu⟩:=Ai qB;cases As;cases xU;cases bFr;have wF:nP y.aK y.aS.l Z.l y.aB y.cP t=0:=by have C5:r6 y.aK y.aS.l Z.l y.aB y.cP t=0:=Nl.trans qB;exact aXx
 obtain⟨zO,-,-⟩:=aBq wF;have Q8:a=xK (pD g (bM g p t)) (bM g p t).aB.dI:=by rw[ha zO.1,Ko K5,rW]
 obtain⟨lY,aGR⟩:∃lY:cF,lY={y with aB:=Iq,aS:=eW.U,cP:=⟨yX.U,p1.U,y.cP.cA⟩}:=⟨_,rfl⟩;have Pg:h5 g ({(bM g p t)with aB:=z7 g.aK (bM g p t).aS (fC g (bM g p t)) (bM g p t).aB (pD g (bM g p t)) t,aS:=CV g.aK (bM g p t).aS (fC g (bM g p t)) (bM g p t).aB (pD g (bM g p t)) t,aF:=D3 g.aK (bM g p t).aS (fC g (bM g p t)) (bM g p t).aB (pD g (bM g p t)) t}:b0) lY:=by rw[aGR];exact{aN with aB:=by show Iq=_;rw[aGh,aJw aN.aK K5,nQ,iJ,rW],aS:=by show eW.l=_;rw[aTE,aQc aN.aK K5,nQ,iJ,rW],aF:=by show yX.l=_;rw[bEt,aNg aN.aK K5,nQ,iJ,rW],cG:=bEu.trans Pk}
 have Ph:lK lY n4:=by rw[aGR];exact⟨jZ.aK.mono HE,jZ.held.mono HE,jZ.c5.mono HE,jZ.eF.mono HE,a1X,aFZ,jZ.eM.mono HE⟩
 apply(x2);refine hF O [59,60] [0,1,2] [3,4,5,6,7,8] ([a5.mk jE _ _,a5.mk gL _ _,a5.mk cS _ _]) _ cX bE a2 aIF ?_;refine eO E0 ?_;refine m5 oG ?_;refine m5 lR ?_;apply x1∘kT∘aRp∘Sg∘kT∘aRp∘F7;refine uV (E:=⟨cT,r2.cells,54⟩::⟨cS,lY.cells,54⟩::L) (by rw[aGR];exact a2) fF ?_;dsimp only[cF.cells];apply eK∘xB∘b1;refine cK (WA g _ lY 6 a 0 _ _ Pg Ph nX.eM) ?_;rintro v E G ⟨u,rfl,c4,xV,rfl,jR⟩;apply(pI);refine bN L _ nL ?_;have dY:CE g p t=(o7 ({(bM g p t)with aB:=z7 g.aK (bM g p t).aS (fC g (bM g p t)) (bM g p t).aB (pD g (bM g p t)) t,aS:=CV g.aK (bM g p t).aS (fC g (bM g p t)) (bM g p t).aB (pD g (bM g p t)) t,aF:=D3 g.aK (bM g p t).aS (fC g (bM g p t)) (bM g p t).aB (pD g (bM g p t)) t}:b0) 6 a 0,0):=by rw[CE,if_neg hl];dsimp only;rw[<-X,if_neg b2,Q8]
 exact aWq
def b3H(g:hQ)(p:b0)(x:cF)(oN:a0 Int)(t:Int)(L:aP)(R:aJ)(dR:Inv g p)(K:h5 g p x)(bD:lK x R)(OT:aH (hA oN) R)(a6S:n2 oN.l)(Gr:oN.l.length<=100000)(OU:0<=p.eJ/\p.eJ<=1152921504606846976):
 aI prog 132 [x.val,oN.val,.int .i64 t].toArray L R (Kw g (IK g p oN.l t) L R):=by
 have X5:x.eJ=p.eJ:=K.eJ;have He:x.held.l=p.held:=K.held;have aS0:=dR.held;have oA:x.aK.cD.l=g.aK.cD.l:=fZ.LJ K.aK;have HM:=dR.RX.len;have a09:n2 (x.held.l++oN.l):=λy aN=>by exact aWl
 have bDm:=bD.c5;have UI:x.c5.l.length=g.aK.cD.l.length:=by rw[K.c5];exact dR.c5
 refine bW 61 call132 func132 ?_;apply(c8);intro dG;apply(dA);intro hP;apply g7∘xB∘b1;refine cC rfl Xd ?_;apply(oW);apply(W)<;>intro aO;·
  apply cO∘xB∘q4;refine bN L R nL ?_;have hl:o8 p t:=by simpa using aO
  exact⟨x,by rw[IK,if_pos hl],by rw[IK,if_pos hl];exact K,bD,rfl,mB _⟩
 have hl:¬o8 p t:=by simpa using aO
 have dS:=wT hl;apply eR∘CM∘hM;refine cK (b8i x.held oN x.eJ _ _ bD.held OT a09 D (by rw[He];omega)) ?_;rintro v E G ⟨yW,cU,rfl,⟨aF2,aFT⟩,aF3,Ok,a1u,rfl,a6L⟩;have iJ:j3 (x.held.l++oN.l) x.eJ=j3 (p.held++oN.l) p.eJ:=by rw[He,X5]
 have bEc:cU.l.length<=200000:=by have N:=aJ2 _ (l:=x.held.l++oN.l) x.eJ rfl;rw[<-Ok,uQ,iD,He]at N;omega
 have a1p:=aNp _ (l:=x.held.l++oN.l) x.eJ rfl a09;rw[<-Ok]at a1p;have bDn:=bDm.mono a6L;refine aG iR ?_;apply(G7);intro gL;apply i3∘vG∘oC∘eP∘a41∘lP∘fH;refine gO (tV (f:=eA.cells) (xs:=x.c5) O rfl rfl rfl bH rfl rfl (bDn) bI D) rfl ?_;rintro v E G ⟨JJ,rfl,Oj,rfl,rfl⟩;apply(KJ);refine Dw (T:=118) (f:=lE.cells) (aR:=3) cU (cU.l.map lE.sub) c0 bI bH aFT (λs hs=>by obtain⟨y,aN,rfl⟩:=List.mem_map.1 hs;exact a1u y aN) ?_;refine fU ?_;refine hG 5 m3 1 yW [] aF2 ?_;refine fU ?_;obtain⟨nM,Q4⟩:∃nM,nM=hA yW.U::a37 cU.U::G:=⟨_,rfl⟩;have D8:∀r∈R,aH r nM:=λr M=>(a6L r M).mono λr M=>aM a89;have aF0:aH (hA yW.U) nM:=aM (by rw[Q4];exact .head _);have aFS:aH (a37 cU.U) nM:=aM (by rw[Q4];exact .tail _ (.head _));have aES:∀y∈cU.l,aH (hA y.data) nM:=λy aN=>(a1u y aN).mono λr M=>aM a89;have aGt:=bD.aK.cD.mono D8;refine sU (show _=nM by rw[Q4]) ?_;refine a5q aFS λbEb=>?_;refine uV (E:=(⟨JJ,x.c5.l⟩:J eA).L 93 eA.cells++(⟨hP,r2.cells,54⟩::⟨dG,({x with held:=yW.U,eJ:=(j3 (x.held.l++oN.l) x.eJ).eJ}:cF).cells,54⟩::L)) a2 fF ?_;apply(OG);refine c7 [(2,.int _ _),(3,.pointer _),(6,.pointer _),(9,.slice _ _ _),(10,.slice _ _ _),(11,.int _ _)] bP λeZ=>?_;refine kO ([11,12,13]++b4 31 25) ((⟨λg=>[(11,.int .i64 ((g.1.1:Nat):Int))],λg=>(⟨JJ,g.1.2⟩:J eA).L 93 eA.cells++(⟨hP,r2.cells,54⟩::⟨dG,({x with held:=yW.U,eJ:=(j3 (x.held.l++oN.l) x.eJ).eJ}:cF).cells,54⟩::L),λ_=>nM,λg=>cU.l.length-g.1.1⟩:dV {q:Nat×List eA//q.1<=cU.l.length/\q.2=((cU.l.map lE.lI).take q.1).foldl (J8 g.aK.cD.l t) p.c5})) (⟨(0,x.c5.l),by dsimp only;omega,K.c5⟩) ?_;rintro⟨⟨k,vT⟩,hk,pX⟩ bZ;try dsimp only
 dsimp only at hk pX;have aFq:vT.length=x.c5.l.length:=by rw[pX,(a3R (S:=g.aK.cD.l) (t:=t) _ dR.LF).2,K.c5]
 have aFp:(⟨JJ,vT⟩:J eA).ok 4 eA.cells:=J.oZ bI Oj aFq;apply(uA);apply(W)<;>intro bF;·
  have hg:=bJ cU.l k default;obtain⟨bK,kS⟩:∃bK,bK=cU.l.getD k default:=⟨_,rfl⟩;rw[<-kS]at hg;have aE2:=gU hg;have MY:(cU.l.map lE.lI)[k]?=some bK.lI:=by rw[pF,hg];rfl
  have Uw:=aOp (S:=g.aK.cD.l) (t:=t) (m:=p.c5) MY;rw[<-pX]at Uw;have FY:n2 bK.data.l:=a1p bK.lI (gU MY);refine dK (aZ (a6 (e3 (a6 ?_))));refine gJ O [0,1,2,3,4,5,6,7,8,9,10,11,12,13,14] ([a5.mk dG _ _]) cX bE a2 ?_;apply(OE);refine a4 oG ?_;apply FF∘PC∘g1;refine q1 rfl (b1u x.aK.cD bK t _ _ aGt (aES bK aE2) FY (by rw[oA];omega)) rfl rfl ?_;rintro v E G ⟨m,rfl,hm,rfl,rfl⟩;refine⟨a2,gN,?_⟩;refine a4 iR ?_;refine a4 sL ?_;refine a4 sL ?_;apply(p2);intro lN;apply(wX);refine gS (aZ (a6 (cR ?_)));apply b1∘mT;apply(W)<;>intro b2;·(have At:v3 g.aK.cD.l bK.lI t=0:=by rw[<-oA];exact b2);have Uu:=hm b2;rw[oA]at Uu;(have M0:m.lX=DS g.aK.cD.l bK.lI.hV:=by rw[Uu];rfl);have Gv:=aAr At;have xR:=iL (l:=vT) (k:=m.lX.toNat) default (by rw[M0];omega);(have bDp:0<=m.lX:=by omega);apply wC∘fH∘sD;refine aG (h4 O ((⟨JJ,vT⟩:J eA)) _ rfl rfl ((show _=Value.slice _ _ _ from rfl).trans (by simp only[J.val,aFq])) rfl bC (i:=m.lX.toNat) cW iC) ?_;refine i4 (SV O ((⟨JJ,vT⟩:J eA)) (m) rfl rfl rfl rfl c0 bC bI bC (LM rfl) aE aE) ?_;rintro v E G ⟨rfl,rfl⟩;exact(GV) b1e
  apply(mD);exact oQ ⟨(k+1,vT),by dsimp only;omega,by
  dsimp only;rw[Uw,J8,if_neg];intro At;exact b2 (by rw[oA];exact At)⟩
 obtain rfl:k=cU.l.length:=by omega
 have sB:(cU.l.map lE.lI).take cU.l.length=(j3 (p.held++oN.l) p.eJ).cU:=by rw[<-iJ,<-Ok,HV (by rw[uQ];exact g4 _)]
 rw[sB]at pX;have w2:=dR.TY a6S t;have As:(⟨JJ,vT⟩:J eA).U.val=(⟨JJ,x.c5.l⟩:J eA).U.val:=by simp only[J.U,a0.val,aFq]
 refine hG 93 eA.cells 4 (⟨JJ,vT⟩:J eA) [] aFp ?_;refine fU ?_;apply S5∘uY∘jW;obtain⟨lY,zO⟩:∃lY:cF,lY={x with held:=yW.U,eJ:=(j3 (x.held.l++oN.l) x.eJ).eJ,c5:=(⟨JJ,vT⟩:J eA).U}:=⟨_,rfl⟩;have Pg:h5 g (TY g p oN.l t) lY:=by rw[zO];exact{K with held:=by show yW.l=_;rw[aF3,iJ];rfl,eJ:=by show(j3 (x.held.l++oN.l) x.eJ).eJ=_;rw[iJ];rfl,c5:=pX}
 have a1g:∀r∈nM,aH r (gT (⟨JJ,vT⟩:J eA).U::nM):=λr M=>aM (.tail _ M);have jY:∀r∈R,aH r (gT (⟨JJ,vT⟩:J eA).U::nM):=λr M=>(D8 r M).mono a1g;have Ph:lK lY (gT (⟨JJ,vT⟩:J eA).U::nM):=by rw[zO];exact⟨bD.aK.mono jY,aF0.mono a1g,aM (.head _),bD.eF.mono jY,bD.aS.mono jY,bD.cP.mono jY,bD.eM.mono jY⟩
 refine mJ (E:=⟨hP,r2.cells,54⟩::⟨dG,lY.cells,54⟩::L) (by rw[zO];simp only[cF.cells,As];rfl) ?_;dsimp only[cF.cells];apply eK∘xB∘b1;refine cK (a9L g _ lY t _ _ w2 Pg Ph dS) ?_;rintro v E G ⟨y,rfl,aN,jZ,rfl,nF⟩;apply(pI);refine bN L _ nL ?_;exact⟨y,by rw[IK,if_neg hl],by rw[IK,if_neg hl];exact aN,jZ,rfl,λr M=>(jY r M).mono nF⟩
def MB(g:hQ)(p:b0)(k:Nat):Int:=if Du g p k=true then min (QY p.aF g.bT) (p.time+1)else QY p.aF g.bT
def b7K{g:hQ}{p:b0}{k:Nat}(h:rL g.aK.cD.l p.c5 (k:Int) p.time≠kY):MB g p (k+1)=min (MB g p k) (p.time+1):=by rw[MB,MB,a4X,decide_eq_true h,Wu,if_pos rfl];split<;>omega
def b29{g:hQ}{p:b0}{k:Nat}(h:rL g.aK.cD.l p.c5 (k:Int) p.time=kY):MB g p (k+1)=MB g p k:=by rw[MB,MB,a4X,decide_eq_false (λV=>V h),Bool.or_false]
def aOz(g:hQ)(p:b0)(v a:Int): ∀k,BJ g p k (min v a)=min (BJ g p k v) a
 |0=>rfl
 |k+1=>by
  rw[BJ,BJ,aOz g p v a k]
  split<;>omega
def b6i(g:hQ)(p:b0):(if BJ g p g.aK.dD.l.length (MB g p g.aK.cD.l.length)<=p.time then p.time+1 else BJ g p g.aK.dD.l.length (MB g p g.aK.cD.l.length))=Sv g p:=by
 rw[Sv,Zu,MB,show aAx g p=Du g p g.aK.cD.l.length from rfl];split;·rw[aOz];exact a8s
 ·rfl
def b9y(a1:hQ)(p:b0)(x:cF)(L:aP)(R:aJ)(dR:Inv a1 p)(K:h5 a1 p x)(bD:lK x R):
 aI prog 67 [x.val].toArray L R (λv E G=>v=.int .i64 (Sv a1 p)/\L=E/\R=G):=by
 have kD:=dR.RX.len;have i1:x.aK.dD.l=a1.aK.dD.l:=fZ.dD K.aK;have oA:x.aK.cD.l=a1.aK.cD.l:=fZ.LJ K.aK;have vR:x.eF.l=p.eF:=K.eF;have pX:x.c5.l=p.c5:=K.c5;have rX:x.time=p.time:=K.time;have UM:=dR.time;have bE6:x.eF.l.length=a1.aK.dD.l.length:=by rw[vR];exact dR.Iv
 have UI:x.c5.l.length=a1.aK.cD.l.length:=by rw[pX];exact dR.c5
 have a1s:x.aK.dD.l.length=a1.aK.dD.l.length:=by rw[i1]
 have bEP:x.aK.cD.l.length=a1.aK.cD.l.length:=by rw[oA]
 have C7:=bD.aK.dD;have aGH:=bD.eF;have aFs:∀m∈x.c5.l,w9 m:=by rw[pX];exact dR.LF
 have aEW:Ew x.cP.aT.l x.cP.aU.l x.cP.cA=MB a1 p 0:=by rw[K.aF,K.cG,K.bT,Ew,if_neg (by rw[dR.BN];decide)];rfl
 refine bW 69 call67 func67 ?_;apply(c8);intro gK;apply mL∘eP∘aBi;refine cC rfl (b8H x.cP _ _ bD.cP) ?_;apply(OD);rw[aEW];apply(OG);refine c7 [(1,.pointer _),(3,.int _ _),(4,.int _ _)] bP λeZ=>?_;refine gP ([3,4]++b4 9 22) (λg:{k:Nat//k<=a1.aK.cD.l.length}=>[(4,.int .i64 ((g.1:Nat):Int)),(3,.int .i64 (MB a1 p g.1))]) (λg=>a1.aK.cD.l.length-g.1) (⟨0,by omega⟩) ?_;rintro⟨j,aY⟩ bZ;try dsimp only
 apply(oJ);apply(W)<;>intro aO;·
  have a1H:rL x.aK.cD.l x.c5.l (j:Int) x.time=rL a1.aK.cD.l p.c5 (j:Int) p.time:=by rw[oA,pX,rX]
  apply j7∘eP;refine aG qI ?_;apply gE∘fH;refine cC rfl (a9G x.aK x.c5 (j:Int) x.time _ _ bD.aK.cD bD.c5 aFs D) ?_;refine cC rfl JV ?_;refine aG (aBQ Kx rfl rfl) ?_;apply(b3);apply(W)<;>intro bF;·
   apply p8∘fH∘l8;refine aG NR ?_;apply dE∘GV;exact oT ⟨j+1,by omega⟩ kG (by
   dsimp only;rw[b7K (by rw[<-a1H];intro h;rw[h]at bF;simp[kY]at bF),<-rX];exact⟨rfl,rfl,trivial⟩) a2 fF k1
  apply(mD);exact oT ⟨j+1,by omega⟩ kG (by
  dsimp only;rw[b29 (by rw[<-a1H,W1];simpa[kY]using bF)];exact⟨rfl,rfl,trivial⟩) a2 fF k1
 obtain rfl:j=a1.aK.cD.l.length:=by omega
 obtain⟨mS,hR⟩:∃mS,mS=MB a1 p a1.aK.cD.l.length:=⟨_,rfl⟩;rw[<-hR];apply(G0);refine c7 [(1,.pointer _),(3,.int _ _),(5,.int _ _)] bP λnS=>?_;refine gP ([3,5]++b4 31 30) (λg:{k:Nat//k<=a1.aK.dD.l.length}=>[(5,.int .i64 ((g.1:Nat):Int)),(3,.int .i64 (BJ a1 p g.1 mS))]) (λg=>a1.aK.dD.l.length-g.1) (⟨0,by omega⟩) ?_;rintro⟨k,hk⟩ bZ;try dsimp only
 apply(oJ);apply(W)<;>intro b2;·
  have hg:=bJ x.aK.dD.l k default;have Nx:=bJ x.eF.l k default;have Bv:=dR.Iw (x.eF.l.getD k default) (by rw[<-vR];exact gU Nx);have a2b:=Bv.1;rw[L2]at a2b;have Nq:BJ a1 p (k+1) mS=if(x.aK.dD.l.getD k default).kind=1 then min (BJ a1 p k mS) (Km (x.aK.dD.l.getD k default).nI (x.eF.l.getD k default))else BJ a1 p k mS:=by rw[BJ,i1,vR]
  obtain⟨c,hc⟩:∃c,c=x.aK.dD.l.getD k default:=⟨_,rfl⟩;obtain⟨w,cV⟩:∃w,w=x.eF.l.getD k default:=⟨_,rfl⟩;rw[<-hc]at hg Nq;rw[<-cV]at Nx Bv a2b Nq;apply j7∘FD;refine aG qH ?_;apply sW∘mT;apply(W)<;>intro dZ;·refine gJ O [0,1,2,3,4,5,6,7,8,9,10,11,12,13,14,15] ([a5.mk gK _ _]) cX bE a2 ?_;apply g1∘kT∘KK∘Il∘PC∘KK∘PC;refine k6 rfl (b4A c.nI w _ _ D) ?_;refine a4 NR ?_;exact(qD∘z4) aZn
  exact(mD) aZt
 obtain rfl:k=a1.aK.dD.l.length:=by omega
 have JB:=b6i a1 p;rw[<-hR]at JB;apply AV∘IW∘S9;apply(W)<;>intro dX;·apply N9∘l8∘z1;refine dC L R ?_;exact⟨by rw[<-JB,if_pos D,rX],rfl,rfl⟩
 apply eR∘a0h;refine dC L R ?_;exact⟨by rw[<-JB,if_neg D],rfl,rfl⟩
end Go.Proofs.YtchfclmokpbldaaGreat
namespace Go.Proofs.YtchfclmokpbldaaGreat
open Go.Aw Go Go.Proofs.Tryz
section
attribute [local irreducible] cH c6 dP aI cJ eD e9 e0 e1 e5 eS e8 J.L
def Th(h:A->B:=by exact(aG x9 ·)):=h
def b9S(g:hQ)(p:b0)(x:cF)(a:v7)(L:aP)(R:aJ)(dR:Inv g p)(K:h5 g p x)(bD:lK x R)(Q7:aH (hA a.bytes) R)(ha:Yb a.p)(OU:0<=p.eJ/\p.eJ<=1152921504606846976):
 aI prog 66 [x.val,a.val].toArray L R (Kw g (sO g p a.p) L R):=by
 have rX:=dR.time;have O0:=K.time;have cV:-2147483648<=a.l9/\a.l9<=2147483648:=ha.l9;have hm:-1000<=a.m/\a.m<=1000:=ha.m;have a6Q:a.p.kind=a.kind:=rfl;refine bW 69 call66 func66 ?_;apply(c8);intro cS;apply(iU);intro dG;apply(dA);intro cT;apply mL∘kJ∘l8∘KL;refine eI (aZ (e3 (a6 (a6 (cR ?_)))));apply(v8);refine v2 [14,16,17] ((⟨λq=>[(14,.bool q.1)],λ_=>⟨cT,r2.cells,54⟩::⟨dG,a.cells,144⟩::⟨cS,x.cells,54⟩::L,λ_=>R,λ_=>0⟩:dV {b:Bool//b=decide (G8 a.p)})) ?_ ?_;·
  skip
  exact aWp
 rintro⟨Ac,C6⟩ bZ;try dsimp only
 have bFb:((G8 a.p:Prop)↔Ac=true):=by rw[C6];simp
 apply(W)<;>intro b2;·
  have tJ:G8 a.p:=by simpa[C6]using b2
  have pU:sO g p a.p=IK g p a.bytes.l (x.time+a.l9):=by rw[sO,if_pos tJ,O0];rfl
  apply cO∘Th∘gE;refine cK (b3H g p x a.bytes (x.time+a.l9) _ _ dR K bD Q7 ha.bytes ha.len OU) ?_;exact a3r
 have tJ:¬G8 a.p:=by simpa[C6]using b2
 apply(oX);apply(W)<;>intro dZ;·
  have pU:sO g p a.p=CW g p a.n (a.m-1) (x.time+a.l9):=by rw[sO,if_neg tJ,if_pos (show a.p.kind=3 from dZ),O0];rfl
  apply cO∘Th∘kJ∘kP∘b1;refine cK (b5F g p x a.n (a.m-1) (x.time+a.l9) _ _ dR K bD) ?_;exact a3r
 apply(oX);apply(W)<;>intro dX;·
  have pU:sO g p a.p=zZ g p a.n a.m (x.time+a.l9):=by rw[sO,if_neg tJ,if_neg Jl,if_pos (show a.p.kind=4 from dX),O0];rfl
  apply cO∘Th∘fH∘gE;refine cK (b87 g p x a.n a.m (x.time+a.l9) _ _ dR K bD) ?_;exact a3r
 apply(oX);apply(W)<;>intro h3;·
  have pU:sO g p a.p=CQ g p a.n (x.time+a.l9):=by rw[sO,if_neg tJ,if_neg Jl,if_neg Xp,if_pos (show a.p.kind=5 from h3),O0];rfl
  apply cO∘Th∘gE;refine cK (b2E g p x a.n (x.time+a.l9) _ _ dR K bD) ?_;exact a3r
 apply(oX);apply(W)<;>intro hW;·
  have pU:sO g p a.p=CE g p (x.time+a.l9):=by rw[sO,if_neg tJ,if_neg Jl,if_neg Xp,if_neg a9a,if_pos (show a.p.kind=6 from hW),O0];rfl
  apply cO∘Th∘b1;refine cK (b9b g p x (x.time+a.l9) _ _ dR K bD) ?_;exact a3r
 have pU:sO g p a.p=IJ g p (x.time+a.l9):=by rw[sO,if_neg tJ,if_neg Jl,if_neg Xp,if_neg a9a,if_neg (show¬a.p.kind=6 from hW),O0];rfl
 refine dK (gV (aZ (a6 (cR ?_))));apply Th∘b1;refine cK (b4q g p x (x.time+a.l9) _ _ dR K bD) ?_;rintro v E G ⟨y,rfl,aN,jZ,rfl,nF⟩;apply S1∘pI;refine bN L _ nL ?_;exact⟨y,by rw[pU],by rw[pU];exact aN,jZ,rfl,nF⟩
def a4d(h:A->B:=by exact(aG aYN ·)):=h
def a4W(h:B:=by exact⟨r2,vH,by rw[X];rfl,a4Y R,λh=>by omega,λ_=>rfl,rfl,rfl⟩):=h
def aP9(h:A->B:=by exact(aG lR ·)):=h
def b78(s:dQ)(f:hI)(A:List Bool)(L:aP)(R:aJ)(hs:zX s R)(hf:k9 f R)(gI:lS s.bU.Y A):
 aI prog 52 [s.val,f.val].toArray L R (aO8 s f A L R):=by
 have bES:=hf.aF.mono λr M=>aM (mA vH M);refine bW 108 call52 func52 ?_;apply(c8);intro cS;apply(iU);intro dG;apply(dA);intro cT;apply(OD);refine aJk ?_;have XK:∀r∈R,aH r (vH++R):=λr M=>aM (mA _ M);have Bn:=hs.mono XK;have vN:=hf.mono XK;apply(eK);refine aG qI ?_;refine cC rfl (a5T s _ _ Bn) ?_;apply(kB);apply(W)<;>intro aO;·
  apply cO∘a4d∘tZ;refine bN L (vH++R) nL ?_;have X:s7 s f=oI s:=by rw[s7,if_pos aO]
  exact a4W
 apply iK∘aP9;refine cC rfl (Ll f _ _ vN) ?_;apply(kB);apply(W)<;>intro bF;·
  apply cO∘a4d∘tZ;refine bN L (vH++R) nL ?_;have X:s7 s f=i6 f.aT.l f.aU.l f.cA:=by rw[s7,if_neg aO,if_pos bF]
  exact a4W
 apply QR∘lM∘qP;apply(W)<;>intro b2;·
  apply cO∘a4d∘q4;refine bN L (vH++R) nL ?_;have X:s7 s f=17:=by rw[s7,if_neg aO,if_neg bF,if_pos D]
  exact a4W
 have F1:oI s=0:=Decidable.not_not.1 aO;have iJ:i6 f.aT.l f.aU.l f.cA=0:=Decidable.not_not.1 bF;have rT:=zD iJ;have HM:=rT.wN;have tL:=rT.yA;have xT:=(KP F1).len;apply(x2);refine gJ O [0,1,2,3,4,5] ([a5.mk dG _ _,a5.mk cS _ _]) cX bE a2 ?_;refine a4 qI ?_;refine a4 lR ?_;refine k6 rfl (aCm _ _) ?_;refine a4 aZO ?_;apply(p2);intro gL;apply(sE);refine gS (aZ (a6 (a6 ?_)));refine mJ (E:=⟨gL,(⟨s,0,⟨none,0,[]⟩,0,⟨none,0,[]⟩,⟨none,0,[]⟩,⟨none,0,[]⟩,f,u9,⟨none,0,[]⟩⟩:cF).cells,54⟩::⟨cT,r2.cells,54⟩::⟨dG,f.cells,42⟩::⟨cS,s.cells,38⟩::L) aE ?_;apply(OG);refine c7 [(2,.pointer _),(3,.pointer _),(4,.pointer _),(8,.pointer _),(9,.int _ _)] bP λeZ=>?_;refine gP ([5,9]++b4 38 15) (λg:{k:Nat//k<=f.aT.l.length/\∀j:Nat,j<k->(f.aT.l.getD j default).cQ=0}=>[(9,.int .i64 ((g.1:Nat):Int))]) (λg=>f.aT.l.length-g.1) (⟨0,by omega,λj aY=>by omega⟩) ?_;rintro⟨k,hk,hD⟩ bZ;try dsimp only
 apply(oJ);apply(W)<;>intro dZ;·
  have hg:=bJ f.aT.l k default;apply(CK);refine aG qH ?_;apply sW∘qP;apply(W)<;>intro dX;·apply cO∘a4d∘i3∘WI;refine bN L (vH++R) nL ?_;(have X:s7 s f=8:=by rw[s7,if_neg aO,if_neg bF,if_neg D,if_pos ⟨_,gU hg,dX⟩]);exact a4W
  apply(mD);exact a8k
 have a1o:∀x∈f.aT.l,x.cQ=0:=λx K=>by exact aXk
 have X:s7 s f=0:=by rw[s7,if_neg aO,if_neg bF,if_neg D,if_neg (λ⟨x,K,h⟩=>h (a1o x K))]
 have hn:∀q∈vH,aH q (vH++R):=λq hq=>aM (sI _ hq);have AG:=a4Y R;apply(G0);refine c7 [(2,.pointer _),(3,.pointer _),(4,.pointer _),(8,.pointer _),(10,.int _ _)] bP λnS=>?_;refine kO ([10]++b4 53 15) ((⟨λg=>[(10,.int .i64 ((g.1.1:Nat):Int))],λg=>⟨gL,(⟨s,0,⟨none,0,[]⟩,0,⟨none,0,[]⟩,⟨none,0,[]⟩,⟨none,0,[]⟩,g.1.2.1,u9,⟨none,0,[]⟩⟩:cF).cells,54⟩::⟨cT,r2.cells,54⟩::⟨dG,f.cells,42⟩::⟨cS,s.cells,38⟩::L,λg=>g.1.2.2,λg=>f.aT.l.length-g.1.1⟩:dV {g:Nat×hI×aJ//g.1<=f.aT.l.length/\(g.2.1.aT.l=a0s f.aT.l g.1/\g.2.1.aU.l=f.aU.l/\g.2.1.cA=f.cA)/\k9 g.2.1 g.2.2/\∀r∈vH++R,aH r g.2.2})) (⟨(0,f,vH++R),by dsimp only;omega,⟨rfl,rfl,rfl⟩,vN,mB _⟩) ?_;rintro⟨⟨eU,iA,r5⟩,e6,⟨vP,HH,kS⟩,w4,Gw⟩ bZ;try dsimp only
 dsimp only[cF.cells];dsimp only at e6 vP HH kS w4 Gw;apply(oJ);apply(W)<;>intro h3;·
  have Oc:=a5S (bT:=f.cA) iJ eU;have aEY:i6 iA.aT.l iA.aU.l iA.cA=0:=by rw[vP,HH,kS];exact Oc.i6 iJ ⟨oE _,by decide⟩
  have Az:iA.aT.l.length=f.aT.l.length:=by rw[vP];exact Oc.len
  have aGy:J6 iA.aT.l 0:=by rw[vP];exact Oc.time ⟨⟨oE _,by decide⟩,λx K=>by rw[a1o x K];exact oE _⟩
  have wF:v5 iA.aT.l iA.aU.l iA.cA (eU:Int) 0=0:=by rw[v5,if_neg (by rw[aEY];decide),if_neg D,if_pos aGy]
  refine dK (aZ (a6 (e3 (cR ?_))));apply eP∘aP9∘b1;refine cK (aK7 iA (eU:Int) 0 _ _ w4) ?_;rintro v E G ⟨r0,x4,bT,rfl,⟨On,Ot⟩,RH,rfl,rfl⟩;refine aG iR ?_;apply S1∘eP;refine PW O rfl rfl rfl rfl s6 aE aE aE ?_;refine eI (gV (aZ ?_));obtain⟨Vd,Ou,rfl⟩:=RH wF;refine hG 3 aL 1 x4 [] Ot ?_;refine fU ?_;refine hG 76 bL.cells 5 r0 [] On ?_;refine fU ?_;exact(eK∘N7) aZl
 obtain rfl:eU=f.aT.l.length:=by omega
 apply(G0);refine c7 [(2,.pointer _),(4,.pointer _),(8,.pointer _),(11,.int _ _)] bP λNH=>?_;refine mC ([11]++b4 68 13) ((⟨λg=>[(11,.int .i64 ((g.1.1:Nat):Int))],λg=>⟨gL,(⟨s,0,⟨none,0,[]⟩,0,g.1.2.U,⟨none,0,[]⟩,⟨none,0,[]⟩,iA,u9,⟨none,0,[]⟩⟩:cF).cells,54⟩::(g.1.2.L 93 eA.cells++(⟨cT,r2.cells,54⟩::⟨dG,f.cells,42⟩::⟨cS,s.cells,38⟩::L)),λ_=>r5,λg=>s.cD.l.length-g.1.1⟩:dV {g:Nat×J eA//g.1<=s.cD.l.length/\g.2.ok 4 eA.cells/\g.2.l=List.replicate g.1 CC})) (⟨(0,J.nil),by dsimp only;omega,J.g6,rfl⟩) bP DP fF ?_;rintro⟨⟨eE,x0⟩,hK,Ut,JD⟩ bZ;try dsimp only
 dsimp only[cF.cells];dsimp only at hK Ut JD;have bDl:x0.l.length=eE:=by rw[JD,VG]
 apply(oJ);apply(W)<;>intro hW;·refine dK (aZ (a6 (e3 (cR ?_))));apply(fH);refine aG aIz ?_;refine gO Dg rfl ?_;rintro v E G ⟨bIG,rfl,rfl,aEi⟩;replace aEi:=aEi.symm;subst aEi;refine gO aY0 rfl ?_;rintro v E G ⟨bGf,rfl,bDY,rfl,rfl⟩;apply uY∘GV;exact dU ⟨(eE+1,⟨bGf,x0.l++[CC]⟩),by dsimp only;omega,bDY,by dsimp only;rw[JD,Wt]⟩
 obtain rfl:eE=s.cD.l.length:=by omega
 apply(G0);refine c7 [(2,.pointer _),(4,.pointer _),(8,.pointer _),(12,.int _ _)] bP λWh=>?_;refine mC ([12]++b4 81 13) ((⟨λg=>[(12,.int .i64 ((g.1.1:Nat):Int))],λg=>⟨gL,(⟨s,0,⟨none,0,[]⟩,0,x0.U,g.1.2.U,⟨none,0,[]⟩,iA,u9,⟨none,0,[]⟩⟩:cF).cells,54⟩::(g.1.2.L 153 fR.cells++(x0.L 93 eA.cells++(⟨cT,r2.cells,54⟩::⟨dG,f.cells,42⟩::⟨cS,s.cells,38⟩::L))),λ_=>r5,λg=>s.dD.l.length-g.1.1⟩:dV {g:Nat×J fR//g.1<=s.dD.l.length/\g.2.ok 3 fR.cells/\g.2.l=List.replicate g.1 (⟨true,-1,0⟩:fR)})) (⟨(0,J.nil),by dsimp only;omega,J.g6,rfl⟩) bP DP fF ?_;rintro⟨⟨i2,F4⟩,l4,Vk,tK⟩ bZ;try dsimp only
 dsimp only[cF.cells];dsimp only at l4 Vk tK;have bE4:F4.l.length=i2:=by rw[tK,VG]
 apply(oJ);apply(W)<;>intro oO;·refine dK (aZ (a6 (e3 ?_)));refine hF O [] [0,1,2,3] [4,5,6] ([a5.mk gL _ _]) _ cX bE a2 dT ?_;apply(l1);refine k2 rfl (b9v _ _) rfl rfl ?_;rintro v E G ⟨rfl,rfl,rfl⟩;refine⟨a2,gN,?_⟩;refine MG Js rfl rfl rfl ?_;rintro v E G ⟨bAo,rfl,rfl,Nd⟩;replace Nd:=Nd.symm;subst Nd;apply(xF);refine o4 aYO rfl rfl rfl ?_;rintro v E G ⟨Vq,rfl,aFN,rfl,rfl⟩;apply KI∘z4;exact dU ⟨(i2+1,⟨Vq,F4.l++[⟨true,-1,0⟩]⟩),by dsimp only;omega,aFN,by dsimp only;rw[tK,Wt]⟩
 obtain rfl:i2=s.dD.l.length:=by omega
 apply(G0);refine c7 [(2,.pointer _),(4,.pointer _),(8,.pointer _),(13,.int _ _)] bP λaHC=>?_;refine mC ([13]++b4 94 13) ((⟨λg=>[(13,.int .i64 ((g.1.1:Nat):Int))],λg=>⟨gL,(⟨s,0,⟨none,0,[]⟩,0,x0.U,F4.U,g.1.2.U,iA,u9,⟨none,0,[]⟩⟩:cF).cells,54⟩::(g.1.2.L 71 b8.cells++(F4.L 153 fR.cells++(x0.L 93 eA.cells++(⟨cT,r2.cells,54⟩::⟨dG,f.cells,42⟩::⟨cS,s.cells,38⟩::L)))),λ_=>r5,λg=>s.aU.l.length-g.1.1⟩:dV {g:Nat×J b8//g.1<=s.aU.l.length/\g.2.ok 3 b8.cells/\g.2.l=List.replicate g.1 (⟨true,-1,0⟩:b8)})) (⟨(0,J.nil),by dsimp only;omega,J.g6,rfl⟩) bP DP fF ?_;rintro⟨⟨eV,NC⟩,m4,Uk,b2⟩ bZ;try dsimp only
 dsimp only[cF.cells];dsimp only at m4 Uk b2;have bB2:NC.l.length=eV:=by rw[b2,VG]
 apply(oJ);apply(W)<;>intro FV;·refine dK (aZ (a6 (e3 (cR ?_))));apply(fH);refine aG aI4 ?_;refine gO Js rfl ?_;rintro v E G ⟨bAb,rfl,rfl,Md⟩;replace Md:=Md.symm;subst Md;refine gO aYT rfl ?_;rintro v E G ⟨a7Q,rfl,aFz,rfl,rfl⟩;apply uY∘GV;exact dU ⟨(eV+1,⟨a7Q,NC.l++[⟨true,-1,0⟩]⟩),by dsimp only;omega,aFz,by dsimp only;rw[b2,Wt]⟩
 obtain rfl:eV=s.aU.l.length:=by omega
 refine hG 93 eA.cells 4 x0 [] Ut ?_;refine fU ?_;refine hG 153 fR.cells 3 F4 [] Vk ?_;refine fU ?_;refine hG 71 b8.cells 3 NC [] Uk ?_;refine fU ?_;obtain⟨e4,uG⟩:∃e4,e4=sS NC.U::CY F4.U::gT x0.U::r5:=⟨_,rfl⟩;refine sU Xw ?_;have a08:∀r∈r5,aH r (e4++R):=λr M=>aM (by rw[uG];exact .tail _ (.tail _ (.tail _ (sI _ M))));have Uc:∀r∈vH++R,aH r (e4++R):=λr M=>(Gw r M).mono a08;have Nh:∀r∈R,aH r e4:=λr M=>(Gw r (mA _ M)).mono λr M=>aM (by rw[uG];exact .tail _ (.tail _ (.tail _ M)));have eY:aH (sS NC.U) (e4++R):=aM Qu;have nV:aH (CY F4.U) (e4++R):=aM Xm;have AE:aH (gT x0.U) (e4++R):=aM a3v;apply(oD);refine aG x9 ?_;apply(pI);refine lJ (E:=L) (G:=e4++R) nL ?hp ?c2 ?bD;case hp=>exact⟨(⟨s,0,⟨none,0,[]⟩,0,x0.U,F4.U,NC.U,iA,u9,⟨none,0,[]⟩⟩:cF),e4,by rw[X],⟨Bn.mono Uc,AG.held.mono Uc,AE,nV,eY,w4.mono a08,AG.eM.mono Uc⟩,λ_=>⟨rfl,rfl,rfl,rfl,JD,tK,b2,vP,HH,kS,rfl,rfl⟩,λh=>absurd X h,rfl,rfl⟩
 case c2=>exact a2
 case bD=>exact aWs
def b41{l:List Bool}:∀{k:Nat},l[k]?=some false->(l.set k true).count true=l.count true+1:=by
 induction l with
 |nil=>intro k h;simp at h
 |cons b l cM=>
  intro k h;cases k with
  |zero=>simp only[a8O,Qi]at h;subst h;simp
  |succ k=>simp only[List.getElem?_cons_succ]at h;simp only[aH9,List.count_cons,cM h];omega
def b8R{l:List Bool}(h:l.count true<l.length):∃j:Nat,l[j]?=some false:=by
 induction l with
 |nil=>simp at h
 |cons b l cM=>
  cases b with
  |false=>exact⟨0,rfl⟩
  |true=>simp only[List.count_cons_self,sK]at h;obtain⟨j,aY⟩:=cM D;exact⟨j+1,aY⟩
def b1m{m O3 M7 n:Int}(hm:0<=m/\m<n)(aY:0<=M7/\M7<n)(iO:m≠M7)(h:O3=if m+1=n then 0 else m+1):(if O3<=M7 then M7-O3 else M7-O3+n).toNat<(if m<=M7 then M7-m else M7-m+n).toNat:=by split at h<;>(repeat' split)<;>omega
end
def aJJ(h:A->B:=by exact(aG (h4 O ((⟨.own Fx p.l.length [],bK⟩:J Bool)) _ rfl rfl ((show _=Value.slice _ _ _ from rfl).trans (v4 fW)) rfl bC (i:=m.toNat) cW iC) ·)):=h
structure V2(l:List bL):Prop where
 kW:∀(i:Nat) (x:bL),l[i]?=some x->(-1<=x.bB/\x.bB<i)/\x.cQ=0/\(-1<=x.cY/\x.cY<=1)/\x.bV=false
def V2.nil:V2 []:=⟨λi x h=>by simp at h⟩
def V2.next{l:List bL}(h:V2 l){x:bL}(N:-1<=x.bB/\x.bB<l.length)(V:x.cQ=0)(aQ:-1<=x.cY/\x.cY<=1)(b7:x.bV=false):V2 (l++[x]):=⟨λi y aN=>by
 rw[Da]at aN
 split at aN
 ·exact h.kW i y aN
 ·rename_i aA
  have:i-l.length=0:=by
   have:=(List.getElem?_eq_some_iff.1 aN).1
   simp only[pN]at this
   omega
  rw[this]at aN
  obtain rfl:x=y:=by simpa using aN
  exact⟨by omega,V,aQ,b7⟩⟩
def V2.cQ{l:List bL}(h:V2 l):∀x∈l,x.cQ=0:=λx K=>by
 obtain⟨i,aA⟩:=List.mem_iff_getElem?.1 K
 exact(h.kW i x aA).2.1
structure Ft(q:List Int)(bK:List Bool):Prop where
 F8:∀x∈q,0<=x/\bK[x.toNat]?=some true
 nR:∀i j:Nat,j<i->i<q.length->q.getD j 0≠q.getD i 0
def Ft.nil{bK:List Bool}:Ft [] bK:=⟨λx h=>NP,λi j _ h=>absurd h (Nat.not_lt_zero _)⟩
def Ft.next{q:List Int}{bK:List Bool}(h:Ft q bK){m:Int}(hm:0<=m)(hf:bK[m.toNat]?=some false):Ft (q++[m]) (bK.set m.toNat true):=by
 have hl:=(List.getElem?_eq_some_iff.1 hf).1;have iO:∀x∈q,x≠m:=λx K e=>by subst e;rw[(h.F8 x K).2]at hf;cases hf
 refine⟨λx K=>?_,λi j aY aA=>?_⟩;·
  rcases List.mem_append.1 K with K|K;·have:=h.F8 x K;have:=iO x K;refine⟨by omega,?_⟩;rw[EU,if_neg D];exact(h.F8 x K).2
  ·rw[List.mem_singleton.1 K];refine⟨hm,?_⟩;rw[EU,if_pos rfl,if_pos hl]
 ·
  rw[iD,pN]at aA;rw[iW,iW,HU D];rcases gY i q.length with N|N;·rw[HU N,<-iW,<-iW];exact h.nR i j aY N
  ·(obtain rfl:i=q.length:=by omega);rw[NM (g4 _),Ws];rw[<-iW];exact iO _ (gU (bJ q j 0))
def b2Z{l:List bL}{q:List Int}{bK:List Bool}{bT:Int}(h:V2 l)(k:Ft q bK)(hf:bK.length=l.length)(hl:l.length<=18)(hq:q.length<=16)(M:1<=bT/\bT<=9):i6 l q bT=0:=by
 rw[Jy D,if_neg D];·
  rw[NN];intro i aA;rw[VD]at aA;have:=h.kW i _ (iL default aA);exact aAR rfl D D (λC5=>by
   rcases C5 with C5|C5;·omega
   ·rw[this.2.2.2]at C5;exact absurd C5.1 bH)
 ·rw[NN];intro i aA;rw[VD]at aA;have N:=k.F8 _ (gU (iL 0 aA));have V:=(List.getElem?_eq_some_iff.1 N.2).1;exact a4l D (λ⟨j,aY,e⟩=>k.nR i j aY aA e)
attribute [local irreducible] cH c6 dP aI cJ eD e9 e0 e1 e5 eS e8 J.L
def b6n(c:Nat)(x:a0 Int)(k:Nat)(n:Nat)(R:aJ)(K:jK x R)(hk:k<=x.l.length)(hn:n<=16):
 aI prog 31 [.pointer (some ⟨c,0,none⟩),.int .i64 n].toArray [eT c x k] R
  (λv E G=>∃(p:J bL) (q:J Int) (bT:Int) (b5:Nat),v=.agg #[p.val,q.val,.int .i64 bT]/\(p.ok 5 bL.cells/\q.ok 1 aL)/\(p.l.length<=18/\1<=p.l.length)/\q.l.length=n/\i6 p.l q.l bT=0/\(∀x∈p.l,x.cQ=0)/\b5<=x.l.length/\q.L 3 aL++(p.L 76 bL.cells++(eT c x b5::[]))=E/\R=G):=by
 refine bW 72 call31 func31 ?_;apply(IV);intro cT;apply(WM);refine cK (E8 hC K hk D) ?_;rintro v E G ⟨bT,eU,rfl,u1,yO,e6,rfl,rfl⟩;refine aG (mI (hN:=[(2,(Value.int _ _).cells.toList)]) (cU:=[_,_,_]) O rfl rfl rfl rfl) ?_;apply(dA);intro eH;apply rP∘b1∘hS;refine cK (nA hC K e6 D) ?_;rintro v E G ⟨DI,eE,rfl,q7,u2,a00,hK,rfl,rfl⟩;have a01:=u2 D;apply l8∘g7∘mM;refine c7 [(0,.pointer _),(1,.int _ _),(4,.pointer _),(5,.pointer _),(6,.int _ _),(7,.int _ _)] bP λeZ=>?_;refine mC ([7]++b4 18 21) ((⟨λg=>[(7,.int .i64 ((g.1.1:Nat):Int))],λg=>⟨eH,[g.1.2.1.val,.slice none 0 0,.int .i64 bT],42⟩::(g.1.2.1.L 76 bL.cells++(⟨cT,[.slice none 0 0,.slice none 0 0,.int .i64 0],42⟩::eT c x g.1.2.2::[])),λ_=>R,λg=>18-g.1.1⟩:dV {g:Nat×J bL×Nat//((g.1:Int)<=max ((n:Int)+DI) 1/\g.2.1.l.length=g.1)/\g.2.1.ok 5 bL.cells/\V2 g.2.1.l/\g.2.2<=x.l.length})) (⟨(0,J.nil,eE),⟨by dsimp only;omega,rfl⟩,J.g6,V2.nil,hK⟩) bP DP fF ?_;rintro⟨⟨i,p,i2⟩,⟨aA,l5⟩,iB,Vb,l4⟩ bZ;try dsimp only
 dsimp only at aA l5 iB Vb l4;apply A7∘b1;refine aG B9 ?_;apply(D1);apply(W)<;>intro aO;·refine dK (aZ (a6 (e3 ?_)));refine hF O [] [0,1,2,3,4,7,9,5,6,8,10,11,12] [13,14,15] ([a5.mk eH _ _]) _ cX bE a2 dT ?_;apply IP∘wM∘PA∘DK∘DK;refine k2 rfl (nA hC K l4 D) rfl rfl ?_;rintro v E G ⟨k8,eV,rfl,iA,bAI,bIU,m4,rfl,rfl⟩;refine⟨a2,gN,?_⟩;have bIV:=bAI D;apply(NE);refine k2 rfl (WC hC K m4 D) rfl rfl ?_;rintro v E G ⟨aRT,vS,rfl,uJ,rfl,rfl⟩;refine⟨a2,gN,?_⟩;refine k2 rfl (b6o hC K uJ) rfl rfl ?_;rintro v E G ⟨lH,BV,rfl,iN,AP,rfl,rfl⟩;refine⟨a2,gN,?_⟩;refine eO (mI (hN:=[(0,(Value.int _ _).cells.toList),(3,(Value.bool _).cells.toList),(2,(Value.int _ _).cells.toList),(1,(Value.int _ _).cells.toList)]) (cU:=[_,_,_,_,_]) O rfl rfl rfl rfl) ?_;refine MG a8Y rfl rfl rfl ?_;rintro v E G ⟨bAi,rfl,rfl,Mo⟩;replace Mo:=Mo.symm;subst Mo;apply(xF);refine o4 (j2 (f:=bL.cells) (p:=p) (a:=⟨k8-1,0,lH,aRT,false⟩) O rfl rfl rfl rfl (iB) c0 j8 rfl kH) rfl rfl rfl ?_;rintro v E G ⟨aG8,rfl,aFG,rfl,rfl⟩;apply KI∘z4;exact dU ⟨(i+1,(⟨aG8,p.l++[⟨k8-1,0,lH,aRT,false⟩]⟩:J bL),BV),⟨by dsimp only;omega,by dsimp only;rw[iD,pN];omega⟩,aFG,Vb.next (by rw[l5];dsimp only;omega) rfl k1 rfl,AP⟩
 have eB:1<=p.l.length/\n<=p.l.length/\p.l.length<=18:=by omega
 apply oD∘lM∘EL;rintro v E G ⟨Fx,rfl,rfl,Ms⟩;replace Ms:=Ms.symm;subst Ms;apply(WN);refine c7 [(0,.pointer _),(1,.int _ _),(4,.pointer _),(5,.pointer _),(8,.slice _ _ _),(9,.int _ _)] bP λnS=>?_;refine mJ Jj ?_;refine mC ([9,10]++b4 43 28) ((⟨λg=>[(9,.int .i64 ((g.1.1:Nat):Int))],λg=>(⟨.own Fx p.l.length [],g.1.2.2.1⟩:J Bool).L 4 jF++(⟨eH,[p.val,g.1.2.1.val,.int .i64 bT],42⟩::(g.1.2.1.L 3 aL++(p.L 76 bL.cells++(⟨cT,[.slice none 0 0,.slice none 0 0,.int .i64 0],42⟩::eT c x g.1.2.2.2::[])))),λ_=>R,λg=>n-g.1.1⟩:dV {g:Nat×J Int×List Bool×Nat//(g.1<=n/\g.2.1.l.length=g.1)/\g.2.1.ok 1 aL/\(g.2.2.1.length=p.l.length/\g.2.2.1.count true=g.1)/\Ft g.2.1.l g.2.2.1/\g.2.2.2<=x.l.length})) (⟨(0,J.nil,List.replicate p.l.length false,i2),⟨by dsimp only;omega,rfl⟩,J.g6,⟨by dsimp only;rw[VG],by simp[List.count_replicate]⟩,Ft.nil,l4⟩) bP DP fF ?_;rintro⟨⟨j,q,bK,eV⟩,⟨aY,rV⟩,gG,⟨fW,a6W⟩,a1Z,m4⟩ bZ;try dsimp only
 dsimp only at aY rV gG fW a6W a1Z m4;have MU:(⟨.own Fx p.l.length [],bK⟩:J Bool).ok 1 jF:=by have:=JL jF 1 Fx p.l.length false BI;exact J.oZ BI this a2Z
 apply(TF);apply(W)<;>intro bF;·
  obtain⟨M7,aS5⟩:=b8R (l:=bK) D;apply WO∘lM;refine cK (nA hC K m4 D) ?_;rintro v E G ⟨xZ,vS,rfl,dY,a6t,bIS,uJ,rfl,rfl⟩;have bIT:=a6t D;apply(dE);refine eI (aZ (a6 (e3 ?_)));refine zY ([9,10]++b4 43 28) AZ [(9,.int _ _),(10,.int _ _)] bP λNH=>?_;refine kO ([10]++b4 53 9) ((⟨λg=>[(10,.int .i64 g.1)],λ_=>(⟨.own Fx p.l.length [],bK⟩:J Bool).L 4 jF++(⟨eH,[p.val,q.val,.int .i64 bT],42⟩::(q.L 3 aL++(p.L 76 bL.cells++(⟨cT,[.slice none 0 0,.slice none 0 0,.int .i64 0],42⟩::eT c x vS::[])))),λ_=>R,λg=>(if g.1<=M7 then(M7:Int)-g.1 else(M7:Int)-g.1+p.l.length).toNat⟩:dV {m:Int//0<=m/\m<p.l.length})) (⟨xZ,by omega⟩) ?_;rintro⟨m,hm⟩ bZ;try dsimp only
  have xR:=bJ bK m.toNat false;have rX:(m+1).tmod (p.l.length:Int)=if m+1=p.l.length then 0 else m+1:=by
   rw[aIk D];split;·rename_i h;rw[h,Int.emod_self]
   ·exact aIb D D
  apply s2∘h7∘aJJ;refine aG (qK O ((⟨.own Fx p.l.length [],bK⟩:J Bool)) rfl rfl rfl c0 bC bI bC aE) ?_;apply(b3);apply(W)<;>intro b2;·(have iO:m≠M7:=λh=>by subst h;rw[vY]at xR b2;rw[aS5,b2]at xR;cases xR);refine dK (aZ (e3 (cR ?_)));apply z2∘nO∘Im∘dE;refine eI (gV ?_);exact oT ⟨(m+1).tmod (p.l.length:Int),by rw[rX];split<;>omega⟩ kG bP a2 fF (by have a66:=(List.getElem?_eq_some_iff.1 aS5).1;exact b1m hm ⟨by omega,by omega⟩ iO rX)
  apply oD∘h7∘aJJ;refine i4 (jL O ((⟨.own Fx p.l.length [],bK⟩:J Bool)) (true) rfl rfl rfl rfl c0 bC bI bC bH aE aE) ?_;rintro v E G ⟨rfl,rfl⟩;refine eI (aZ (cR ?_));apply gE∘zU;rintro v E G ⟨Lr,rfl,rfl,Mz⟩;replace Mz:=Mz.symm;subst Mz;refine gO (j2 (f:=aL) (a:=m) O rfl rfl rfl rfl (gG) c0 j8 rfl kH) rfl ?_;rintro v E G ⟨bGd,rfl,bDW,rfl,rfl⟩;apply uY∘GV;exact dU ⟨(j+1,(⟨bGd,q.l++[m]⟩:J Int),bK.set m.toNat true,vS),⟨by dsimp only;omega,by dsimp only;rw[iD,pN];omega⟩,bDW,⟨by dsimp only;rw[p6];exact fW,by dsimp only;rw[b41 (by rw[xR,b2]),a6W]⟩,a1Z.next hm.1 (by rw[xR,b2]),uJ⟩
 obtain rfl:j=n:=by omega
 apply(oD);refine aG lR ?_;apply(wA);refine bN (q.L 3 aL++(p.L 76 bL.cells++(eT c x eV::[]))) R (pG rfl VM) ?_;exact⟨p,q,bT,eV,rfl,⟨iB,gG⟩,by omega,rV,b2Z Vb a1Z fW D D D,Vb.cQ,m4,rfl,rfl⟩
def b1l(c:Nat)(x:a0 Int)(k:Nat)(n:Nat)(R:aJ)(K:jK x R)(hk:k<=x.l.length)(hn:n<=16):
 aI prog 31 [.pointer (some ⟨c,0,none⟩),.int .i64 n].toArray [eT c x k] R
  (λv E G=>∃(f:hI) (b5:Nat),v=f.val/\(f.aT.l.length<=18/\1<=f.aT.l.length)/\f.aU.l.length=n/\i6 f.aT.l f.aU.l f.cA=0/\(∀x∈f.aT.l,x.cQ=0)/\b5<=x.l.length/\(k9 f G/\∀r∈R,aH r G)/\eT c x b5::[]=E):=by refine aI.a75 (b6n c x k n R K hk hn) ?_;rintro v E G c w ⟨aF,cG,bT,b5,rfl,⟨u6,X7⟩,N,V,aQ,b7,RD,rfl,rfl⟩ cI;have eG:=cI.TZ (eQ:=[]) X7 bI bH lQ;have gF:=eG.TZ (eQ:=[]) u6 bI bH lQ;exact⟨_,_,gF,⟨aF.U,cG.U,bT⟩,b5,rfl,N,V,aQ,b7,RD,⟨⟨aM (.head _),aM (.tail _ (.head _))⟩,λr M=>aM (.tail _ (.tail _ M))⟩,rfl⟩
end Go.Proofs.YtchfclmokpbldaaGreat
namespace Go.Proofs.YtchfclmokpbldaaGreat
open Go.Aw Go Go.Proofs.Tryz
section
def b1x(h:A->B:=by exact(aG aIE ·)):=h
def aBy(h:A->B:=by exact MG b04 rfl rfl rfl):=h
def aQ1(h:A->B:=by exact hF O [] [0,1,2,3,4,5,6,7,8] [9,10,11] ([a5.mk gL _ _]) _ cX bE a2 dT):=h
def aPV(h:A->B:=by exact(eO qI ·)):=h
def aKh(h:A->B:=by exact(m5 R9 ·)):=h
def b6E{P n code t R}{Q:gA}{A:aP}{m:E9}{Tq:a5}(hm:m.Zj)(hf: ∀f∈m.a3.l,aH f.fI R)(hd: ∀d∈m.aX.l,aH d.fI R)
 (h:∀G,aH (cZ m.g8.U) G->aH (Q1 m.a3.U) G->aH (MN m.aX.U) G->aH (YI m.aD.U) G->aH (cZ m.pM.U) G->aH (cZ m.qF.U) G->(∀r∈R,aH r G)->
  cH P n code t (A++(m.bY.L 3 aL++(m.places.L 159 kR.cells++(Tq::[])))) G Q):cH P n code t (A++m.L Tq) R Q:=by
 unfold E9.L;have XF:∀fQ:aP,A++(m.bY.L 3 aL++(m.places.L 159 kR.cells++fQ))=(A++m.bY.L 3 aL++m.places.L 159 kR.cells)++fQ:=λfQ=>by simp
 rw[XF];refine vF [] CG bH hm.g8 lQ ?_;refine vF (m.a3.l.map hY.fI) bI (by decide:0<4) hm.a3 (λs hs=>by obtain⟨y,aN,rfl⟩:=List.mem_map.1 hs;exact(hf y aN).mono λr M=>aM EZ) ?_;refine vF (m.aX.l.map g9.fI) bI (by decide:0<3) hm.aX (λs hs=>by obtain⟨y,aN,rfl⟩:=List.mem_map.1 hs;exact(hd y aN).mono λr M=>aM EZ) ?_;refine vF [] bI (by decide:0<10) hm.aD lQ ?_;have e:∀fQ:aP,(A++m.bY.L 3 aL++m.places.L 159 kR.cells)++(Tq::fQ)=((A++m.bY.L 3 aL++m.places.L 159 kR.cells)++[Tq])++fQ:=λfQ=>by simp
 rw[e];refine vF [] CG bH hm.pM lQ ?_;refine vF [] CG bH hm.qF lQ ?_;rw[EX,<-XF];refine h _ ?_ ?_ ?_ ?_ ?_ ?_ (λr M=>aM EZ);·exact aM (.tail _ (.tail _ (.tail _ (.tail _ (.tail _ (.head _))))))
 ·exact aM (.tail _ (.tail _ (.tail _ (.tail _ (.head _)))))
 ·exact aM (.tail _ (.tail _ (.tail _ (.head _))))
 ·exact aM (.tail _ (.tail _ (.head _)))
 ·exact aM (.tail _ (.head _))
 ·exact aM (.head _)
structure Jx where
 bS:J kR
 bY:J Int
 EO:a0 eL
 a3:a0 hY
 aX:a0 g9
 s:cE
 Z:a0 Int
 RY:Value
 RZ:Value
 R:aJ
abbrev Jx.a(j:Jx):bR:=⟨⟨j.bS.U,j.EO⟩,j.a3,j.aX⟩
abbrev Jx.x(j:Jx):q2:=⟨j.bY.U,j.Z⟩
structure Jx.Zj(j:Jx)(b4F:aJ):Prop where
 bS:j.bS.ok 2 kR.cells
 bY:j.bY.ok 1 aL
 EO:aH (YI j.EO) j.R
 a3:aH (Q1 j.a3) j.R
 aX:aH (MN j.aX) j.R
 s:o2 j.s j.R
 Z:aH (cZ j.Z) j.R
 bU:Yc j.a j.s j.x
 mono:∀r∈b4F,aH r j.R
attribute [local irreducible] cH c6 dP aI cJ eD e9 e0 e1 e5 eS e8 J.L
def b7O(c:Nat)(x:a0 Int)(k:Nat)(R:aJ)(K:jK x R)(hk:k<=x.l.length):
 aI prog 30 [.pointer (some ⟨c,0,none⟩)].toArray [eT c x k] R
  (λv E G=>∃(s:dQ) (u:cE) (z:q2) (b5:Nat),v=.tuple #[s.val,u.val,z.val]/\aAG s u z/\b5<=x.l.length/\(zX s G/\o2 u G/\aAJ z G/\∀r∈R,aH r G)/\eT c x b5::[]=E):=by
 refine bW 181 call30 func30 ?_;apply(IV);intro cS;apply(dA);intro dG;apply(dA);intro cT;apply(WM);refine cK (b2O (.tE (.tE (.tE (.MM .nil)))) K hk) ?_;rintro v E G ⟨m,eU,S,rfl,hm,Ak,a61,a60,e6,rfl,rfl⟩;simp only[mQ,oF,m0];refine aG iR ?_;iterate 3 apply(EJ)
 apply(dA);intro eH;apply(dA);intro hP;apply(dA);intro kL;iterate 3 apply(i3)
 apply lP∘sD;refine aG (mI (hN:=[(0,(Value.agg _).cells.toList)]) (cU:=[_,_,_,_,_,_,_,_]) O rfl rfl rfl rfl) ?_;apply(dA);intro gL;apply i3∘y1;refine b6E (A:=[_,_,_,_,_,_,_]) hm (λf hf=>(a61 f hf).mono λr M=>aM EZ) (λf hf=>(a60 f hf).mono λr M=>aM EZ) λgR k8 lH rE AW PD tO nF=>?_;apply(HR);have HO:jK x gR:=K.mono λr M=>nF r EZ;have XK:∀r∈R,aH r gR:=λr M=>nF r EZ;have q9:=Ak.Vo;have OX:=Ak.a7N;have l5:=(aA4 Ak.pT Ak.C4 Ak.Ge).aU5;apply eK∘z3∘mT;refine a0r (b4 31 29) ((⟨λ_=>[],λg=>⟨gL,[g.1.bS.val,g.1.EO.val,g.1.a3.val,g.1.aX.val,.slice none 0 0,.slice none 0 0,.slice none 0 0,.slice none 0 0],38⟩::⟨kL,[g.1.bY.val,g.1.Z.val],82⟩::⟨hP,g.1.s.cells,80⟩::⟨eH,[g.1.RY,g.1.RZ,g.1.a3.val,g.1.aX.val],32⟩::⟨cT,[.slice none 0 0,.slice none 0 0],82⟩::⟨dG,[.slice none 0 0,.slice none 0 0],80⟩::⟨cS,[.slice none 0 0,.slice none 0 0,.slice none 0 0,.slice none 0 0,.slice none 0 0,.slice none 0 0,.slice none 0 0,.slice none 0 0],38⟩::(g.1.bY.L 3 aL++(g.1.bS.L 159 kR.cells++(eT c x eU::[]))),λg=>g.1.R,λ_=>0⟩:dV {j:Jx//j.Zj R})) ?_ ?_;·
  skip
  apply(W)<;>intro aO;·
   (have M3:m.a.Y.aD.l.length=0:=by have:(m.aD.l.length:Int)=0:=aO;show m.aD.l.length=0;omega);have bJ7:m.aD.l.length=0:=M3;have bJP:1<=m.places.l.length:=q9.1;have bJQ:m.places.l.length<=6:=q9.2;have bJV:m.bY.l.length=m.places.l.length:=l5;(have aFn:(m.places.l++[(⟨0,true⟩:kR)]).length=m.places.l.length+1:=by simp);(have bDc:((m.places.l++[(⟨0,true⟩:kR)]).length:Int)-1=(m.places.l.length:Int):=by simp);apply(cO);(iterate 3 apply(eP));apply(kZ);refine aG a82 ?_;refine gO Qy rfl ?_;rintro v E G ⟨bAi,rfl,rfl,Mo⟩;replace Mo:=Mo.symm;subst Mo;refine gO (j2 (f:=kR.cells) (p:=m.places) (a:=⟨0,true⟩) O rfl rfl rfl rfl (hm.places) c0 j8 rfl kH) rfl ?_;rintro v E G ⟨aG8,rfl,aFG,rfl,rfl⟩;(iterate 3 apply(eP));apply Vz∘lP;(iterate 3 apply(eP));apply(N8);refine aG (aAt rfl rfl k1 k1) ?_;rw[bDc];apply(y0);refine aG (mI (hN:=[(0,(Value.int _ _).cells.toList),(1,(Value.int _ _).cells.toList),(2,(Value.int _ _).cells.toList),(3,(Value.int _ _).cells.toList),(6,(Value.agg _).cells.toList)]) (cU:=[_,_,_,_,_,_,_,_,_,_]) O rfl rfl rfl rfl) ?_;refine gO aIq rfl ?_;rintro v E G ⟨aDh,rfl,rfl,T8⟩;replace T8:=T8.symm;subst T8;refine JM 10 1 1 [eL.cells (W5 m.places.l.length)] [] (λr M=>by rw[List.mem_singleton.1 M];rfl) ?_;(iterate 3 apply(eP));apply(Vz);refine eI (aZ (cR ?_));apply fH∘zU;rintro v E G ⟨a6o,rfl,rfl,Mw⟩;replace Mw:=Mw.symm;subst Mw;refine gO (j2 (f:=aL) (p:=m.bY) (a:=0) O rfl rfl rfl rfl (hm.bY) c0 j8 rfl kH) rfl ?_;rintro v E G ⟨aHb,rfl,aFL,rfl,rfl⟩;apply(zU);rintro v E G ⟨bAl,rfl,rfl,aEc⟩;replace aEc:=aEc.symm;subst aEc;refine JM 1 1 1 [aL 0] [] (λr M=>by rw[List.mem_singleton.1 M];rfl) ?_;apply uY∘uY∘zT;exact Y7 ⟨⟨⟨aG8,m.places.l++[⟨0,true⟩]⟩,⟨aHb,m.bY.l++[0]⟩,⟨some ⟨aDh,0,none⟩,1,[W5 m.places.l.length]⟩,m.a3.U,m.aX.U,⟨m.pM.U,m.qF.U⟩,⟨some ⟨bAl,0,none⟩,1,[0]⟩,_,_,_⟩,
    ⟨aFG,aFL,aM (.tail _ (.head _)),lH.mono λr h=>aM (by simp[h]),rE.mono λr h=>aM (by simp[h]),⟨PD.mono λr h=>aM (by simp[h]),tO.mono λr h=>aM (by simp[h])⟩,aM (.head _),b3K Ak M3 rfl rfl rfl rfl,λr M=>(XK r M).mono λr h=>aM (by simp[h])⟩⟩ kG bP (YN _) a2 (mB (_:aJ))
  refine dK ?_;exact Y7 ⟨⟨m.places,m.bY,m.aD.U,m.a3.U,m.aX.U,⟨m.pM.U,m.qF.U⟩,m.g8.U,_,_,_⟩,
   ⟨hm.places,hm.bY,AW,lH,rE,⟨PD,tO⟩,k8,b9e Ak (λh=>aO (by show(m.aD.l.length:Int)=0;have:m.aD.l.length=0:=h;omega)),XK⟩⟩ kG bP (YN _) a2 (mB (_:aJ))
 rintro⟨j,aY⟩ bZ;try dsimp only
 obtain⟨yT,w7,EG,Cd,bFw,aUb,bFx,bFy,bFz⟩:=aY;refine vF (A:=[_,_,_,_,_,_,_]) (aR:=1) [] CG bH w7 lQ ?_;apply(HR);refine vF (A:=[_,_,_,_,_,_,_]) (aR:=2) [] bI bH yT lQ ?_;apply(HR);obtain⟨e4,uG⟩:∃e4,e4=O8 j.bS.U::cZ j.bY.U::j.R:=⟨_,rfl⟩;have jR:∀r∈j.R,aH r e4:=λr M=>aM (by rw[uG];exact .tail _ (.tail _ M));refine sU Xw ?_;obtain⟨a,ha⟩:∃a:bR,a=j.a:=⟨_,rfl⟩;obtain⟨x6,M4⟩:∃x6:q2,x6=j.x:=⟨_,rfl⟩;obtain⟨u,c4⟩:∃u:cE,u=j.s:=⟨_,rfl⟩;obtain⟨RY,Pc⟩:∃RY:Value,RY=j.RY:=⟨_,rfl⟩;obtain⟨RZ,EF⟩:∃RZ:Value,RZ=j.RZ:=⟨_,rfl⟩;have a6C:Yc a u x6:=by rw[ha,M4,c4];exact bFy
 have Q2:nT a e4:=by rw[ha];exact⟨aM Qu,EG.mono jR,Cd.mono jR,bFw.mono jR⟩
 have aSv:o2 u e4:=by rw[c4];exact⟨aUb.a3.mono jR,aUb.aX.mono jR⟩
 have Ui:aAJ x6 e4:=by rw[M4];exact⟨aM Xm,bFx.mono jR⟩
 have aSr:∀r∈R,aH r e4:=λr M=>(bFz r M).mono jR;have rY:jK x e4:=K.mono aSr;have aFv:=a6C.a7N;have RG:=a6C.O4;have u5:=a6C.M8;refine mJ (show _=⟨gL,[a.Y.places.val,a.Y.aD.val,a.a3.val,a.aX.val,.slice none 0 0,.slice none 0 0,.slice none 0 0,.slice none 0 0],38⟩::⟨kL,x6.cells,82⟩::⟨hP,u.cells,80⟩::⟨eH,[RY,RZ,a.a3.val,a.aX.val],32⟩::⟨cT,[.slice none 0 0,.slice none 0 0],82⟩::⟨dG,[.slice none 0 0,.slice none 0 0],80⟩::⟨cS,[.slice none 0 0,.slice none 0 0,.slice none 0 0,.slice none 0 0,.slice none 0 0,.slice none 0 0,.slice none 0 0,.slice none 0 0],38⟩::eT c x eU::[] by rw[ha,M4,c4,Pc,EF];rfl) ?_;refine a6 ?_;have dY:a.Y.aD.l.length<=9:=aFv.2;apply(eK);iterate 3 apply(eP)
 apply N8∘g7∘hS;refine cK (E8 hC rY e6 D) ?_;rintro v E G ⟨DI,eE,rfl,a1,bAO,hK,rfl,rfl⟩;apply(mM);refine c7 [(0,.pointer _),(2,.pointer _),(3,.pointer _),(4,.pointer _),(5,.pointer _),(6,.pointer _),(7,.pointer _),(8,.pointer _),(9,.int _ _),(10,.int _ _)] bP λeZ=>?_;refine mC ([10,11]++b4 67 20) ((⟨λg=>[(10,.int .i64 g.1.2.1)],λg=>g.1.2.2.L 88 fA.cells++(⟨gL,[a.Y.places.val,a.Y.aD.val,a.a3.val,a.aX.val,g.1.2.2.val,.slice none 0 0,.slice none 0 0,.slice none 0 0],38⟩::⟨kL,x6.cells,82⟩::⟨hP,u.cells,80⟩::⟨eH,[RY,RZ,a.a3.val,a.aX.val],32⟩::⟨cT,[.slice none 0 0,.slice none 0 0],82⟩::⟨dG,[.slice none 0 0,.slice none 0 0],80⟩::⟨cS,[.slice none 0 0,.slice none 0 0,.slice none 0 0,.slice none 0 0,.slice none 0 0,.slice none 0 0,.slice none 0 0,.slice none 0 0],38⟩::eT c x g.1.1::[]),λ_=>e4,λg=>g.1.2.1.toNat⟩:dV {g:Nat×Int×J fA//g.1<=x.l.length/\(0<=g.2.1/\1<=g.2.2.l.length+g.2.1/\g.2.2.l.length+g.2.1<=4)/\g.2.2.ok 8 fA.cells/\Kh a g.2.2.l})) (⟨(eE,DI,J.nil),hK,by dsimp only[List.length_nil];omega,J.g6,λi t h=>by cases h⟩) bP DP fF ?_;rintro⟨⟨hB,n,p⟩,s0,aA,iB,aEu⟩ bZ;try dsimp only
 dsimp only at s0 aA iB aEu;apply(ZV);apply(W)<;>intro bF;·apply(WO);refine cK (E8 hC rY s0 D) ?_;rintro v E G ⟨BW,i2,rfl,KW,I4,l4,rfl,rfl⟩;apply dE∘b3;refine hF O [] [0,1,2,3,4,5,6,7,8,9,10,11] [12,13,14] ([a5.mk gL _ _]) _ cX bE a2 dT ?_;apply IP∘wM∘l1;refine eO vZ ?_;apply DK∘wM;refine k2 rfl (nA hC rY l4 D) rfl rfl ?_;rintro v E G ⟨bKU,eV,rfl,OM,ON,aDx,m4,rfl,rfl⟩;refine⟨a2,gN,?_⟩;have aR9:=ON D;refine k2 rfl (a96 hC rY m4) rfl rfl ?_;rintro v E G ⟨t,vS,rfl,dS,uJ,rfl,rfl⟩;refine⟨a2,gN,?_⟩;apply(aBy);rintro v E G ⟨Fz,rfl,rfl,zL⟩;replace zL:=zL.symm;subst zL;apply(xF);refine o4 (j2 (f:=fA.cells) (p:=p) (a:=t) O rfl rfl rfl rfl (iB) c0 j8 rfl kH) rfl rfl rfl ?_;rintro v E G ⟨Pq,rfl,Hk,rfl,rfl⟩;apply KI∘Cm∘ZU;exact dU ⟨(vS,n-1,(⟨Pq,_⟩:J fA)),uJ,by dsimp only;simp only[iD,sK,EV];omega,Hk,aEu.Px ⟨by rw[dS.kind];omega,by rw[dS.kind,dS.target];exact dS,by rw[dS.target,J7,if_neg (by rw[dS.kind];omega),if_neg (by rw[dS.kind];omega)];omega⟩⟩
 apply(G0);refine c7 [(0,.pointer _),(2,.pointer _),(3,.pointer _),(4,.pointer _),(5,.pointer _),(6,.pointer _),(7,.pointer _),(8,.pointer _),(9,.int _ _),(12,.int _ _)] bP λnS=>?_;refine kO ([12]++b4 87 18) ((⟨λg=>[(12,.int .i64 ((g.1.2.1:Nat):Int))],λg=>g.1.2.2.L 88 fA.cells++(⟨gL,[a.Y.places.val,a.Y.aD.val,a.a3.val,a.aX.val,g.1.2.2.val,.slice none 0 0,.slice none 0 0,.slice none 0 0],38⟩::⟨kL,x6.cells,82⟩::⟨hP,u.cells,80⟩::⟨eH,[RY,RZ,a.a3.val,a.aX.val],32⟩::⟨cT,[.slice none 0 0,.slice none 0 0],82⟩::⟨dG,[.slice none 0 0,.slice none 0 0],80⟩::⟨cS,[.slice none 0 0,.slice none 0 0,.slice none 0 0,.slice none 0 0,.slice none 0 0,.slice none 0 0,.slice none 0 0,.slice none 0 0],38⟩::eT c x g.1.1::[]),λ_=>e4,λg=>a.a3.l.length-g.1.2.1⟩:dV {g:Nat×Nat×J fA//g.1<=x.l.length/\(g.2.1<=a.a3.l.length/\1<=g.2.2.l.length/\g.2.2.l.length<=4+g.2.1)/\g.2.2.ok 8 fA.cells/\Kh a g.2.2.l})) (⟨(hB,0,p),s0,by dsimp only;omega,iB,aEu⟩) ?_;rintro⟨⟨O1,i,gC⟩,UG,BR,X0,aEv⟩ bZ;try dsimp only
 dsimp only at UG BR X0 aEv;apply(oJ);apply(W)<;>intro b2;·refine dK (aZ (a6 (e3 ?_)));apply aQ1∘IP∘l1;refine eO vZ ?_;apply(wM);refine k2 rfl (a96 hC rY UG) rfl rfl ?_;rintro v E G ⟨t,vS,rfl,dS,uJ,rfl,rfl⟩;refine⟨a2,gN,?_⟩;apply(aBy);rintro v E G ⟨bIq,rfl,rfl,aDR⟩;replace aDR:=aDR.symm;subst aDR;apply(xF);refine o4 (j2 (f:=fA.cells) (p:=gC) (a:=t) O rfl rfl rfl rfl (X0) c0 j8 rfl kH) rfl rfl rfl ?_;rintro v E G ⟨a7P,rfl,aFy,rfl,rfl⟩;apply KI∘z4;exact dU ⟨(vS,i+1,(⟨a7P,_⟩:J fA)),uJ,by dsimp only;simp only[iD,sK,EV];omega,aFy,aEv.Px ⟨by rw[dS.kind];omega,by rw[dS.kind,dS.target];exact dS,by rw[dS.target,J7,if_pos (by rw[dS.kind])];omega⟩⟩
 apply(G0);refine c7 [(0,.pointer _),(2,.pointer _),(3,.pointer _),(4,.pointer _),(5,.pointer _),(6,.pointer _),(7,.pointer _),(8,.pointer _),(9,.int _ _),(13,.int _ _)] bP λNH=>?_;refine kO ([13]++b4 105 18) ((⟨λg=>[(13,.int .i64 ((g.1.2.1:Nat):Int))],λg=>g.1.2.2.L 88 fA.cells++(⟨gL,[a.Y.places.val,a.Y.aD.val,a.a3.val,a.aX.val,g.1.2.2.val,.slice none 0 0,.slice none 0 0,.slice none 0 0],38⟩::⟨kL,x6.cells,82⟩::⟨hP,u.cells,80⟩::⟨eH,[RY,RZ,a.a3.val,a.aX.val],32⟩::⟨cT,[.slice none 0 0,.slice none 0 0],82⟩::⟨dG,[.slice none 0 0,.slice none 0 0],80⟩::⟨cS,[.slice none 0 0,.slice none 0 0,.slice none 0 0,.slice none 0 0,.slice none 0 0,.slice none 0 0,.slice none 0 0,.slice none 0 0],38⟩::eT c x g.1.1::[]),λ_=>e4,λg=>a.aX.l.length-g.1.2.1⟩:dV {g:Nat×Nat×J fA//g.1<=x.l.length/\(g.2.1<=a.aX.l.length/\1<=g.2.2.l.length/\g.2.2.l.length<=6+g.2.1)/\g.2.2.ok 8 fA.cells/\Kh a g.2.2.l})) (⟨(O1,0,gC),UG,by dsimp only;omega,X0,aEv⟩) ?_;rintro⟨⟨bKC,Pl,dJ⟩,aFe,K7,M2,aEw⟩ bZ;try dsimp only
 dsimp only at aFe K7 M2 aEw;apply(oJ);apply(W)<;>intro dZ;·refine dK (aZ (a6 (e3 ?_)));apply aQ1∘IP∘l1;refine eO vZ ?_;apply(wM);refine k2 rfl (a96 hC rY aFe) rfl rfl ?_;rintro v E G ⟨t,vS,rfl,dS,uJ,rfl,rfl⟩;refine⟨a2,gN,?_⟩;apply(aBy);rintro v E G ⟨bIu,rfl,rfl,aDW⟩;replace aDW:=aDW.symm;subst aDW;apply(xF);refine o4 (j2 (f:=fA.cells) (p:=dJ) (a:=t) O rfl rfl rfl rfl (M2) c0 j8 rfl kH) rfl rfl rfl ?_;rintro v E G ⟨bFZ,rfl,bDD,rfl,rfl⟩;apply KI∘z4;exact dU ⟨(vS,Pl+1,(⟨bFZ,_⟩:J fA)),uJ,by dsimp only;simp only[iD,sK,EV];omega,bDD,aEw.Px ⟨by rw[dS.kind];omega,by rw[dS.kind,dS.target];exact dS,by rw[dS.target,J7,if_neg (by rw[dS.kind];decide),if_pos (by rw[dS.kind])];omega⟩⟩
 refine lC (lB (tT (lA (aZ (a6 (a6 ?_))))));refine vF (A:=[]) (aR:=8) [] bI bH M2 lQ ?_;refine mJ a3y ?_;obtain⟨n4,I5⟩:∃n4,n4=z9 dJ.U::e4:=⟨_,rfl⟩;have FR:∀r∈e4,aH r n4:=λr M=>aM (by rw[I5];exact .tail _ M);have jA:aH (z9 dJ.U) n4:=aM a2V;have Bx:=rY.mono FR;have bEj:1<=dJ.l.length/\dJ.l.length<=8:=by omega
 refine sU a9q ?_;apply(A9);refine cK (E8 hC Bx aFe D) ?_;rintro v E G ⟨sC,BV,rfl,Ag,OO,AP,rfl,rfl⟩;apply(mM);refine c7 [(0,.pointer _),(2,.pointer _),(3,.pointer _),(4,.pointer _),(6,.pointer _),(7,.pointer _),(8,.pointer _),(9,.int _ _),(14,.int _ _)] bP λWh=>?_;refine mC ([14]++b4 125 12) ((⟨λg=>[(14,.int .i64 g.1.2.1)],λg=>g.1.2.2.L 102 m9.cells++(⟨gL,[a.Y.places.val,a.Y.aD.val,a.a3.val,a.aX.val,dJ.val,g.1.2.2.val,.slice none 0 0,.slice none 0 0],38⟩::⟨kL,x6.cells,82⟩::⟨hP,u.cells,80⟩::⟨eH,[RY,RZ,a.a3.val,a.aX.val],32⟩::⟨cT,[.slice none 0 0,.slice none 0 0],82⟩::⟨dG,[.slice none 0 0,.slice none 0 0],80⟩::⟨cS,[.slice none 0 0,.slice none 0 0,.slice none 0 0,.slice none 0 0,.slice none 0 0,.slice none 0 0,.slice none 0 0,.slice none 0 0],38⟩::eT c x g.1.1::[]),λ_=>n4,λg=>g.1.2.1.toNat⟩:dV {g:Nat×Int×J m9//g.1<=x.l.length/\(0<=g.2.1/\1<=g.2.2.l.length+g.2.1/\g.2.2.l.length+g.2.1<=4)/\g.2.2.ok 6 m9.cells/\∀z∈g.2.2.l,Jv dJ.l a.Y.aD.l.length z})) (⟨(BV,sC,J.nil),AP,by dsimp only[List.length_nil];omega,J.g6,λt h=>by cases h⟩) bP DP fF ?_;rintro⟨⟨aG0,fL,q⟩,aFd,bCP,gG,aDG⟩ bZ;try dsimp only
 dsimp only at aFd bCP gG aDG;apply(ZV);apply(W)<;>intro dX;·refine dK (aZ (a6 (e3 ?_)));refine hF O [] [0,1,2,3,4,5] [6,7,8] ([a5.mk gL _ _]) _ cX bE a2 dT ?_;apply IP∘aPV;refine k2 rfl (b2A (s:=⟨a,dJ.U,q.U,⟨none,0,[]⟩,⟨none,0,[]⟩⟩) hC Bx aFd jA k1 k1) rfl rfl ?_;rintro v E G ⟨z,JH,rfl,eC,MZ,rfl,rfl⟩;refine⟨a2,gN,?_⟩;refine MG b1b rfl rfl rfl ?_;rintro v E G ⟨bIw,rfl,rfl,aDY⟩;replace aDY:=aDY.symm;subst aDY;apply(xF);refine o4 (j2 (f:=m9.cells) (p:=q) (a:=z) O rfl rfl rfl rfl (gG) c0 j8 rfl kH) rfl rfl rfl ?_;rintro v E G ⟨bF0,rfl,bDF,rfl,rfl⟩;apply KI∘Cm∘ZU;exact dU ⟨(JH,fL-1,(⟨bF0,_⟩:J m9)),MZ,by dsimp only;simp only[iD,sK,EV];omega,bDF,λy aN=>by rcases List.mem_append.1 aN with h|h;exact aDG y h;rw[List.mem_singleton.1 h];exact eC⟩
 refine lC (lB (tT (lA (aZ (a6 (a6 ?_))))));refine vF (A:=[]) (aR:=6) [] bI bH gG lQ ?_;refine mJ a3y ?_;obtain⟨nM,Q4⟩:∃nM,nM=Dv q.U::n4:=⟨_,rfl⟩;have D8:∀r∈n4,aH r nM:=λr M=>aM (by rw[Q4];exact .tail _ M);have Bi:aH (Dv q.U) nM:=aM (by rw[Q4];exact .head _);have Pe:=Bx.mono D8;have bEx:1<=q.l.length/\q.l.length<=4:=by omega
 refine sU (show _=nM by rw[Q4]) ?_;apply(A9);refine cK (E8 hC Pe aFd D) ?_;rintro v E G ⟨YC,Pm,rfl,aDB,a6B,UE,rfl,rfl⟩;apply(mM);refine c7 [(0,.pointer _),(2,.pointer _),(3,.pointer _),(4,.pointer _),(6,.pointer _),(7,.pointer _),(8,.pointer _),(9,.int _ _),(15,.int _ _)] bP λaHC=>?_;refine mC ([15,16,17]++b4 139 33) ((⟨λg=>[(15,.int .i64 g.1.2.1)],λg=>g.1.2.2.1.L 97 jU.cells++(⟨gL,[a.Y.places.val,a.Y.aD.val,a.a3.val,a.aX.val,dJ.val,q.val,g.1.2.2.1.val,.slice none 0 0],38⟩::⟨kL,x6.cells,82⟩::⟨hP,u.cells,80⟩::⟨eH,[RY,RZ,a.a3.val,a.aX.val],32⟩::⟨cT,[.slice none 0 0,.slice none 0 0],82⟩::⟨dG,[.slice none 0 0,.slice none 0 0],80⟩::⟨cS,[.slice none 0 0,.slice none 0 0,.slice none 0 0,.slice none 0 0,.slice none 0 0,.slice none 0 0,.slice none 0 0,.slice none 0 0],38⟩::eT c x g.1.1::[]),λg=>g.1.2.2.2,λg=>g.1.2.1.toNat⟩:dV {g:Nat×Int×J jU×aJ//g.1<=x.l.length/\(0<=g.2.1/\1<=g.2.2.1.l.length+g.2.1/\g.2.2.1.l.length+g.2.1<=3)/\g.2.2.1.ok 4 jU.cells/\(∀z∈g.2.2.1.l,a6a q.l.length a.Y.aD.l.length z/\∀s∈z.eQ,aH s g.2.2.2)/\∀r∈nM,aH r g.2.2.2})) (⟨(Pm,YC,J.nil,nM),UE,by dsimp only[List.length_nil];omega,J.g6,(λt h=>by cases h),λr M=>aM M⟩) bP DP fF ?_;rintro⟨⟨aG1,bFR,GI,qZ⟩,aFk,bCQ,X7,a1n,jY⟩ bZ;try dsimp only
 dsimp only at aFk bCQ X7 a1n jY;apply(ZV);apply(W)<;>intro h3;·
  have a7A:=Pe.mono jY;apply WO∘lM;refine cK (aI.Cs (.wE (.tE (.tE (.tE (.tE (.tE (.tE (.tE (.MM .nil))))))))) (b8S c x qZ q.l.length a7A D aG1 aFk)) ?_;rintro v E G ⟨_,rfl,Wd,aUg,rfl,bEH,bEG,a1E,rfl,rfl⟩;simp only[mQ,oF,m0];apply(hS);refine cK (nA hC a7A a1E D) ?_;rintro v E G ⟨ho,Vn,rfl,aR8,aDw,bAP,a1D,rfl,rfl⟩;have bI0:=aDw D;apply(hS);refine cK (nA hC a7A a1D D) ?_;rintro v E G ⟨bK,aUd,rfl,bI1,bAQ,bI2,aFa,rfl,rfl⟩;have bI3:=bAQ D;refine aG (mI (hN:=[(0,(Value.slice _ _ _).cells.toList),(1,(Value.int _ _).cells.toList),(3,(Value.int _ _).cells.toList)]) (cU:=[_,_,_,_]) O rfl rfl rfl rfl) ?_;apply(dA);intro I2;apply i3∘y1;refine hG 172 eX.cells 4 Wd [] bEH ?_;refine fU ?_;obtain⟨ZD,aEe⟩:∃ZD,ZD=DT Wd.U::qZ:=⟨_,rfl⟩;have Mx:∀r∈qZ,aH r ZD:=λr M=>aM (by rw[aEe];exact .tail _ M);have a12:aH (DT Wd.U) ZD:=aM (by rw[aEe];exact .head _);have bE9:=a7A.mono Mx;refine sU (show _=ZD by rw[aEe]) ?_;apply(OG);refine zY ([15,16,17]++b4 139 33) AZ [(15,.int _ _),(16,.pointer _),(17,.int _ _)] bP λbKV=>?_;refine mC ([17]++b4 153 13) ((⟨λg=>[(17,.int .i64 ((g.1.2.1:Nat):Int))],λg=>g.1.2.2.L 3 aL++(⟨I2,[Wd.val,.int .i64 ho,g.1.2.2.val,.int .i64 bK],97⟩::(GI.L 97 jU.cells++(⟨gL,[a.Y.places.val,a.Y.aD.val,a.a3.val,a.aX.val,dJ.val,q.val,GI.val,.slice none 0 0],38⟩::⟨kL,x6.cells,82⟩::⟨hP,u.cells,80⟩::⟨eH,[RY,RZ,a.a3.val,a.aX.val],32⟩::⟨cT,[.slice none 0 0,.slice none 0 0],82⟩::⟨dG,[.slice none 0 0,.slice none 0 0],80⟩::⟨cS,[.slice none 0 0,.slice none 0 0,.slice none 0 0,.slice none 0 0,.slice none 0 0,.slice none 0 0,.slice none 0 0,.slice none 0 0],38⟩::eT c x g.1.1::[]))),λ_=>ZD,λg=>a.Y.aD.l.length-g.1.2.1⟩:dV {g:Nat×Nat×J Int//g.1<=x.l.length/\g.2.1<=a.Y.aD.l.length/\g.2.2.ok 1 aL/\QD a.Y.aD.l.length g.2.1 g.2.2.l})) (⟨(aUd,0,J.nil),aFa,by dsimp only;omega,J.g6,.nil⟩) bP DP fF ?_;rintro⟨⟨bFF,a7F,fN⟩,aFj,bCR,a7p,a1h⟩ bZ;try dsimp only
  dsimp only at aFj bCR a7p a1h;have bJ8:=a1h.len;apply(TF);apply(W)<;>intro hW;·
   apply(WO);refine cK (WC hC bE9 aFj D) ?_;rintro v E G ⟨Ac,aGZ,rfl,a68,rfl,rfl⟩;apply(b3);apply(W)<;>intro oO;·apply eK∘gE∘zU;rintro v E G ⟨bIy,rfl,rfl,aD1⟩;replace aD1:=aD1.symm;subst aD1;refine gO (j2 (f:=aL) (p:=fN) (a:=(a7F:Int)) O rfl rfl rfl rfl (a7p) c0 j8 rfl kH) rfl ?_;rintro v E G ⟨bF2,rfl,bDH,rfl,rfl⟩;apply uY∘GV;exact dU ⟨(aGZ,a7F+1,(⟨bF2,_⟩:J Int)),a68,by dsimp only;omega,bDH,a1h.next D⟩
   apply(mD);exact dU ⟨(aGZ,a7F+1,fN),a68,by dsimp only;omega,a7p,a1h.EQ⟩
  obtain rfl:a7F=a.Y.aD.l.length:=by omega
  refine lC (lB (tT (lA (aZ ?_))));refine Dw (T:=3) (f:=aL) (aR:=1) fN [] c0 CG bH a7p lQ ?_;refine fU ?_;obtain⟨Ru,aEj⟩:∃Ru,Ru=cZ fN.U::ZD:=⟨_,rfl⟩;have aEf:∀r∈ZD,aH r Ru:=λr M=>aM (by rw[aEj];exact .tail _ M);have bED:aH (cZ fN.U) Ru:=aM (by rw[aEj];exact .head _);refine sU (show _=Ru by rw[aEj]) ?_;apply QW∘sD;refine gO Dg rfl ?_;rintro v E G ⟨bIz,rfl,rfl,aD2⟩;replace aD2:=aD2.symm;subst aD2;refine gO (j2 (f:=jU.cells) (p:=GI) (a:=⟨Wd.U,ho,fN.U,bK⟩) O rfl rfl rfl rfl (X7) c0 j8 rfl kH) rfl ?_;rintro v E G ⟨bF3,rfl,bDJ,rfl,rfl⟩;apply uY∘ZZ;exact oQ ⟨(bFF,bFR-1,(⟨bF3,_⟩:J jU),Ru),aFj,by dsimp only;simp only[iD,sK,EV];omega,bDJ,(λy aN=>by
  rcases List.mem_append.1 aN with h|h;·exact⟨(a1n y h).1,λs hs=>(((a1n y h).2 s hs).mono Mx).mono aEf⟩
  ·
   rw[List.mem_singleton.1 h];refine⟨⟨bEG,by dsimp only;omega,by dsimp only;omega,a1h⟩,λs hs=>?_⟩;simp only[vC,x7,or_false]at hs;rcases hs with rfl|rfl;·exact a12.mono aEf
   ·exact bED),λr M=>((jY r M).mono Mx).mono aEf⟩
 apply(O9);refine vF (A:=[]) (aR:=4) (GI.l.flatMap jU.eQ) bI bH X7 (λs hs=>by obtain⟨y,aN,hs⟩:=List.mem_flatMap.1 hs;exact(a1n y aN).2 s hs) ?_;refine mJ a3y ?_;obtain⟨Kf,aEl⟩:∃Kf,Kf=SO GI.U::qZ:=⟨_,rfl⟩;have Nb:∀r∈qZ,aH r Kf:=λr M=>aM (by rw[aEl];exact .tail _ M);have pL:aH (SO GI.U) Kf:=aM (by rw[aEl];exact .head _);refine sU (show _=Kf by rw[aEl]) ?_;apply(eK);iterate 4 apply(b1x)
 refine gO (L0 (hN:=[(0,(Value.agg _).cells.toList),(1,(Value.agg _).cells.toList),(2,(Value.agg _).cells.toList),(3,(Value.agg _).cells.toList)]) (cU:=[_,_,_,_]) O rfl rfl rfl rfl rfl rfl rfl) rfl ?_;rintro v E G ⟨aRO,rfl,rfl,Mi⟩;replace Mi:=Mi.symm;subst Mi;refine JM 1 4 4 [aL 1,aL 2,aL 1,aL 3] [] (λr M=>by simp only[vC,x7,or_false]at M;rcases M with rfl|rfl|rfl|rfl<;>rfl) ?_;apply uY∘jW;obtain⟨ps,nG⟩:∃ps:a0 Int,ps=⟨some ⟨aRO,0,none⟩,4,[1,2,1,3]⟩:=⟨_,rfl⟩;obtain⟨Kg,aEo⟩:∃Kg,Kg=cZ ps::Kf:=⟨_,rfl⟩;have Gk:∀r∈Kf,aH r Kg:=λr M=>aM (by rw[aEo];exact .tail _ M);have aF6:aH (cZ ps) Kg:=aM (by rw[aEo];exact .head _);refine sU (show _=Kg by rw[aEo,nG];rfl) ?_;have Ct:∀r∈e4,aH r Kg:=λr M=>((((FR r M).mono D8).mono jY).mono Nb).mono Gk;refine hF O [179,180] [0,1,2] [3,4,5] ([a5.mk gL _ _,a5.mk kL _ _,a5.mk hP _ _]) _ cX bE a2 b0T ?_;apply aPV∘aKh∘aKh∘x1;iterate 3 apply(sE)
 refine gS (aZ (iT ?_));refine bN (eT c x aG1::[]) Kg (a0d rfl a3b Df Df) ?_;refine⟨⟨a,dJ.U,q.U,GI.U,ps⟩,u,x6,aG1,?_,⟨a6C,aEw,bEj,aDG,bEx,λz eC=>(a1n z eC).1,by dsimp only;omega,by rw[nG]⟩,aFk,⟨⟨⟨Q2.places.mono Ct,Q2.aD.mono Ct,Q2.a3.mono Ct,Q2.aX.mono Ct⟩,(((jA.mono D8).mono jY).mono Nb).mono Gk,((Bi.mono jY).mono Nb).mono Gk,pL.mono Gk,aF6⟩,⟨aSv.a3.mono Ct,aSv.aX.mono Ct⟩,⟨Ui.bY.mono Ct,Ui.g8.mono Ct⟩,λr M=>(aSr r M).mono Ct⟩,rfl⟩;rw[nG];rfl
end
section
attribute [local irreducible] cH c6 dP aI cJ eD e9 e0 e1 e5 eS e8 J.L
end
end Go.Proofs.YtchfclmokpbldaaGreat
