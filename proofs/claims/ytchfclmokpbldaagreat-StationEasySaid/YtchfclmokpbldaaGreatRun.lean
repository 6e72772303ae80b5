-- By an AI agent; no person has read it.
import Derived.Test.YtchfclmokpbldaaGreatTab
import Derived.Test.YtchfclmokpbldaaGreatOwn
set_option linter.all false
set_option maxHeartbeats 4000000
variable{A B:Prop}
namespace Go.Proofs.YtchfclmokpbldaaGreat
open Go.Aw Go Go.Proofs.Tryz
def bB{b v:Bool}{p:Prop}(h:b=v)(e:(b=v)=p:=by(try simp only[aCZ,aC0,aC1,aC2,aC3,aC4,aC5,aC6]);(first|done|exact rfl)):p:=e.mp h
section
variable{P:Program}{fn:Func}{Post:oK}{n m:Nat}{t:Nat->Value}{L E:aR}{R G:aO}{Q fS:gF}{all:Array Oper}{ty:TypeId}{pos:String}{after:Array Edge}{aD:List Oper}{d:Tmp}{g:Option (Nat×Bool)}{cW gG:aR}{bY:List Nat}{v a:Value}{f:FuncId}{xs:List Operand}{qY:Array TypeId}{args:List Value}{Pt:aR}{hG:aO}
def bQ(E:aR)(G:aO)(h:∀c n a w,mS n t a->dQ c L R w->(results fn a.tmps).run prog w=.ok v w)(aP:Post v E G)(dI:E.Sublist L:=by exact bA)(bO:∀r∈G,aL r R:=by exact n1 _):e6 prog fn Post .ret t L R:=lH h aP dI bO
def cX(E:aR)(G:aO)(aP:Post v E G)(h:∀c n a w,mS n t a->dQ c L R w->(results fn a.tmps).run prog w=.ok v w:=by exact sD rfl DS)(dI:E.Sublist L:=by exact bA)(bO:∀r∈G,aL r R:=by exact n1 _):e6 prog fn Post .ret t L R:=lH h aP dI bO
def lG(E:aR)(G:aO)(aP:Post v E G)(h:∀c n a w,mS n t a->dQ c L R w->(results fn a.tmps).run prog w=.ok v w:=by exact sD rfl RJ)(dI:E.Sublist L:=by exact bA)(bO:∀r∈G,aL r R:=by exact n1 _):e6 prog fn Post .ret t L R:=lH h aP dI bO
def U{x:Operand}{A B:Code}{b:Bool}{p q:Prop}(fH:p->cQ prog n A t L R Q)(aF:q->cQ prog n B t L R Q)(cG:iT t x=.bool b:=by exact aY)(aP:(b=true)=p:=by(try simp only[aCZ,aC0,aC1,aC2,aC3,aC4,aC5,aC6]);(first|done|exact rfl))(cJ:(b=false)=q:=by(try simp only[aCZ,aC0,aC1,aC2,aC3,aC4,aC5,aC6]);(first|done|exact rfl)):cQ prog n (.cond x A B) t L R Q:=
 a7L cG (λh=>fH (aP.mp h)) (λh=>aF (cJ.mp h))
def cD(bT:xs.map (iT t)=args)(h:aM prog f args.toArray L R (λv E G=>v=a/\Pt=E/\hG=G))(k:dF prog n all aD (kR t d a) Pt hG Q)(bM:Nat.blt d n=true:=by exact rfl):dF prog n all (⟨some d,.call ⟨.value (.func f),xs.toArray,qY⟩,ty,pos,after,none⟩::aD) t L R Q:=
 dT bT h bM λ_ _ _ ⟨eV,fN,n5⟩=>by subst eV;subst fN;subst n5;exact k
def lW(bT:xs.map (iT t)=args)(h:aM prog f args.toArray L R (λv E G=>v=a/\Pt=E/\hG=G))(k:dV prog N n all cW fS aD (kR t d a) Pt hG)(dH:oY all t g=true:=by exact rfl)(bM:Nat.blt d n=true:=by exact rfl)(dI:cW.Sublist Pt:=by exact bA)(bO:∀r∈R,aL r hG:=by first|exact n1 _|exact(λr h=>aT (by simp[h]))):dV prog N n all cW fS (⟨some d,.call ⟨.value (.func f),xs.toArray,qY⟩,ty,pos,after,g⟩::aD) t L R:=
 tP bT h dH bM λ_ _ _ ⟨eV,fN,n5⟩=>by subst eV;subst fN;subst n5;exact⟨dI,bO,k⟩
def eO{lO:Type}{ws:List Nat}{kZ:Nat->Value}{bM:fB lO}{wQ:Nat}(g:lO)(dG:kT ws kZ t:=by exact gW)(aH:CX t (bM.tF g):=by exact bV)(dI:(bM.L g).Sublist L:=by exact bA)(bO:∀r∈bM.R g,aL r R:=by exact n1 _)(a3:bM.m g<wQ:=by dsimp only;omega):e2 ws kZ bM wQ Q .normal t L R:=hP g dG aH dI bO a3
def wU{lO:Type}{ws:List Nat}{kZ:Nat->Value}{bM:fB lO}(g:lO)(dG:kT ws kZ t:=by exact gW)(aH:CX t (bM.tF g):=by exact bV)(dI:(bM.L g).Sublist L:=by exact bA)(bO:∀r∈bM.R g,aL r R:=by exact n1 _):a0L ws kZ bM Q .normal t L R:=Df g dG aH dI bO
def k2{lO:Type}{body:Code}(ws:List Nat)(bM:fB lO)(a0:lO)(Gw:∀g cH,cQ prog n body (zQ (x7 ws t cH) (bM.tF g)) (bM.L g) (bM.R g) (e2 ws t bM (bM.m g) Q))(b2:CX t (bM.tF a0):=by exact bV)(dI:(bM.L a0).Sublist L:=by exact bA)(bO:∀r∈bM.R a0,aL r R:=by exact n1 _):cQ prog n (.loop body) t L R Q:=qK ws bM a0 b2 dI bO Gw
def gY{lO:Type}{body:Code}(ws:List Nat)(tF:lO->List (Nat×Value))(m:lO->Nat)(a0:lO)(Gw:∀g cH,cQ prog n body (zQ (x7 ws t cH) (tF g)) L R (e2 ws t ⟨tF,λ_=>L,λ_=>R,m⟩ (m g) Q))(b2:CX t (tF a0):=by exact bV):cQ prog n (.loop body) t L R Q:=a7q ws tF m a0 b2 Gw
end
def cE(h:A->B:=by exact aI zS rfl):=h
def e7(h:A->B:=by exact aI xS rfl):=h
def kP(h:A->B:=by exact aI I1 rfl):=h
def dM(h:A->B:=by exact aI (FB Ie) rfl):=h
def dC(h:A->B:=by intro a;refine bK (c2 ?_);exact a):=h
def b9(h:A->B:=by intro a;refine eZ (a8 ?_);exact a):=h
def u0(h:A->B:=by exact aI yG rfl):=h
def dE(h:A->B:=by exact aI (CH aY) rfl):=h
def g4(h:B:=by exact aW1 aY gW bA (by first|exact n1 _|exact λr h=>aT (by simp[h]))):=h
def GP(h:A->B:=by exact aI E0 rfl):=h
def jZ(h:A->B:=by exact aZ6 N rfl rfl rfl rfl sX aB aB):=h
def lA(h:A->B:=by exact bE xS rfl rfl rfl):=h
def j8(h:A->B:=by intro a;refine eZ (a8 (bK (c2 ?_)));exact a):=h
def zM(h:A->B:=by exact fP xS rfl rfl rfl rfl):=h
def hK(h:A->B:=by exact bE zS rfl rfl rfl):=h
def iU(h:A->B:=by exact aZ9 rfl rfl rfl):=h
def dZ(h:A->B:=by exact aVL N rfl rfl):=h
def k3(h:A->B:=by exact aI Wr rfl):=h
def Bd(h:A->B:=by exact bE I1 rfl rfl rfl):=h
def Mu(h:A->B:=by exact fP I1 rfl rfl rfl rfl):=h
def DI(h:A->B:=by intro a;refine eZ ?_;exact a):=h
def rF(h:A->B:=by intro a;refine eZ (a8 (bK (bK (c2 ?_))));exact a):=h
def iV(h:A->B:=by exact aTE rfl rfl):=h
def eB(h:A->B:=by intro a;refine c2 ?_;exact a):=h
def nG(h:A->B:=by exact aI (FB aY) rfl):=h
def DH(h:A->B:=by intro a;refine eZ (a8 (iY ?_));exact a):=h
def gJ(h:A->B:=by intro a;refine⟨bA,n1 _,?_⟩;exact a):=h
def T5(h:A->B:=by intro a;refine eZ (a8 (fR ?_));exact a):=h
def GO(h:A->B:=by exact aI Wv rfl):=h
def j2(h:A->B:=by intro a;refine eZ (a8 (bK ?_));exact a):=h
def KH(h:A->B:=by exact aI UK rfl):=h
def lX(h:A->B:=by exact aI (CH Cc) rfl):=h
def jG(h:A->B:=by exact aI Cj rfl):=h
def r5(h:A->B:=by exact aI a39 rfl):=h
def j3(h:A->B:=by exact aI a4a rfl):=h
def zN(h:A->B:=by intro a;refine aZS ?_;exact a):=h
def j9(h:A->B:=by intro a;refine eP (a8 (bK (fR (bK (c2 ?_)))));exact a):=h
def KI(h:A->B:=by exact bE a39 rfl rfl rfl):=h
def T7(h:A->B:=by exact bE X6 rfl rfl rfl):=h
def nZ(h:A->B:=by exact aI X6 rfl):=h
def zO(h:A->B:=by exact fP zS rfl rfl rfl rfl):=h
def uC(h:A->B:=by exact aY6 rfl rfl rfl rfl sX aB aB bA):=h
def A3(h:A->B:=by intro a;refine eZ (a8 (iY (gB ?_)));exact a):=h
def tD(h:A->B:=by intro a;refine bK (bK (c2 ?_));exact a):=h
def aBT(h:A->B:=by intro a;refine eP (hI (a8 (c2 ?_)));exact a):=h
def n9(h:A->B:=by intro a;refine mD (mF (xY (mB (a8 (bK (c2 ?_))))));exact a):=h
def k4(h:A->B:=by exact bE Cj rfl rfl rfl):=h
def gU(h:A->B:=by exact aI oS rfl):=h
def XJ(h:A->B:=by exact aI BA rfl):=h
def hN(h:A->B:=by intro a;refine eP (a8 (bK (bK (c2 ?_))));exact a):=h
def KJ(h:A->B:=by exact bE X1 rfl rfl rfl):=h
def RC(h:A->B:=by exact aI KU rfl):=h
def qH(h:A->B:=by exact aWp rfl rfl):=h
def IQ(h:A->B:=by exact aI q2 rfl):=h
def ON(h:A->B:=by intro a;refine eZ (a8 (iY (iM (gB (vW (iM (gB ?_)))))));exact a):=h
def wV(h:A->B:=by intro a;refine g5 (a8 ?_);exact a):=h
def e0(h:A->B:=by intro a;refine eP (a8 (bK (c2 ?_)));exact a):=h
def aBU(h:A->B:=by exact U4 (v:=Value.slice _ _ _) rfl rfl rfl rfl sX Ws Xr aB bA):=h
def XK(h:A->B:=by exact aI (Qk rfl rfl) rfl):=h
def aOl(h:A->B:=by intro a;refine g5 (hI (a8 (c2 ?_)));exact a):=h
def GQ(h:A->B:=by exact aI G4 rfl):=h
def l6(h:A->B:=by exact aI Ou rfl):=h
def L3(h:A->B:=by exact eM (by simp only[pK,nN];rfl)):=h
def sS(h:A->B:=by exact bE (CH aY) rfl rfl rfl):=h
def T6(h:A->B:=by exact fP (CH Cc) rfl rfl rfl rfl):=h
def XI(h:A->B:=by exact aI (NQ rfl) rfl):=h
def Mv(h:A->B:=by exact bE Wv rfl rfl rfl):=h
def Be(h:A->B:=by exact U4 (v:=Value.int _ _) rfl rfl rfl rfl sX Ws Xr aB bA):=h
def vQ(h:A->B:=by exact bE a4a rfl rfl rfl):=h
def aBS(h:A->B:=by exact bE (CH Cc) rfl rfl rfl):=h
def IP(h:A->B:=by intro a;refine g5 (a8 (bK ?_));exact a):=h
def mR(h:A->B:=by intro a;refine pB ?_ aWK;exact a):=h
def a21(h:A->B:=by exact bE jV rfl rfl rfl):=h
def T9(h:A->B:=by exact fP a4a rfl rfl rfl rfl):=h
def A4(h:A->B:=by exact aI Oe rfl):=h
def Vq(h:A->B:=by exact bE Ou rfl rfl rfl):=h
def xN(h:A->B:=by intro a;refine mD (mF (xY (mB (a8 (bK (bK (c2 ?_)))))));exact a):=h
def qV(h:A->B:=by exact bE (FB Ie) rfl rfl rfl):=h
def Bg(h:A->B:=by intro a;refine eZ (a8 (iY (gB (iM (gB (vW (iM (gB ?_))))))));exact a):=h
def tE(h:A->B:=by exact fP Cj rfl rfl rfl rfl):=h
def XL(h:A->B:=by exact fP Wr rfl rfl rfl rfl):=h
def a22(h:A->B:=by exact aI (oU (iD:=[]) (dD:=[_,_]) N rfl rfl rfl rfl) rfl):=h
def wW(h:A->B:=by intro a;refine eP (a8 (bK ?_));exact a):=h
def L5(h:A->B:=by exact aI aDe rfl):=h
def a23(h:A->B:=by exact Rm (v:=Value.int _ _) N rfl rfl rfl rfl sX Ws Xr aB):=h
def CB(h:A->B:=by intro a;refine eZ (a8 (bK (bK ?_)));exact a):=h
def aBW(h:A->B:=by exact m2 xS rfl rfl rfl rfl):=h
def wX(h:A->B:=by exact aI (a1e rfl D D) rfl):=h
def UA(h:A->B:=by exact fP (by first|exact MS N rfl rfl rfl n0 (a46 bD bR rfl)|exact MS N rfl rfl rfl n0 (aJo bD bR rfl)|exact MS N rfl rfl rfl n0 (aFe bR)|exact MS N rfl rfl rfl n0 aB) rfl rfl rfl rfl):=h
def RD(h:A->B:=by intro a;refine eZ (hI (a8 (c2 ?_)));exact a):=h
def aBX(h:A->B:=by exact fP oS rfl rfl rfl rfl):=h
def b6V(h:A->B:=by exact m2 I1 rfl rfl rfl rfl):=h
def CC(h:A->B:=by exact fP Ou rfl rfl rfl rfl):=h
def Bh(h:A->B:=by exact fP Oe rfl rfl rfl rfl):=h
def GU(h:A->B:=by exact hT a4l rfl):=h
def a24(h:A->B:=by exact Rm (v:=Value.slice _ _ _) N rfl rfl rfl rfl sX Ws Xr aB):=h
def aOm(h:A->B:=by exact aI (aIl (e:=3) N rfl bI rfl rfl rfl rfl rfl) rfl):=h
def b6T(h:B:=by exact hP ⟨(_,_),by dsimp only;omega,by dsimp only;omega,by dsimp only;omega,e⟩ gW ⟨rfl,rfl,trivial⟩ bA eN hO):=h
def T8(h:A->B:=by exact aI (FB Cc) rfl):=h
def GR(h:A->B:=by exact bE Wr rfl rfl rfl):=h
def Hk(h:A->B:=by intro a;refine mD (mF (xY (mB (a8 (bK ?_)))));exact a):=h
def kA(h:A->B:=by exact aI zT rfl):=h
def aBV(h:A->B:=by exact fP Wv rfl rfl rfl rfl):=h
def L4(h:A->B:=by intro a;refine g5 (a8 (bK (bK (c2 ?_))));exact a):=h
def GS(h:A->B:=by exact hT Wx rfl):=h
def b6U(h:A->B:=by exact aI aDf rfl):=h
def Bf(h:A->B:=by exact Eb a4l rfl rfl rfl):=h
def Mw(h:A->B:=by exact aI (by first|exact aJr rfl rfl D D|exact a4K rfl rfl D) rfl):=h
def KK(h:A->B:=by intro a;refine eZ (a8 (iY (iM (gB ?_))));exact a):=h
def aOp(h:A->B:=by exact qJ rfl a4l rfl rfl):=h
def L6(h:A->B:=by exact aI aQp rfl):=h
def aBZ(h:A->B:=by exact fP a39 rfl rfl rfl rfl):=h
def A5(h:A->B:=by exact aI a38 rfl):=h
def Hl(h:A->B:=by exact bE aDe rfl rfl rfl):=h
def Mx(h:A->B:=by exact aI (u4 (row:=[_,_,_,_,_,_,_,_,_,_,_,_]) N rfl rfl rfl n0 aB aB) rfl):=h
def aB0(h:A->B:=by exact m2 a4a rfl rfl rfl rfl):=h
def Hm(h:A->B:=by exact aI aQZ rfl):=h
def b6W(h:A->B:=by exact aI aDm rfl):=h
def My(h:A->B:=by exact bE a38 rfl rfl rfl):=h
def Bi(h:A->B:=by exact bE aDm rfl rfl rfl):=h
def Bj(h:A->B:=by exact bE a4c rfl rfl rfl):=h
def b6X(h:A->B:=by exact bE a4i rfl rfl rfl):=h
def aOq(h:A->B:=by exact aI a4c rfl):=h
def aB1(h:A->B:=by exact bE pL rfl rfl rfl):=h
def Bk(h:A->B:=by exact aI a4f rfl):=h
def aB2(h:A->B:=by exact bE a4f rfl rfl rfl):=h
def OO(h:A->B:=by exact bE aQZ rfl rfl rfl):=h
def b6Y(h:A->B:=by exact aI aQQ rfl):=h
def aB3(h:A->B:=by exact aI (by first|exact U5 (row:=[_,_,_,_,_,_,_,_,_,_,_,_]) N rfl rfl rfl i9 bR aB aB|exact u4 (row:=[_,_,_,_,_,_,_,_,_,_,_,_]) N rfl rfl rfl n0 aB aB) rfl):=h
def aOr(h:A->B:=by exact bE aRj rfl rfl rfl):=h
def aOn(h:B:=by exact hP ⟨k+1,by omega,by omega⟩ gW ⟨rfl,rfl,trivial⟩ bA eN hO):=h
def aBY(h:A->B:=by exact fP aDm rfl rfl rfl rfl):=h
def a25(h:A->B:=by exact fP a4f rfl rfl rfl rfl):=h
def aOo(h:A->B:=by exact fP aDh rfl rfl rfl rfl):=h
section
structure b8w(p:Prop):Prop where x:p
variable{A B:Prop}
def fD(h:A->B:=by exact e7∘kP):=h
def w7(h:A->B:=by exact dM∘A3):=h
def kD(h:A->B:=by exact e7∘kP∘u0):=h
def dB(h:A->B:=by exact dC∘iV):=h
def g7(h:A->B:=by exact lA∘Bd):=h
def vB(h:A->B:=by exact dM∘DH):=h
def m3(h:A->B:=by exact dC∘dM):=h
def gK(h:A->B:=by exact e7∘kP∘cE):=h
def Dp(h:A->B:=by exact dM∘DI):=h
def h9(h:A->B:=by exact gU∘cE):=h
def mO(h:A->B:=by exact dM∘j8):=h
def M7(h:A->B:=by exact cE∘k3):=h
def hH(h:A->B:=by exact dM∘rF):=h
def pR(h:A->B:=by exact gU∘u0):=h
def M8(h:A->B:=by exact cE∘k3∘dM∘DI):=h
def s6(h:A->B:=by exact k3∘cE∘DI):=h
def rR(h:A->B:=by exact RC∘b9):=h
def z5(h:A->B:=by exact GP∘dE):=h
def mH(h:A->B:=by exact zM∘Mu):=h
def CP(h:A->B:=by exact GP∘b9):=h
def FR(h:A->B:=by exact tD∘cE):=h
def w8(h:A->B:=by exact nG∘b9):=h
def rS(h:A->B:=by exact dM∘j8∘cE):=h
def p8(h:A->B:=by exact jZ∘dM∘A3):=h
def nP(h:A->B:=by exact dM∘T5):=h
def kM(h:A->B:=by exact dC∘dM∘A3):=h
def h0(h:A->B:=by exact dC∘GP∘j2):=h
def VM(h:A->B:=by exact cE∘T5):=h
def vX(h:A->B:=by exact XJ∘nG∘b9):=h
def j0(h:A->B:=by exact e7∘kP∘e7∘kP):=h
def l1(h:A->B:=by exact lA∘Bd∘hK):=h
def CO(h:A->B:=by exact IQ∘IQ):=h
def LA(h:A->B:=by exact dC∘nG):=h
def nJ(h:A->B:=by exact XJ∘b9):=h
def j7(h:A->B:=by exact dM∘j8∘cE∘RC∘b9):=h
def k1(h:A->B:=by exact KJ∘sS):=h
def l2(h:A->B:=by exact KJ∘wV):=h
def nK(h:A->B:=by exact XI∘b9):=h
def sH(h:A->B:=by exact l6∘jG):=h
def mT(h:A->B:=by exact aBT∘cE∘k3∘dM∘DI):=h
def qO(h:A->B:=by exact e7∘kP∘GP∘dE):=h
def sI(h:A->B:=by exact jZ∘j8):=h
def uK(h:A->B:=by exact nG∘DH):=h
def lD(h:A->B:=by exact cE∘cE):=h
def Dq(h:A->B:=by exact e7∘kP∘KH):=h
def rT(h:A->B:=by exact jZ∘rF):=h
def oH(h:A->B:=by exact jZ∘dM∘DH):=h
def HO(h:A->B:=by exact dC∘cE):=h
def qP(h:A->B:=by exact e7∘kP∘u0∘cE∘T5):=h
def oI(h:A->B:=by exact dC∘XJ∘nG∘b9):=h
def mU(h:A->B:=by exact aBT∘k3∘cE∘DI):=h
def uL(h:A->B:=by exact dC∘dM∘KK):=h
def vZ(h:A->B:=by exact e7∘a23):=h
def tR(h:A->B:=by exact eB∘cE):=h
def wI(h:A->B:=by exact kA∘kA):=h
def CQ(h:A->B:=by exact jZ∘DH):=h
def Qw(h:A->B:=by exact e7∘kP∘u0∘GP∘b9):=h
def oJ(h:A->B:=by exact j9∘cE):=h
def oX(h:A->B:=by exact zN∘uC):=h
def p9(h:A->B:=by exact RC∘dE):=h
def vC(h:A->B:=by exact r5∘nZ):=h
def D5(h:A->B:=by exact hN∘e7∘kP):=h
def vY(h:A->B:=by exact dC∘dM∘ON):=h
def Y2(h:A->B:=by exact cE∘GP∘dE):=h
def sG(h:A->B:=by exact XJ∘dE):=h
def q9(h:A->B:=by exact tD∘cE∘e7∘kP∘u0∘GP∘b9):=h
def tQ(h:A->B:=by exact cE∘jZ∘dM∘A3):=h
def FT(h:A->B:=by exact e7∘a24):=h
def VN(h:A->B:=by exact aBS∘a21):=h
def uJ(h:A->B:=by exact RD∘k3∘cE∘DI):=h
def D6(h:A->B:=by exact dM∘nG):=h
def aIK(h:A->B:=by exact gU∘u0∘GP∘b9):=h
def PN(h:A->B:=by exact e0∘dM∘DH):=h
def VO(h:A->B:=by exact RD∘cE∘k3∘dM∘DI):=h
def aIL(h:A->B:=by exact e7∘kP∘GP):=h
def D7(h:A->B:=by exact GQ∘b9):=h
def uM(h:A->B:=by exact tD∘cE∘gU∘u0∘GP∘b9):=h
def vD(h:A->B:=by exact kA∘j8):=h
def D8(h:A->B:=by exact n9∘dM∘DH):=h
def aIM(h:A->B:=by exact cE∘j3):=h
def v0(h:A->B:=by exact uC∘qV):=h
def v1(h:A->B:=by exact kA∘rF):=h
def wJ(h:A->B:=by exact eB∘gU∘cE):=h
def yY(h:A->B:=by exact gU∘e7∘kP):=h
def JM(h:A->B:=by exact e7∘kP∘u0∘KH):=h
def M9(h:A->B:=by exact n9∘gU):=h
def Y4(h:A->B:=by exact cE∘j3∘dM∘DI):=h
def Ds(h:A->B:=by exact cE∘KH):=h
def x2(h:A->B:=by exact dM∘j2):=h
def SH(h:A->B:=by exact kA∘DH):=h
def FV(h:A->B:=by exact dC∘nG∘ON):=h
def JN(h:A->B:=by exact aOl∘cE∘k3∘dM∘DI):=h
def z7(h:A->B:=by exact Vq∘k4):=h
def yZ(h:A->B:=by exact hN∘dM∘T5):=h
def z8(h:A->B:=by exact jZ∘j8∘e7∘kP):=h
def Qx(h:A->B:=by exact cE∘dM∘DH):=h
def z6(h:A->B:=by exact e7∘nZ):=h
def LB(h:A->B:=by exact dC∘e7∘kP):=h
def CR(h:A->B:=by exact jZ∘A3):=h
def Dr(h:A->B:=by exact dM∘KK):=h
def FU(h:A->B:=by exact dC∘dM∘Bg):=h
def BK(h:A->B:=by exact kA∘j2):=h
def BL(h:A->B:=by exact eB∘gU):=h
def BM(h:A->B:=by exact e7∘e7∘kP∘cE):=h
def Y3(h:A->B:=by exact dM∘rF∘cE):=h
def BN(h:A->B:=by exact gU∘u0∘cE∘T5):=h
def BO(h:A->B:=by exact zM∘Mu∘zO):=h
def aIN(h:A->B:=by exact e7∘kP∘u0∘GQ):=h
def CS(h:A->B:=by exact IQ∘IQ∘dZ):=h
def JP(h:A->B:=by exact nZ∘jZ∘DH):=h
def FW(h:A->B:=by exact dC∘cE∘dM∘A3):=h
def CT(h:A->B:=by exact e7∘e7∘kP∘u0):=h
def SI(h:A->B:=by exact kP∘u0):=h
def a6z(h:A->B:=by exact hN∘e7∘kP∘XJ∘b9):=h
def a6A(h:A->B:=by exact dC∘e7):=h
def JQ(h:A->B:=by exact kA∘RD∘cE∘k3∘dM∘DI):=h
def FX(h:A->B:=by exact j8∘cE):=h
def JR(h:A->B:=by exact XI∘dE):=h
def D9(h:A->B:=by exact e0∘gU):=h
def FY(h:A->B:=by exact j9∘e7∘kP∘cE):=h
def FZ(h:A->B:=by exact aBW∘b6V):=h
def EA(h:A->B:=by exact aBX∘zO):=h
def Dt(h:A->B:=by exact cE∘GP∘b9):=h
def SJ(h:A->B:=by exact n9∘nG∘DH):=h
def F0(h:A->B:=by exact jZ∘rF∘e7∘kP):=h
def F1(h:A->B:=by exact nG∘rF):=h
def NC(h:A->B:=by exact e0∘gU∘cE):=h
def JS(h:A->B:=by exact kA∘kA∘dM∘A3):=h
def PR(h:A->B:=by exact dC∘nG∘A3):=h
def HR(h:A->B:=by exact kA∘CB):=h
def HS(h:A->B:=by exact KH∘b9):=h
def HT(h:A->B:=by exact jZ∘j2):=h
def PO(h:A->B:=by exact n9∘cE∘dM∘DH):=h
def HP(h:A->B:=by exact e7∘e7∘kP):=h
def HQ(h:A->B:=by exact lA∘Bd∘hK∘aB1):=h
def NA(h:A->B:=by exact e7∘a24∘j8):=h
def LC(h:A->B:=by exact hN∘cE∘GP∘dE):=h
def NB(h:A->B:=by exact e7∘a23∘j8):=h
def JO(h:A->B:=by exact hK∘aB1):=h
def PP(h:A->B:=by exact dC∘kA):=h
def Ke(h:A->B:=by exact l6∘jG∘RC):=h
def PQ(h:A->B:=by exact lA∘aBU):=h
def LD(h:A->B:=by exact lA∘lA∘Bd):=h
def ND(h:A->B:=by exact cE∘L5):=h
def LF(h:A->B:=by exact j8∘gU):=h
def VQ(h:A->B:=by exact gU∘u0∘GQ):=h
def LG(h:A->B:=by exact aOq∘dZ):=h
def a0Y(h:A->B:=by exact e7∘kP∘cE∘j3):=h
def a6B(h:A->B:=by exact zM∘zN):=h
def SM(h:A->B:=by exact dC∘cE∘dM):=h
def LH(h:A->B:=by exact dM∘rF∘e7∘kP):=h
def LI(h:A->B:=by exact b6W∘dZ):=h
def NE(h:A->B:=by exact eB∘dM∘T5):=h
def Qz(h:A->B:=by exact cE∘e7∘kP∘u0∘GQ):=h
def NF(h:A->B:=by exact cE∘e7∘kP):=h
def a0Z(h:A->B:=by exact e7∘kP∘RC):=h
def NG(h:A->B:=by exact gJ∘zN):=h
def SN(h:A->B:=by exact dC∘gU∘cE):=h
def PX(h:A->B:=by exact XK∘b9):=h
def aIO(h:A->B:=by exact e7∘kP∘u0∘RC):=h
def NH(h:A->B:=by exact aBX∘zM∘Mu):=h
def NI(h:A->B:=by exact hN∘e7∘kP∘u0∘cE∘T5):=h
def PY(h:A->B:=by exact zM∘Mu∘zM∘Mu):=h
def aIP(h:A->B:=by exact jZ∘dM∘KK):=h
def PZ(h:A->B:=by exact xN∘dM∘T5):=h
def P0(h:A->B:=by exact gU∘gU∘cE):=h
def P1(h:A->B:=by exact dM∘CB):=h
def SO(h:A->B:=by exact b6Y∘dZ):=h
def PS(h:A->B:=by exact aBS∘a21∘lA∘Bd):=h
def SK(h:A->B:=by exact dE∘XI∘b9):=h
def Y5(h:A->B:=by exact IQ∘IQ∘dM):=h
def PT(h:A->B:=by exact dM∘rF∘cE∘RC∘b9):=h
def PU(h:A->B:=by exact dC∘dM∘rF):=h
def PV(h:A->B:=by exact aOl∘k3∘cE∘DI):=h
def SL(h:A->B:=by exact dM∘rF∘cE∘GP∘dE):=h
def Qy(h:A->B:=by exact qV∘qV):=h
def PW(h:A->B:=by exact aBS∘a21∘Vq):=h
def VP(h:A->B:=by exact l6∘jG∘cE):=h
def Y6(h:A->B:=by exact kA∘dM∘DH):=h
def SP(h:A->B:=by exact n9∘gU∘kA∘DH):=h
def SQ(h:A->B:=by exact lX∘cE):=h
def SR(h:A->B:=by exact b6U∘dZ):=h
def SS(h:A->B:=by exact eB∘cE∘RC∘b9):=h
def VR(h:A->B:=by exact hN∘gU∘u0):=h
def SU(h:A->B:=by exact gU∘cE∘GU):=h
def SV(h:A->B:=by exact r5∘nZ∘gU):=h
def SW(h:A->B:=by exact e0∘cE):=h
def VS(h:A->B:=by exact zM∘zN∘Be):=h
def Kf(h:A->B:=by exact IQ∘IQ∘jZ∘dM∘KK):=h
def VT(h:A->B:=by exact tD∘cE∘cE∘GP∘b9):=h
def Y7(h:A->B:=by exact e7∘kP∘GQ):=h
def VU(h:A->B:=by exact jG∘dM∘j8):=h
def VV(h:A->B:=by exact gU∘u0∘j3):=h
def Du(h:A->B:=by exact dM∘nG∘rF):=h
def VW(h:A->B:=by exact dC∘a22):=h
def VX(h:A->B:=by exact tD∘cE∘GQ∘b9):=h
def Kg(h:A->B:=by exact aBT∘cE∘j3∘dM∘DI):=h
def Ra(h:A->B:=by exact e7∘kP∘cE∘j3∘RC):=h
def VY(h:A->B:=by exact dC∘nG∘rF):=h
end
end Go.Proofs.YtchfclmokpbldaaGreat
