--By an AI agent.
import Derived.Test.YtchfclmokpbldaaGreatTab
import Derived.Test.YtchfclmokpbldaaGreatOwn
set_option linter.all false
set_option maxHeartbeats 0
variable{A B:Prop}
namespace Go.Proofs.YtchfclmokpbldaaGreat
open Go.Aw Go Go.Proofs.Tryz
def a8{b v:Bool}{p:Prop}(h:b=v)(e:(b=v)=p:=by(try simp only[a3g,a3h,a3i,a3j,a3k,a3l,a3m,a3n]);(first|done|exact rfl)):p:=e.mp h
section
variable{P:Program}{fn:Func}{Post:oY}{n m:Nat}{t:Nat->Value}{L E:aP}{R G:aJ}{Q fO:gA}{all:Array Oper}{ty:TypeId}{pos:String}{after:Array Edge}{aB:List Oper}{d:Tmp}{g:Option (Nat×Bool)}{cL fY:aP}{bV:List Nat}{v a:Value}{f:FuncId}{xs:List Operand}{rG:Array TypeId}{args:List Value}{Zg:aP}{e4:aJ}
def bN(E:aP)(G:aJ)(h:∀c n a w,nU n t a->dL c L R w->(results fn a.tmps).run prog w=.ok v w)(hp:Post v E G)(c2:E.Sublist L:=by exact a2)(bD:∀r∈G,aH r R:=by exact mB _):e5 prog fn Post .ret t L R:=lJ h hp c2 bD
def dC(E:aP)(G:aJ)(hp:Post v E G)(h:∀c n a w,nU n t a->dL c L R w->(results fn a.tmps).run prog w=.ok v w:=by exact pG rfl GH)(c2:E.Sublist L:=by exact a2)(bD:∀r∈G,aH r R:=by exact mB _):e5 prog fn Post .ret t L R:=lJ h hp c2 bD
def lG(E:aP)(G:aJ)(hp:Post v E G)(h:∀c n a w,nU n t a->dL c L R w->(results fn a.tmps).run prog w=.ok v w:=by exact pG rfl VO)(c2:E.Sublist L:=by exact a2)(bD:∀r∈G,aH r R:=by exact mB _):e5 prog fn Post .ret t L R:=lJ h hp c2 bD
def a76{x:Operand}{A B:Code}{b:Bool}{p q:Prop}(dS:p->cH prog n A t L R Q)(hf:q->cH prog n B t L R Q)(hc:h9 t x=.bool b:=by exact aW)(hp:(b=true)=p:=by(try simp only[a3g,a3h,a3i,a3j,a3k,a3l,a3m,a3n]);(first|done|exact rfl))(hq:(b=false)=q:=by(try simp only[a3g,a3h,a3i,a3j,a3k,a3l,a3m,a3n]);(first|done|exact rfl)):cH prog n (.cond x A B) t L R Q:=
 a9P hc (λh=>dS (hp.mp h)) (λh=>hf (hq.mp h))
def W{x:Operand}{A B:Code}{b:Bool}{p q:Prop}(hc:h9 t x=.bool b:=by exact aW)(hp:(b=true)=p:=by(try simp only[a3g,a3h,a3i,a3j,a3k,a3l,a3m,a3n]);(first|done|exact rfl))(hq:(b=false)=q:=by(try simp only[a3g,a3h,a3i,a3j,a3k,a3l,a3m,a3n]);(first|done|exact rfl))(dS:p->cH prog n A t L R Q)(hf:q->cH prog n B t L R Q):cH prog n (.cond x A B) t L R Q:=a76 dS hf (hc:=hc) (hp:=hp) (hq:=hq)
def cC(ha:xs.map (h9 t)=args)(h:aI prog f args.toArray L R (λv E G=>v=a/\Zg=E/\e4=G))(k:c6 prog n all aB (j1 t d a) Zg e4 Q)(hd:Nat.blt d n=true:=by exact rfl):c6 prog n all (⟨some d,.call ⟨.value (.func f),xs.toArray,rG⟩,ty,pos,after,none⟩::aB) t L R Q:=
 aKe ha h hd λ_ _ _ ⟨dY,eY,nV⟩=>by subst dY;subst eY;subst nV;exact k
def k6(ha:xs.map (h9 t)=args)(h:aI prog f args.toArray L R (λv E G=>v=a/\Zg=E/\e4=G))(k:dP prog O n all cL fO aB (j1 t d a) Zg e4)(cV:oH all t g=true:=by exact rfl)(hd:Nat.blt d n=true:=by exact rfl)(c2:cL.Sublist Zg:=by exact a2)(bD:∀r∈R,aH r e4:=by first|exact mB _|exact(λr h=>aM (by simp[h]))):dP prog O n all cL fO (⟨some d,.call ⟨.value (.func f),xs.toArray,rG⟩,ty,pos,after,g⟩::aB) t L R:=
 q1 ha h cV hd λ_ _ _ ⟨dY,eY,nV⟩=>by subst dY;subst eY;subst nV;exact⟨c2,bD,k⟩
def dU{lZ:Type}{ws:List Nat}{k0:Nat->Value}{hd:dV lZ}{xZ:Nat}(g:lZ)(ho:lD ws k0 t:=by exact kG)(hs:DR t (hd.uP g):=by exact bP)(c2:(hd.L g).Sublist L:=by exact a2)(bD:∀r∈hd.R g,aH r R:=by exact mB _)(hm:hd.m g<xZ:=by dsimp only;omega):e1 ws k0 hd xZ Q .normal t L R:=oT g ho hs c2 bD hm
def nZ{lZ:Type}{ws:List Nat}{k0:Nat->Value}{hd:dV lZ}(g:lZ)(ho:lD ws k0 t:=by exact kG)(hs:DR t (hd.uP g):=by exact bP)(c2:(hd.L g).Sublist L:=by exact a2)(bD:∀r∈hd.R g,aH r R:=by exact mB _):a5J ws k0 hd Q .normal t L R:=VV g ho hs c2 bD
def kO{lZ:Type}{body:Code}(ws:List Nat)(hd:dV lZ)(a1:lZ)(Pa:∀g bZ,cH prog n body (B5 (AH ws t bZ) (hd.uP g)) (hd.L g) (hd.R g) (e1 ws t hd (hd.m g) Q))(bQ:DR t (hd.uP a1):=by exact bP)(c2:(hd.L a1).Sublist L:=by exact a2)(bD:∀r∈hd.R a1,aH r R:=by exact mB _):cH prog n (.loop body) t L R Q:=mC ws hd a1 bQ c2 bD Pa
def gP{lZ:Type}{body:Code}(ws:List Nat)(uP:lZ->List (Nat×Value))(m:lZ->Nat)(a1:lZ)(Pa:∀g bZ,cH prog n body (B5 (AH ws t bZ) (uP g)) L R (e1 ws t ⟨uP,λ_=>L,λ_=>R,m⟩ (m g) Q))(bQ:DR t (uP a1):=by exact bP):cH prog n (.loop body) t L R Q:=aAm ws uP m a1 bQ Pa
end
def b1(h:A->B:=by exact(aG zV ·)):=h
def eP(h:A->B:=by exact(aG sM ·)):=h
def kZ(h:A->B:=by exact(aG E1 ·)):=h
def dE(h:A->B:=by exact(aG (GN Qq) ·)):=h
def cO(h:A->B:=by intro a;refine a6 (cR ?_);exact a):=h
def b3(h:A->B:=by intro a;refine eI (aZ ?_);exact a):=h
def vV(h:A->B:=by exact(aG vZ ·)):=h
def c9(h:A->B:=by exact(aG (A2 aW) ·)):=h
def hL(h:B:=by exact b9n aW kG a2 (by first|exact mB _|exact λr h=>aM (by simp[h]))):=h
def JN(h:A->B:=by exact(aG HY ·)):=h
def i3(h:A->B:=by exact b3P O rfl rfl rfl rfl s6 aE aE):=h
def kT(h:A->B:=by exact(a4 sM ·)):=h
def lP(h:A->B:=by intro a;refine eI (aZ (a6 (cR ?_)));exact a):=h
def wL(h:A->B:=by exact(eO sM ·)):=h
def g1(h:A->B:=by exact(a4 zV ·)):=h
def kQ(h:A->B:=by exact b40 rfl rfl rfl):=h
def dA(h:A->B:=by exact b7d O rfl rfl):=h
def l8(h:A->B:=by exact(aG a25 ·)):=h
def U7(h:A->B:=by exact(a4 E1 ·)):=h
def Ps(h:A->B:=by exact(eO E1 ·)):=h
def zT(h:A->B:=by intro a;refine eI ?_;exact a):=h
def r1(h:A->B:=by intro a;refine eI (aZ (a6 (a6 (cR ?_))));exact a):=h
def iU(h:A->B:=by exact b8y rfl rfl):=h
def eK(h:A->B:=by intro a;refine cR ?_;exact a):=h
def uN(h:A->B:=by exact(aG (GN aW) ·)):=h
def F5(h:A->B:=by intro a;refine eI (aZ (iT ?_));exact a):=h
def fS(h:A->B:=by intro a;refine⟨a2,mB _,?_⟩;exact a):=h
def U6(h:A->B:=by intro a;refine eI (aZ (e3 ?_));exact a):=h
def B2(h:A->B:=by exact(aG a3a ·)):=h
def jW(h:A->B:=by intro a;refine eI (aZ (a6 ?_));exact a):=h
def F6(h:A->B:=by exact(aG YP ·)):=h
def hS(h:A->B:=by exact(aG (A2 VH) ·)):=h
def jI(h:A->B:=by exact(aG Jo ·)):=h
def sD(h:A->B:=by exact(aG a9p ·)):=h
def kP(h:A->B:=by exact(aG a9e ·)):=h
def x1(h:A->B:=by intro a;refine b4m ?_;exact a):=h
def j7(h:A->B:=by intro a;refine dK (aZ (a6 (e3 (a6 (cR ?_)))));exact a):=h
def ND(h:A->B:=by exact(a4 a9p ·)):=h
def YF(h:A->B:=by exact(a4 R9 ·)):=h
def oC(h:A->B:=by exact(aG R9 ·)):=h
def wM(h:A->B:=by exact(eO zV ·)):=h
def sE(h:A->B:=by exact b4N rfl rfl rfl rfl s6 aE aE a2):=h
def AU(h:A->B:=by intro a;refine eI (aZ (iT (gD ?_)));exact a):=h
def s2(h:A->B:=by intro a;refine a6 (a6 (cR ?_));exact a):=h
def aHo(h:A->B:=by intro a;refine dK (gV (aZ (cR ?_)));exact a):=h
def oD(h:A->B:=by intro a;refine lC (lB (tT (lA (aZ (a6 (cR ?_))))));exact a):=h
def lW(h:A->B:=by exact(a4 Jo ·)):=h
def hM(h:A->B:=by exact(aG oG ·)):=h
def Ck(h:A->B:=by exact(aG B7 ·)):=h
def iK(h:A->B:=by intro a;refine dK (aZ (a6 (a6 (cR ?_))));exact a):=h
def LH(h:A->B:=by exact(a4 VJ ·)):=h
def U8(h:A->B:=by exact(aG LR ·)):=h
def p2(h:A->B:=by exact b6d rfl rfl):=h
def EJ(h:A->B:=by exact(aG sL ·)):=h
def a77(h:A->B:=by intro a;refine eI (aZ (iT (iS (gD (wS (iS (gD ?_)))))));exact a):=h
def vW(h:A->B:=by intro a;refine gS (aZ ?_);exact a):=h
def eR(h:A->B:=by intro a;refine dK (aZ (a6 (cR ?_)));exact a):=h
def a2w(h:A->B:=by exact ZA (v:=Value.slice _ _ _) rfl rfl rfl rfl s6 Xv Xn aE a2):=h
def Cl(h:A->B:=by exact(aG (a0K rfl rfl) ·)):=h
def Cm(h:A->B:=by intro a;refine gS (gV (aZ (cR ?_)));exact a):=h
def DL(h:A->B:=by exact(aG JU ·)):=h
def k7(h:A->B:=by exact(aG Xe ·)):=h
def HR(h:A->B:=by exact mJ (by simp only[oF,m0];rfl)):=h
def tN(h:A->B:=by exact(a4 (A2 aW) ·)):=h
def DK(h:A->B:=by exact(eO (A2 VH) ·)):=h
def Cj(h:A->B:=by exact(aG (PX rfl) ·)):=h
def bGu(h:A->B:=by exact(a4 a3a ·)):=h
def Ik(h:A->B:=by exact ZA (v:=Value.int _ _) rfl rfl rfl rfl s6 Xv Xn aE a2):=h
def yZ(h:A->B:=by exact(a4 a9e ·)):=h
def Vv(h:A->B:=by exact(a4 (A2 VH) ·)):=h
def F7(h:A->B:=by intro a;refine gS (aZ (a6 ?_));exact a):=h
def kU(h:A->B:=by intro a;refine o1 ?_ b9r;exact a):=h
def Vw(h:A->B:=by exact(a4 iQ ·)):=h
def NE(h:A->B:=by exact(eO a9e ·)):=h
def y0(h:A->B:=by exact(aG Xo ·)):=h
def Il(h:A->B:=by exact(a4 Xe ·)):=h
def AV(h:A->B:=by intro a;refine lC (lB (tT (lA (aZ (a6 (a6 (cR ?_)))))));exact a):=h
def qD(h:A->B:=by exact(a4 (GN Qq) ·)):=h
def Pt(h:A->B:=by intro a;refine eI (aZ (iT (gD (iS (gD (wS (iS (gD ?_))))))));exact a):=h
def vA(h:A->B:=by exact(eO Jo ·)):=h
def PA(h:A->B:=by exact(eO a25 ·)):=h
def a78(h:A->B:=by exact(aG (mI (hN:=[]) (cU:=[_,_]) O rfl rfl rfl rfl) ·)):=h
def x2(h:A->B:=by intro a;refine dK (aZ (a6 ?_));exact a):=h
def RW(h:A->B:=by exact(aG aIP ·)):=h
def a79(h:A->B:=by exact Sn (v:=Value.int _ _) O rfl rfl rfl rfl s6 Xv Xn aE):=h
def y1(h:A->B:=by intro a;refine eI (aZ (a6 (a6 ?_)));exact a):=h
def aHq(h:A->B:=by exact(m5 sM ·)):=h
def x3(h:A->B:=by exact(aG Qw ·)):=h
def YG(h:A->B:=by exact(eO (by first|exact P8 O rfl rfl rfl o0 (a9I bI bC rfl)|exact P8 O rfl rfl rfl o0 (aJT bI bC rfl)|exact P8 O rfl rfl rfl o0 (aLD bC)|exact P8 O rfl rfl rfl o0 aE) ·)):=h
def Vx(h:A->B:=by intro a;refine eI (gV (aZ (cR ?_)));exact a):=h
def Vy(h:A->B:=by exact(eO oG ·)):=h
def bGx(h:A->B:=by exact(m5 E1 ·)):=h
def EM(h:A->B:=by exact(eO Xe ·)):=h
def Cn(h:A->B:=by exact(eO Xo ·)):=h
def zU(h:A->B:=by exact gO a81 rfl):=h
def Vz(h:A->B:=by exact Sn (v:=Value.slice _ _ _) O rfl rfl rfl rfl s6 Xv Xn aE):=h
def aU8(h:A->B:=by exact(aG aIu ·)):=h
def bGv(h:B:=by exact oT ⟨(_,_),by dsimp only;omega,by dsimp only;omega,by dsimp only;omega,e⟩ kG ⟨rfl,rfl,trivial⟩ a2 fF k1):=h
def U9(h:A->B:=by exact(aG (GN VH) ·)):=h
def EK(h:A->B:=by exact(a4 a25 ·)):=h
def O9(h:A->B:=by intro a;refine lC (lB (tT (lA (aZ (a6 ?_)))));exact a):=h
def jS(h:A->B:=by exact(aG A0 ·)):=h
def aHp(h:A->B:=by exact(eO a3a ·)):=h
def LI(h:A->B:=by intro a;refine gS (aZ (a6 (a6 (cR ?_))));exact a):=h
def EL(h:A->B:=by exact gO a3o rfl):=h
def bGw(h:A->B:=by exact(aG aIS ·)):=h
def VA(h:A->B:=by exact MG a81 rfl rfl rfl):=h
def Im(h:A->B:=by exact(aG (by first|exact aMF rfl rfl D D|exact aAS rfl rfl D) ·)):=h
def NF(h:A->B:=by intro a;refine eI (aZ (iT (iS (gD ?_))));exact a):=h
def In(h:A->B:=by exact pO rfl a81 rfl rfl):=h
def PB(h:A->B:=by exact(aG aYv ·)):=h
def a2x(h:A->B:=by exact(eO a9p ·)):=h
def a2y(h:A->B:=by exact(a4 (qK O ((⟨aD.o,fN⟩:J eL)) rfl rfl rfl c0 bC bI bC aE) ·)):=h
def B3(h:A->B:=by exact(aG a24 ·)):=h
def Co(h:A->B:=by exact(a4 aIP ·)):=h
def Wa(h:A->B:=by exact(aG (yB (row:=[_,_,_,_,_,_,_,_,_,_,_,_]) O rfl rfl rfl o0 aE aE) ·)):=h
def aHs(h:A->B:=by exact(m5 a9e ·)):=h
def Pu(h:A->B:=by exact(aG aZc ·)):=h
def bGy(h:A->B:=by exact(aG aI2 ·)):=h
def Wb(h:A->B:=by exact(a4 a24 ·)):=h
def a8b(h:A->B:=by exact pO rfl aIq rfl rfl):=h
def YH(h:A->B:=by exact(a4 aI2 ·)):=h
def Cp(h:A->B:=by exact(a4 a9f ·)):=h
def bGz(h:A->B:=by exact(a4 a9s ·)):=h
def aVc(h:A->B:=by exact(aG a9f ·)):=h
def aHt(h:A->B:=by exact(a4 qH ·)):=h
def Io(h:A->B:=by exact(aG a9i ·)):=h
def aHu(h:A->B:=by exact(a4 a9i ·)):=h
def PC(h:A->B:=by exact(a4 aZc ·)):=h
def bGA(h:A->B:=by exact(aG aY4 ·)):=h
def aHv(h:A->B:=by exact(aG (by first|exact Y4 (row:=[_,_,_,_,_,_,_,_,_,_,_,_]) O rfl rfl rfl jC bC aE aE|exact yB (row:=[_,_,_,_,_,_,_,_,_,_,_,_]) O rfl rfl rfl o0 aE aE) ·)):=h
def aVd(h:A->B:=by exact(a4 aZD ·)):=h
def aVa(h:B:=by exact oT ⟨k+1,by omega,by omega⟩ kG ⟨rfl,rfl,trivial⟩ a2 fF k1):=h
def aHr(h:A->B:=by exact(eO aI2 ·)):=h
def a8a(h:A->B:=by exact(eO a9i ·)):=h
def aVb(h:A->B:=by exact(eO aIW ·)):=h
section
structure bIg(p:Prop):Prop where x:p
variable{A B:Prop}
def fH(h:A->B:=by exact eP∘kZ):=h
def z1(h:A->B:=by exact dE∘AU):=h
def lM(h:A->B:=by exact eP∘kZ∘vV):=h
def iI(h:A->B:=by exact kT∘U7):=h
def WD(h:A->B:=by exact dE∘zT):=h
def c8(h:A->B:=by exact cO∘iU):=h
def z2(h:A->B:=by exact b1∘l8):=h
def q3(h:A->B:=by exact dE∘F5):=h
def gE(h:A->B:=by exact eP∘kZ∘b1):=h
def mL(h:A->B:=by exact dE∘lP):=h
def h7(h:A->B:=by exact hM∘b1):=h
def rN(h:A->B:=by exact cO∘dE):=h
def N7(h:A->B:=by exact b1∘l8∘dE∘zT):=h
def nO(h:A->B:=by exact hM∘vV):=h
def g7(h:A->B:=by exact dE∘r1):=h
def l1(h:A->B:=by exact wL∘Ps):=h
def A7(h:A->B:=by exact s2∘b1):=h
def D1(h:A->B:=by exact JN∘b3):=h
def qP(h:A->B:=by exact U8∘b3):=h
def b7g(h:A->B:=by exact l8∘b1):=h
def uX(h:A->B:=by exact l8∘b1∘zT):=h
def mM(h:A->B:=by exact dE∘U6):=h
def CI(h:A->B:=by exact JN∘c9):=h
def zF(h:A->B:=by exact uN∘b3):=h
def pQ(h:A->B:=by exact dE∘lP∘b1):=h
def q4(h:A->B:=by exact i3∘dE∘AU):=h
def m1(h:A->B:=by exact cO∘dE∘AU):=h
def v8(h:A->B:=by exact Ck∘uN∘b3):=h
def h2(h:A->B:=by exact cO∘JN∘jW):=h
def ZT(h:A->B:=by exact b1∘U6):=h
def oV(h:A->B:=by exact kT∘U7∘g1):=h
def aOE(h:A->B:=by exact cO∘uN):=h
def mT(h:A->B:=by exact Ck∘b3):=h
def kJ(h:A->B:=by exact eP∘kZ∘eP∘kZ):=h
def mD(h:A->B:=by exact aHo∘b1∘l8∘dE∘zT):=h
def S1(h:A->B:=by exact EJ∘EJ):=h
def kB(h:A->B:=by exact dE∘lP∘b1∘U8∘b3):=h
def mU(h:A->B:=by exact LH∘tN):=h
def sW(h:A->B:=by exact k7∘jI):=h
def m2(h:A->B:=by exact LH∘vW):=h
def oW(h:A->B:=by exact Cj∘b3):=h
def rP(h:A->B:=by exact i3∘lP):=h
def r7(h:A->B:=by exact eP∘a79):=h
def r8(h:A->B:=by exact eP∘kZ∘JN∘c9):=h
def v9(h:A->B:=by exact uN∘F5):=h
def p8(h:A->B:=by exact eK∘b1):=h
def wA(h:A->B:=by exact i3∘F5):=h
def Ey(h:A->B:=by exact eP∘kZ∘vV∘JN∘b3):=h
def rQ(h:A->B:=by exact i3∘r1):=h
def oX(h:A->B:=by exact cO∘Ck∘uN∘b3):=h
def Lc(h:A->B:=by exact eP∘kZ∘F6):=h
def pI(h:A->B:=by exact i3∘dE∘F5):=h
def yF(h:A->B:=by exact cO∘b1):=h
def uY(h:A->B:=by exact eP∘Vz):=h
def r9(h:A->B:=by exact eP∘kZ∘vV∘b1∘U6):=h
def S2(h:A->B:=by exact b1∘kP):=h
def n6(h:A->B:=by exact aHo∘l8∘b1∘zT):=h
def A8(h:A->B:=by exact cO∘dE∘NF):=h
def oJ(h:A->B:=by exact s2∘b1∘eP∘kZ∘vV∘JN∘b3):=h
def yG(h:A->B:=by exact jS∘jS):=h
def pS(h:A->B:=by exact b1∘b1):=h
def S0(h:A->B:=by exact Vv∘Vw):=h
def pR(h:A->B:=by exact j7∘b1):=h
def p7(h:A->B:=by exact x1∘sE):=h
def rO(h:A->B:=by exact U8∘c9):=h
def wW(h:A->B:=by exact sD∘oC):=h
def GV(h:A->B:=by exact Vx∘b1∘l8∘dE∘zT):=h
def GW(h:A->B:=by exact iK∘eP∘kZ):=h
def WE(h:A->B:=by exact b1∘JN∘c9):=h
def tZ(h:A->B:=by exact b1∘i3∘dE∘AU):=h
def tC(h:A->B:=by exact Ck∘c9):=h
def xE(h:A->B:=by exact cO∘dE∘a77):=h
def ZU(h:A->B:=by exact b1∘kP∘dE∘zT):=h
def z4(h:A->B:=by exact Cm∘b1∘l8∘dE∘zT):=h
def z5(h:A->B:=by exact jS∘r1):=h
def aOF(h:A->B:=by exact hM∘vV∘JN∘b3):=h
def Sg(h:A->B:=by exact kT∘a2w):=h
def wB(h:A->B:=by exact Vx∘l8∘b1∘zT):=h
def BA(h:A->B:=by exact F6∘b3):=h
def GX(h:A->B:=by exact dE∘uN):=h
def uA(h:A->B:=by exact s2∘b1∘hM∘vV∘JN∘b3):=h
def S3(h:A->B:=by exact eR∘dE∘F5):=h
def vG(h:A->B:=by exact jS∘lP):=h
def wC(h:A->B:=by exact eK∘hM):=h
def GY(h:A->B:=by exact DL∘b3):=h
def aOG(h:A->B:=by exact eP∘kZ∘JN):=h
def wX(h:A->B:=by exact sE∘qD):=h
def GZ(h:A->B:=by exact oD∘dE∘F5):=h
def xF(h:A->B:=by exact fS∘x1):=h
def S4(h:A->B:=by exact jS∘F5):=h
def FC(h:A->B:=by exact cO∘uN∘a77):=h
def yH(h:A->B:=by exact eK∘hM∘b1):=h
def BB(h:A->B:=by exact hM∘eP∘kZ):=h
def S5(h:A->B:=by exact oD∘hM):=h
def zG(h:A->B:=by exact dE∘jW):=h
def zH(h:A->B:=by exact iK∘dE∘U6):=h
def a5g(h:A->B:=by exact b1∘F6):=h
def z3(h:A->B:=by exact eP∘eP∘kZ∘vV):=h
def A9(h:A->B:=by exact eK∘hS):=h
def CJ(h:A->B:=by exact Il∘lW):=h
def CK(h:A->B:=by exact j7∘eP∘kZ∘b1):=h
def N8(h:A->B:=by exact kZ∘vV):=h
def CL(h:A->B:=by exact i3∘lP∘eP∘kZ):=h
def a0h(h:A->B:=by exact b1∘dE∘F5):=h
def CM(h:A->B:=by exact eP∘oC):=h
def N9(h:A->B:=by exact cO∘eP∘kZ):=h
def FB(h:A->B:=by exact i3∘AU):=h
def S6(h:A->B:=by exact oC∘i3∘F5):=h
def Ld(h:A->B:=by exact dE∘NF):=h
def CN(h:A->B:=by exact wL∘Ps∘wM):=h
def IU(h:A->B:=by exact cO∘dE∘Pt):=h
def S7(h:A->B:=by exact eP∘kZ∘vV∘F6):=h
def G3(h:A->B:=by exact eP∘a79∘lP):=h
def Ez(h:A->B:=by exact dE∘r1∘b1):=h
def D2(h:A->B:=by exact hM∘vV∘b1∘U6):=h
def IV(h:A->B:=by exact cO∘dA):=h
def Le(h:A->B:=by exact b1∘JN∘b3):=h
def aOH(h:A->B:=by exact eP∘kZ∘vV∘DL):=h
def WF(h:A->B:=by exact oD∘uN∘F5):=h
def FD(h:A->B:=by exact eP∘eP∘kZ∘b1):=h
def FE(h:A->B:=by exact eP∘eP∘kZ):=h
def FF(h:A->B:=by exact g1∘aHt):=h
def FG(h:A->B:=by exact jS∘jW):=h
def S8(h:A->B:=by exact cO∘b1∘dE∘AU):=h
def OA(h:A->B:=by exact cO∘uN∘AU):=h
def aCo(h:A->B:=by exact iK∘eP∘kZ∘Ck∘b3):=h
def aCp(h:A->B:=by exact cO∘eP):=h
def IW(h:A->B:=by exact b1∘eP∘kZ):=h
def MF(h:A->B:=by exact Cj∘c9):=h
def G4(h:A->B:=by exact hS∘b1):=h
def G5(h:A->B:=by exact i3∘jW):=h
def G6(h:A->B:=by exact i3∘r1∘eP∘kZ):=h
def G7(h:A->B:=by exact EJ∘EJ∘dA):=h
def G0(h:A->B:=by exact AV∘dE∘U6):=h
def G1(h:A->B:=by exact eR∘hM):=h
def IM(h:A->B:=by exact aHq∘bGx):=h
def G2(h:A->B:=by exact Vy∘wM):=h
def IP(h:A->B:=by exact wL∘Ps∘DK):=h
def a5h(h:A->B:=by exact wL∘x1):=h
def IQ(h:A->B:=by exact uN∘r1):=h
def QN(h:A->B:=by exact eR∘hM∘b1):=h
def ME(h:A->B:=by exact jS∘jS∘dE∘AU):=h
def IR(h:A->B:=by exact Vv∘Vw∘Il):=h
def KI(h:A->B:=by exact fS∘kT∘a2w):=h
def KJ(h:A->B:=by exact jS∘y1):=h
def WH(h:A->B:=by exact oD∘b1∘dE∘F5):=h
def KK(h:A->B:=by exact kT∘U7∘g1∘aHt):=h
def KL(h:A->B:=by exact dE∘r1∘eP∘kZ):=h
def QT(h:A->B:=by exact eP∘Vz∘lP):=h
def OB(h:A->B:=by exact iK∘b1∘JN∘c9):=h
def OC(h:A->B:=by exact b1∘RW):=h
def TB(h:A->B:=by exact jS∘Vx∘b1∘l8∘dE∘zT):=h
def OD(h:A->B:=by exact dE∘y1):=h
def Sh(h:A->B:=by exact k7∘jI∘U8):=h
def QU(h:A->B:=by exact uN∘lP):=h
def OE(h:A->B:=by exact kT∘kT∘U7):=h
def TC(h:A->B:=by exact cO∘hM∘b1):=h
def OG(h:A->B:=by exact eK∘dE∘U6):=h
def TD(h:A->B:=by exact cO∘jS):=h
def WI(h:A->B:=by exact dE∘a77):=h
def Fa(h:A->B:=by exact hM∘vV∘DL):=h
def OH(h:A->B:=by exact aVc∘dA):=h
def a5i(h:A->B:=by exact eP∘kZ∘b1∘kP):=h
def TE(h:A->B:=by exact k7∘jI∘b1):=h
def QV(h:A->B:=by exact wL∘Ps∘wL∘Ps):=h
def OI(h:A->B:=by exact bGy∘dA):=h
def QW(h:A->B:=by exact eK∘eP∘kZ):=h
def a0i(h:A->B:=by exact b1∘eP∘kZ∘vV∘DL):=h
def a5j(h:A->B:=by exact eP∘kZ∘U8):=h
def QO(h:A->B:=by exact cO∘uN∘lP):=h
def S9(h:A->B:=by exact Cl∘b3):=h
def aOI(h:A->B:=by exact eP∘kZ∘vV∘U8):=h
def QP(h:A->B:=by exact Vy∘wL∘Ps):=h
def QQ(h:A->B:=by exact hM∘vV∘kP):=h
def QR(h:A->B:=by exact iK∘eP∘kZ∘vV):=h
def QS(h:A->B:=by exact iK∘eP∘kZ∘vV∘b1∘U6):=h
def WG(h:A->B:=by exact kT∘U7∘g1∘bGu):=h
def TA(h:A->B:=by exact wL∘x1∘Ik):=h
def aOJ(h:A->B:=by exact i3∘dE∘NF):=h
def TF(h:A->B:=by exact s2∘b1∘b1∘JN∘b3):=h
def ZZ(h:A->B:=by exact Vx∘b1∘kP∘dE∘zT):=h
def TG(h:A->B:=by exact oD∘hM∘jS∘F5):=h
def TH(h:A->B:=by exact hM∘hM∘b1):=h
def WJ(h:A->B:=by exact bGA∘dA):=h
def TI(h:A->B:=by exact Vv∘Vw∘kT∘U7):=h
def WK(h:A->B:=by exact c9∘Cj∘b3):=h
def Fc(h:A->B:=by exact EJ∘EJ∘dE):=h
def TJ(h:A->B:=by exact dE∘r1∘b1∘U8∘b3):=h
def TK(h:A->B:=by exact cO∘dE∘r1):=h
def TL(h:A->B:=by exact Cm∘l8∘b1∘zT):=h
def WL(h:A->B:=by exact dE∘r1∘b1∘JN∘c9):=h
def a0k(h:A->B:=by exact qD∘qD):=h
def TM(h:A->B:=by exact cO∘uN∘r1):=h
def WM(h:A->B:=by exact lP∘hS):=h
def WN(h:A->B:=by exact jS∘r1∘dE∘U6):=h
def WO(h:A->B:=by exact j7∘hS):=h
def Fe(h:A->B:=by exact EJ∘EJ∘jS):=h
def WP(h:A->B:=by exact kT∘U7∘kT∘U7):=h
def WQ(h:A->B:=by exact bGw∘dA):=h
def WR(h:A->B:=by exact lP∘hM):=h
def WS(h:A->B:=by exact eK∘b1∘U8∘b3):=h
def Z0(h:A->B:=by exact iK∘hM∘vV):=h
def WT(h:A->B:=by exact hM∘b1∘zU):=h
def WU(h:A->B:=by exact sD∘oC∘hM):=h
def WV(h:A->B:=by exact eR∘b1):=h
def a5k(h:A->B:=by exact a2w∘kT∘a2w):=h
def aOK(h:A->B:=by exact EJ∘EJ∘i3∘dE∘NF):=h
def ZV(h:A->B:=by exact s2∘b1∘F6∘b3):=h
def Fb(h:A->B:=by exact hM∘hM):=h
def ZW(h:A->B:=by exact jI∘dE∘lP):=h
def Lf(h:A->B:=by exact lW∘yZ):=h
def Lg(h:A->B:=by exact dE∘uN∘r1):=h
def ZX(h:A->B:=by exact cO∘a78):=h
def ZY(h:A->B:=by exact s2∘b1∘DL∘b3):=h
def a0j(h:A->B:=by exact aHo∘b1∘kP∘dE∘zT):=h
def Si(h:A->B:=by exact oD∘oC∘i3∘F5):=h
def a0l(h:A->B:=by exact eP∘kZ∘b1∘kP∘U8):=h
end
end Go.Proofs.YtchfclmokpbldaaGreat
