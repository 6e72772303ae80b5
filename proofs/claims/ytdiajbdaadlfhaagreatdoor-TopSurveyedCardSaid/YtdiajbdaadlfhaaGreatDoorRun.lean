-- By an AI agent; no person has read it.
import Derived.Test.YtdiajbdaadlfhaaGreatDoorTab
import Derived.Test.YtdiajbdaadlfhaaGreatDoorOwn
set_option linter.all false
set_option maxHeartbeats 4000000
variable{A B:Prop}
namespace Go.Proofs.YtdiajbdaadlfhaaGreatDoor
open Go.Aw Go Go.Proofs.Tryz
def cP{b v:Bool}{p:Prop}(h:b=v)(e:(b=v)=p:=by(try simp only[aCI,aCJ,aCK,aCL,aCM,aCN,aCO,aCP]);(first|done|exact rfl)):p:=e.mp h
section
variable{P:Program}{fn:Func}{Post:n8}{n m:Nat}{t:Nat->Value}{L E:aW}{R R':aP}{Q fH:fR}{all:Array Oper}{ty:TypeId}{pos:String}{after:Array Edge}{aC:List Oper}{d:Tmp}{g:Option (Nat×Bool)}{cQ gA:aW}{dL:List Nat}{v a:Value}{f:FuncId}{xs:List Operand}{n6:Array TypeId}{args:List Value}{Pa:aW}{hE:aP}
def cF(E:aW)(R':aP)(h:∀c n a w,mD n t a->c5 c L R w->(results fn a.tmps).run prog w=.ok v w)(aG:Post v E R')(b3:E.Sublist L:=by exact bC)(b8:∀r∈R',aN r R:=by exact oV _):fB prog fn Post .ret t L R:=kN h aG b3 b8
def eL(E:aW)(R':aP)(aG:Post v E R')(h:∀c n a w,mD n t a->c5 c L R w->(results fn a.tmps).run prog w=.ok v w:=by exact qI rfl rG)(b3:E.Sublist L:=by exact bC)(b8:∀r∈R',aN r R:=by exact oV _):fB prog fn Post .ret t L R:=kN h aG b3 b8
def m5(E:aW)(R':aP)(aG:Post v E R')(h:∀c n a w,mD n t a->c5 c L R w->(results fn a.tmps).run prog w=.ok v w:=by exact qI rfl EE)(b3:E.Sublist L:=by exact bC)(b8:∀r∈R',aN r R:=by exact oV _):fB prog fn Post .ret t L R:=kN h aG b3 b8
def aJ{x:Operand}{A B:Code}{b:Bool}{p q:Prop}(gJ:p->cO prog n A t L R Q)(aH:q->cO prog n B t L R Q)(bU:iL t x=.bool b:=by exact b2)(aG:(b=true)=p:=by(try simp only[aCI,aCJ,aCK,aCL,aCM,aCN,aCO,aCP]);(first|done|exact rfl))(bZ:(b=false)=q:=by(try simp only[aCI,aCJ,aCK,aCL,aCM,aCN,aCO,aCP]);(first|done|exact rfl)):cO prog n (.cond x A B) t L R Q:=
 a6t bU (λh=>gJ (aG.mp h)) (λh=>aH (bZ.mp h))
def eD(bX:xs.map (iL t)=args)(h:aM prog f args.toArray L R (λv E R'=>v=a/\Pa=E/\hE=R'))(k:dG prog n all aC (kD t d a) Pa hE Q)(a7:Nat.blt d n=true:=by exact rfl):dG prog n all (⟨some d,.call ⟨.value (.func f),xs.toArray,n6⟩,ty,pos,after,none⟩::aC) t L R Q:=
 dN bX h a7 λ_ _ _ ⟨dH,eH,nS⟩=>by subst dH;subst eH;subst nS;exact k
def xZ(bX:xs.map (iL t)=args)(h:aM prog f args.toArray L R (λv E R'=>v=a/\Pa=E/\hE=R'))(k:dP prog M n all cQ fH aC (kD t d a) Pa hE)(cE:n9 all t g=true:=by exact rfl)(a7:Nat.blt d n=true:=by exact rfl)(b3:cQ.Sublist Pa:=by exact bC)(b8:∀r∈R,aN r hE:=by first|exact oV _|exact(λr h=>aU (by simp[h]))):dP prog M n all cQ fH (⟨some d,.call ⟨.value (.func f),xs.toArray,n6⟩,ty,pos,after,g⟩::aC) t L R:=
 zD bX h cE a7 λ_ _ _ ⟨dH,eH,nS⟩=>by subst dH;subst eH;subst nS;exact⟨b3,b8,k⟩
def eG{lH:Type}{ws:List Nat}{t0:Nat->Value}{a7:e0 lH}{sA:Nat}(g:lH)(cM:kH ws t0 t:=by exact hM)(aF:BX t (a7.rT g):=by exact cB)(b3:(a7.L g).Sublist L:=by exact bC)(b8:∀r∈a7.R g,aN r R:=by exact oV _)(a1:a7.m g<sA:=by dsimp only;omega):e5 ws t0 a7 sA Q .normal t L R:=lP g cM aF b3 b8 a1
def zX{lH:Type}{ws:List Nat}{t0:Nat->Value}{a7:e0 lH}(g:lH)(cM:kH ws t0 t:=by exact hM)(aF:BX t (a7.rT g):=by exact cB)(b3:(a7.L g).Sublist L:=by exact bC)(b8:∀r∈a7.R g,aN r R:=by exact oV _):Yc ws t0 a7 Q .normal t L R:=s9 g cM aF b3 b8
def m6{lH:Type}{body:Code}(ws:List Nat)(a7:e0 lH)(cT:lH)(Fc:∀g c1,cO prog n body (yT (xO ws t c1) (a7.rT g)) (a7.L g) (a7.R g) (e5 ws t a7 (a7.m g) Q))(bV:BX t (a7.rT cT):=by exact cB)(b3:(a7.L cT).Sublist L:=by exact bC)(b8:∀r∈a7.R cT,aN r R:=by exact oV _):cO prog n (.loop body) t L R Q:=oM ws a7 cT bV b3 b8 Fc
def lF{lH:Type}{body:Code}(ws:List Nat)(rT:lH->List (Nat×Value))(m:lH->Nat)(cT:lH)(Fc:∀g c1,cO prog n body (yT (xO ws t c1) (rT g)) L R (e5 ws t ⟨rT,λ_=>L,λ_=>R,m⟩ (m g) Q))(bV:BX t (rT cT):=by exact cB):cO prog n (.loop body) t L R Q:=a1e ws rT m cT bV Fc
end
def cJ(h:A->B:=by exact aA (mN D9) rfl):=h
def gF(h:A->B:=by exact aA kT rfl):=h
def kZ(h:A->B:=by exact aA qY rfl):=h
def eA(h:A->B:=by exact aA (qG D9) rfl):=h
def eV(h:A->B:=by intro a;refine cC (dM ?_);exact a):=h
def dD(h:A->B:=by intro a;refine eS (bY ?_);exact a):=h
def F1(h:A->B:=by exact aA CP rfl):=h
def fD(h:A->B:=by exact aA (mN b2) rfl):=h
def iA(h:B:=by exact aSh b2 hM bC (by first|exact oV _|exact λr h=>aU (by simp[h]))):=h
def Am(h:A->B:=by exact aA Bk rfl):=h
def l5(h:A->B:=by exact aRZ M rfl rfl rfl rfl qV aK aK):=h
def rS(h:A->B:=by exact b7 kT rfl rfl rfl):=h
def iG(h:A->B:=by intro a;refine eS (bY (cC (dM ?_)));exact a):=h
def wZ(h:A->B:=by exact fE kT rfl rfl rfl rfl):=h
def j7(h:A->B:=by exact b7 (mN D9) rfl rfl rfl):=h
def tV(h:A->B:=by exact aWD rfl rfl rfl):=h
def dO(h:A->B:=by exact aW7 M rfl rfl):=h
def oE(h:A->B:=by exact aA a4j rfl):=h
def Vn(h:A->B:=by exact b7 qY rfl rfl rfl):=h
def a3q(h:A->B:=by exact fE qY rfl rfl rfl rfl):=h
def yP(h:A->B:=by intro a;refine eS ?_;exact a):=h
def mY(h:A->B:=by intro a;refine eS (bY (cC (cC (dM ?_))));exact a):=h
def nW(h:A->B:=by exact aT7 rfl rfl):=h
def e1(h:A->B:=by intro a;refine dM ?_;exact a):=h
def l6(h:A->B:=by exact aA (qG b2) rfl):=h
def DW(h:A->B:=by intro a;refine eS (bY (mE ?_));exact a):=h
def fI(h:A->B:=by intro a;refine⟨bC,oV _,?_⟩;exact a):=h
def Ga(h:A->B:=by intro a;refine eS (bY (iH ?_));exact a):=h
def A6(h:A->B:=by exact aA a4l rfl):=h
def j6(h:A->B:=by intro a;refine eS (bY (cC ?_));exact a):=h
def yO(h:A->B:=by exact aA (Qh rfl rfl) rfl):=h
def iS(h:A->B:=by exact aA (mN X2) rfl):=h
def kY(h:A->B:=by exact aA Xi rfl):=h
def vX(h:A->B:=by exact aA aCE rfl):=h
def oD(h:A->B:=by exact aA aCv rfl):=h
def zY(h:A->B:=by intro a;refine aTe ?_;exact a):=h
def jK(h:A->B:=by intro a;refine gG (bY (cC (iH (cC (dM ?_)))));exact a):=h
def An(h:A->B:=by exact b7 aCE rfl rfl rfl):=h
def Vp(h:A->B:=by exact b7 TX rfl rfl rfl):=h
def lG(h:A->B:=by exact aA TX rfl):=h
def DY(h:A->B:=by exact fE (mN D9) rfl rfl rfl rfl):=h
def uY(h:A->B:=by exact aRy rfl rfl rfl rfl qV aK aK bC):=h
def DZ(h:A->B:=by intro a;refine eS (bY (mE (i7 ?_)));exact a):=h
def x0(h:A->B:=by intro a;refine cC (cC (dM ?_));exact a):=h
def Lv(h:A->B:=by intro a;refine gG (hG (bY (dM ?_)));exact a):=h
def oS(h:A->B:=by intro a;refine oZ (oX (AF (oW (bY (cC (dM ?_))))));exact a):=h
def s0(h:A->B:=by exact b7 Xi rfl rfl rfl):=h
def gQ(h:A->B:=by exact aA qX rfl):=h
def PZ(h:A->B:=by exact aA QB rfl):=h
def k5(h:A->B:=by intro a;refine gG (bY (cC (cC (dM ?_))));exact a):=h
def Lw(h:A->B:=by exact b7 XY rfl rfl rfl):=h
def P0(h:A->B:=by exact aA X1 rfl):=h
def uZ(h:A->B:=by exact aRi rfl rfl):=h
def A8(h:A->B:=by exact aA z6 rfl):=h
def TK(h:A->B:=by intro a;refine eS (bY (mE (lO (i7 (E1 (lO (i7 ?_)))))));exact a):=h
def A9(h:A->B:=by intro a;refine jI (bY ?_);exact a):=h
def gI(h:A->B:=by intro a;refine gG (bY (cC (dM ?_)));exact a):=h
def Ao(h:A->B:=by exact UA (v:=Value.slice _ _ _) rfl rfl rfl rfl qV Bh Be aK bC):=h
def D0(h:A->B:=by exact aA (aGK rfl rfl) rfl):=h
def KV(h:A->B:=by intro a;refine jI (hG (bY (dM ?_)));exact a):=h
def NC(h:A->B:=by exact aA (Iq rfl rfl) rfl):=h
def w0(h:A->B:=by exact aA (a5E M rfl rfl rfl) rfl):=h
def DX(h:A->B:=by exact e7 (by simp only[mK,nJ];rfl)):=h
def KT(h:A->B:=by exact b7 (mN b2) rfl rfl rfl):=h
def CG(h:A->B:=by exact fE (mN X2) rfl rfl rfl rfl):=h
def NB(h:A->B:=by exact aA (UT rfl) rfl):=h
def Vo(h:A->B:=by exact b7 a4l rfl rfl rfl):=h
def XA(h:A->B:=by exact UA (v:=Value.int _ _) rfl rfl rfl rfl qV Bh Be aK bC):=h
def A7(h:A->B:=by exact b7 aCv rfl rfl rfl):=h
def Lu(h:A->B:=by exact b7 (mN X2) rfl rfl rfl):=h
def KU(h:A->B:=by intro a;refine jI (bY (cC ?_));exact a):=h
def kC(h:A->B:=by intro a;refine nM ?_ aVt;exact a):=h
def Ly(h:A->B:=by exact b7 iX rfl rfl rfl):=h
def Aq(h:A->B:=by exact fE aCv rfl rfl rfl rfl):=h
def CH(h:A->B:=by exact aA Wx rfl):=h
def TL(h:A->B:=by exact b7 (a5E M rfl rfl rfl) rfl rfl rfl):=h
def D2(h:A->B:=by intro a;refine oZ (oX (AF (oW (bY (cC (cC (dM ?_)))))));exact a):=h
def HP(h:A->B:=by exact b7 (qG D9) rfl rfl rfl):=h
def Gb(h:A->B:=by intro a;refine eS (bY (mE (i7 (lO (i7 (E1 (lO (i7 ?_))))))));exact a):=h
def D3(h:A->B:=by exact fE Xi rfl rfl rfl rfl):=h
def NE(h:A->B:=by exact fE a4j rfl rfl rfl rfl):=h
def a3r(h:A->B:=by exact aA (l7 (hB:=[]) (c9:=[_,_]) M rfl rfl rfl rfl) rfl):=h
def CI(h:A->B:=by intro a;refine gG (bY (cC ?_));exact a):=h
def XD(h:A->B:=by exact aA aCu rfl):=h
def a3s(h:A->B:=by exact YG (v:=Value.int _ _) M rfl rfl rfl rfl qV Bh Be aK):=h
def yQ(h:A->B:=by intro a;refine eS (bY (cC (cC ?_)));exact a):=h
def b6u(h:A->B:=by exact p4 kT rfl rfl rfl rfl):=h
def CJ(h:A->B:=by exact aA (Pp rfl D D) rfl):=h
def TM(h:A->B:=by exact fE (by first|exact JO M rfl rfl rfl mC (a57 bH bS rfl)|exact JO M rfl rfl rfl mC (aIV bH bS rfl)|exact JO M rfl rfl rfl mC (aIT bS)|exact JO M rfl rfl rfl mC aK) rfl rfl rfl rfl):=h
def XE(h:A->B:=by intro a;refine eS (hG (bY (dM ?_)));exact a):=h
def XF(h:A->B:=by exact fE qX rfl rfl rfl rfl):=h
def b6v(h:A->B:=by exact p4 qY rfl rfl rfl rfl):=h
def F2(h:A->B:=by exact fE (a5E M rfl rfl rfl) rfl rfl rfl rfl):=h
def XG(h:A->B:=by exact fE Wx rfl rfl rfl rfl):=h
def w1(h:A->B:=by exact g2 a4y rfl):=h
def aBs(h:A->B:=by exact YG (v:=Value.slice _ _ _) M rfl rfl rfl rfl qV Bh Be aK):=h
def aN7(h:A->B:=by exact aA aCV rfl):=h
def b6t(h:B:=by exact lP ⟨(_,_),by dsimp only;omega,by dsimp only;omega,by dsimp only;omega,e⟩ hM ⟨rfl,rfl,trivial⟩ bC eX kM):=h
def Ap(h:A->B:=by exact aA (qG X2) rfl):=h
def P1(h:A->B:=by exact b7 a4j rfl rfl rfl):=h
def ND(h:A->B:=by intro a;refine oZ (oX (AF (oW (bY (cC ?_)))));exact a):=h
def kS(h:A->B:=by exact aA (qG K8) rfl):=h
def aBr(h:A->B:=by exact fE a4l rfl rfl rfl rfl):=h
def XB(h:A->B:=by intro a;refine jI (bY (cC (cC (dM ?_))));exact a):=h
def D1(h:A->B:=by exact g2 a4k rfl):=h
def Lx(h:A->B:=by exact aA aCw rfl):=h
def XC(h:A->B:=by exact RH a4y rfl rfl rfl):=h
def Gc(h:A->B:=by exact aA (by first|exact aE3 rfl rfl D D|exact a7B rfl rfl D) rfl):=h
def D4(h:A->B:=by intro a;refine eS (bY (mE (lO (i7 ?_))));exact a):=h
def b6w(h:A->B:=by exact m9 rfl a4y rfl rfl):=h
def Gd(h:A->B:=by exact aA aQw rfl):=h
def aBv(h:A->B:=by exact fE aCE rfl rfl rfl rfl):=h
def Vq(h:A->B:=by exact b7 (rX M ((⟨Z.o,fM⟩:J cR)) rfl rfl rfl cL bS bH bS aK) rfl rfl rfl):=h
def yR(h:A->B:=by exact aA a4i rfl):=h
def a3t(h:A->B:=by exact b7 aCu rfl rfl rfl):=h
def Lz(h:A->B:=by exact aA (v7 (row:=[_,_,_,_,_,_,_,_,_,_,_,_]) M rfl rfl rfl mC aK aK) rfl):=h
def Ar(h:A->B:=by exact aA aQJ rfl):=h
def aBw(h:A->B:=by exact aA aCC rfl):=h
def a3u(h:A->B:=by exact b7 a4i rfl rfl rfl):=h
def a3v(h:A->B:=by exact m9 rfl aCZ rfl rfl):=h
def XH(h:A->B:=by exact b7 aCC rfl rfl rfl):=h
def aOa(h:A->B:=by exact b7 aCz rfl rfl rfl):=h
def aOb(h:A->B:=by exact b7 aCY rfl rfl rfl):=h
def b6x(h:A->B:=by exact aA aCz rfl):=h
def XI(h:A->B:=by exact b7 rF rfl rfl rfl):=h
def Vr(h:A->B:=by exact aA aCG rfl):=h
def aBx(h:A->B:=by exact b7 aCG rfl rfl rfl):=h
def aBy(h:A->B:=by exact b7 aQJ rfl rfl rfl):=h
def Ma(h:A->B:=by exact aA (by first|exact QQ (row:=[_,_,_,_,_]) M rfl rfl rfl i6 bS aK aK|exact v7 (row:=[_,_,_,_,_]) M rfl rfl rfl mC aK aK) rfl):=h
def aBz(h:A->B:=by exact aA (by first|exact QQ (row:=[_,_,_,_,_,_,_,_,_,_,_,_]) M rfl rfl rfl i6 bS aK aK|exact v7 (row:=[_,_,_,_,_,_,_,_,_,_,_,_]) M rfl rfl rfl mC aK aK) rfl):=h
def aOc(h:A->B:=by exact b7 aQS rfl rfl rfl):=h
def aN8(h:B:=by exact lP ⟨k+1,by omega,by omega⟩ hM ⟨rfl,rfl,trivial⟩ bC eX kM):=h
def aBt(h:A->B:=by exact fE aCC rfl rfl rfl rfl):=h
def aBu(h:A->B:=by exact fE aCG rfl rfl rfl rfl):=h
def aN9(h:A->B:=by exact fE aCx rfl rfl rfl rfl):=h
section
structure b7E(p:Prop):Prop where x:p
variable{A B:Prop}
def gB(h:A->B:=by exact gF∘kZ):=h
def jM(h:A->B:=by exact gF∘kZ∘F1):=h
def a6U(h:A->B:=by exact oE∘cJ):=h
def m0(h:A->B:=by exact oE∘cJ∘yP):=h
def oO(h:A->B:=by exact eV∘eA):=h
def fC(h:A->B:=by exact eV∘nW):=h
def p5(h:A->B:=by exact eA∘iG):=h
def pF(h:A->B:=by exact l6∘dD):=h
def E7(h:A->B:=by exact l5∘eA):=h
def nQ(h:A->B:=by exact rS∘Vn):=h
def lS(h:A->B:=by exact wZ∘a3q):=h
def gU(h:A->B:=by exact eV∘Am∘j6):=h
def h1(h:A->B:=by exact gF∘kZ∘cJ):=h
def j0(h:A->B:=by exact gQ∘F1):=h
def k2(h:A->B:=by exact gQ∘cJ):=h
def kB(h:A->B:=by exact eA∘mY):=h
def pG(h:A->B:=by exact P0∘dD):=h
def q3(h:A->B:=by exact PZ∘l6∘dD):=h
def sO(h:A->B:=by exact eA∘DW):=h
def q4(h:A->B:=by exact eA∘iG∘cJ):=h
def q5(h:A->B:=by exact Am∘fD):=h
def p6(h:A->B:=by exact l5∘iG):=h
def k9(h:A->B:=by exact Lv∘oE∘cJ∘yP):=h
def Iw(h:A->B:=by exact eA∘yP):=h
def pE(h:A->B:=by exact gF∘kZ∘F1∘cJ∘Ga):=h
def Y3(h:A->B:=by exact A8∘A8):=h
def nZ(h:A->B:=by exact gF∘kZ∘gF∘kZ):=h
def y4(h:A->B:=by exact l5∘eA∘DZ):=h
def tF(h:A->B:=by exact XE∘oE∘cJ∘yP):=h
def uG(h:A->B:=by exact eA∘DZ):=h
def r1(h:A->B:=by exact gF∘a3s):=h
def nC(h:A->B:=by exact jK∘cJ):=h
def nP(h:A->B:=by exact e1∘cJ):=h
def nD(h:A->B:=by exact Am∘dD):=h
def sP(h:A->B:=by exact l6∘DW):=h
def nR(h:A->B:=by exact x0∘cJ):=h
def E8(h:A->B:=by exact eV∘l6):=h
def AJ(h:A->B:=by exact NB∘dD):=h
def Y4(h:A->B:=by exact cJ∘oE):=h
def uI(h:A->B:=by exact l5∘mY):=h
def y5(h:A->B:=by exact l5∘DW):=h
def sQ(h:A->B:=by exact eV∘PZ∘l6∘dD):=h
def uJ(h:A->B:=by exact eV∘eA∘DZ):=h
def N9(h:A->B:=by exact Lu∘Ly):=h
def pQ(h:A->B:=by exact eA∘iG∘cJ∘P0∘dD):=h
def pR(h:A->B:=by exact eA∘Ga):=h
def vD(h:A->B:=by exact eV∘eA∘D4):=h
def q6(h:A->B:=by exact gF∘aBs):=h
def OA(h:A->B:=by exact eV∘cJ):=h
def AK(h:A->B:=by exact gF∘kZ∘Am∘fD):=h
def AL(h:A->B:=by exact PZ∘dD):=h
def Co(h:A->B:=by exact gF∘kZ∘yO):=h
def tG(h:A->B:=by exact w0∘kY):=h
def r2(h:A->B:=by exact kS∘mY):=h
def Cp(h:A->B:=by exact cJ∘oE∘eA∘yP):=h
def r3(h:A->B:=by exact gQ∘F1∘cJ∘Ga):=h
def uK(h:A->B:=by exact l6∘iG):=h
def tH(h:A->B:=by exact kS∘iG):=h
def C6(h:A->B:=by exact gF∘lG):=h
def vE(h:A->B:=by exact e1∘gQ):=h
def uH(h:A->B:=by exact rS∘Vn∘j7):=h
def yC(h:A->B:=by exact Lw∘KT):=h
def vC(h:A->B:=by exact P0∘fD):=h
def yD(h:A->B:=by exact l5∘eA∘DW):=h
def IE(h:A->B:=by exact e1∘iS):=h
def wF(h:A->B:=by exact cJ∘cJ):=h
def xF(h:A->B:=by exact l6∘mY):=h
def xG(h:A->B:=by exact gF∘gF∘kZ∘F1):=h
def Cn(h:A->B:=by exact rS∘Ao):=h
def RS(h:A->B:=by exact eV∘a3r):=h
def a0C(h:A->B:=by exact cJ∘oD):=h
def yE(h:A->B:=by exact cJ∘l5∘eA∘DZ):=h
def C7(h:A->B:=by exact Lw∘A9):=h
def y6(h:A->B:=by exact e1∘gQ∘cJ):=h
def UW(h:A->B:=by exact kS∘DW):=h
def y7(h:A->B:=by exact vX∘lG):=h
def y8(h:A->B:=by exact yO∘dD):=h
def UX(h:A->B:=by exact oS∘gQ):=h
def C8(h:A->B:=by exact A8∘A8∘kS):=h
def BP(h:A->B:=by exact l5∘iG∘gF∘kZ):=h
def BQ(h:A->B:=by exact PZ∘fD):=h
def BR(h:A->B:=by exact wZ∘a3q∘DY):=h
def GO(h:A->B:=by exact cJ∘oD∘eA∘yP):=h
def GP(h:A->B:=by exact eV∘eA∘TK):=h
def C9(h:A->B:=by exact eV∘kS):=h
def DA(h:A->B:=by exact fI∘zY):=h
def a6V(h:A->B:=by exact cJ∘yO):=h
def E9(h:A->B:=by exact eA∘j6):=h
def FA(h:A->B:=by exact eA∘mY∘cJ):=h
def FB(h:A->B:=by exact zY∘uY):=h
def FC(h:A->B:=by exact k5∘cJ):=h
def FD(h:A->B:=by exact gQ∘gF∘kZ):=h
def LQ(h:A->B:=by exact eA∘eA):=h
def UY(h:A->B:=by exact eV∘gF∘kZ):=h
def GQ(h:A->B:=by exact gF∘gF∘kZ):=h
def IG(h:A->B:=by exact oS∘eA∘DW):=h
def OB(h:A->B:=by exact NB∘fD):=h
def aWJ(h:A->B:=by exact gF∘kZ∘Am):=h
def LO(h:A->B:=by exact kS∘XE∘oE∘cJ∘yP):=h
def IF(h:A->B:=by exact NC∘dD):=h
def a0B(h:A->B:=by exact k5∘gF∘kZ):=h
def Rb(h:A->B:=by exact gI∘eA∘DW):=h
def J4(h:A->B:=by exact l5∘j6):=h
def UV(h:A->B:=by exact iG∘gF∘kZ):=h
def LP(h:A->B:=by exact lG∘l5∘DW):=h
def J5(h:A->B:=by exact fD∘NB∘dD):=h
def LR(h:A->B:=by exact wZ∘zY):=h
def J6(h:A->B:=by exact Lu∘Ly∘rS∘Vn):=h
def J7(h:A->B:=by exact kS∘kS):=h
def J8(h:A->B:=by exact eV∘dO):=h
def LS(h:A->B:=by exact k5∘gF∘kZ∘F1∘cJ∘Ga):=h
def LU(h:A->B:=by exact cJ∘XD):=h
def OC(h:A->B:=by exact iG∘iS):=h
def OD(h:A->B:=by exact wZ∘a3q∘CG):=h
def LV(h:A->B:=by exact b6u∘b6v):=h
def a6W(h:A->B:=by exact eV∘a3r∘l5∘eA):=h
def OE(h:A->B:=by exact eV∘eA∘Gb):=h
def OG(h:A->B:=by exact A8∘A8∘dO):=h
def OH(h:A->B:=by exact eV∘l6∘TK):=h
def OI(h:A->B:=by exact gI∘gQ):=h
def Rc(h:A->B:=by exact gF∘kZ∘F1∘NC):=h
def OJ(h:A->B:=by exact Vr∘kY):=h
def OK(h:A->B:=by exact kS∘j6):=h
def aI1(h:A->B:=by exact cJ∘eA∘DW):=h
def OL(h:A->B:=by exact XF∘wZ∘a3q):=h
def U0(h:A->B:=by exact rS∘Ao∘KV):=h
def RZ(h:A->B:=by exact eV∘cJ∘eA):=h
def R0(h:A->B:=by exact F1∘cJ∘Ga):=h
def aI2(h:A->B:=by exact eV∘gF):=h
def R1(h:A->B:=by exact aBw∘dO):=h
def R2(h:A->B:=by exact oS∘gQ∘kS∘DW):=h
def R3(h:A->B:=by exact uY∘HP):=h
def RT(h:A->B:=by exact eV∘l6∘DZ):=h
def UZ(h:A->B:=by exact A8∘A8∘eA):=h
def RU(h:A->B:=by exact l5∘mY∘gF∘kZ):=h
def a0D(h:A->B:=by exact HP∘HP):=h
def RV(h:A->B:=by exact l5∘DZ):=h
def RW(h:A->B:=by exact b6x∘dO):=h
def RX(h:A->B:=by exact eV∘iS):=h
def Ix(h:A->B:=by exact gF∘kZ∘F1∘yO):=h
def Y5(h:A->B:=by exact XE∘cJ∘oE∘eA∘yP):=h
def RY(h:A->B:=by exact XF∘DY):=h
def R4(h:A->B:=by exact kC∘b6w):=h
def Cq(h:A->B:=by exact Lu∘Ly∘TL):=h
def aWK(h:A->B:=by exact k5∘gF∘kZ∘PZ∘dD):=h
def U1(h:A->B:=by exact eV∘cJ∘eA∘DZ):=h
def Cr(h:A->B:=by exact gF∘kZ∘cJ∘oD):=h
def U2(h:A->B:=by exact mY∘cJ):=h
def Cs(h:A->B:=by exact Lv∘cJ∘oE∘eA∘yP):=h
def Iy(h:A->B:=by exact oS∘l6∘DW):=h
def U3(h:A->B:=by exact kY∘eA∘iG):=h
def Rd(h:A->B:=by exact oD∘gF∘a3s):=h
def Ct(h:A->B:=by exact oS∘cJ∘eA∘DW):=h
def a6X(h:A->B:=by exact gF∘kZ∘PZ):=h
def U4(h:A->B:=by exact rS∘rS∘Vn):=h
def a6Y(h:A->B:=by exact e1∘iS∘gF∘lG):=h
end
end Go.Proofs.YtdiajbdaadlfhaaGreatDoor
