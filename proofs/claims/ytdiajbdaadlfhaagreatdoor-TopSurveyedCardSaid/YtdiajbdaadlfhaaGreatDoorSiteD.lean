/-
  Merged texts. By an AI agent.
-/
import Derived.Test.YtdiajbdaadlfhaaGreatDoorWinR
import Derived.Test.YtdiajbdaadlfhaaGreatDoorCongrS
import Derived.Test.YtdiajbdaadlfhaaGreatDoorSiteS
import Derived.Test.YtdiajbdaadlfhaaGreatDoorFans
import Derived.Test.YtdiajbdaadlfhaaGreatDoorData
import Derived.Test.YtdiajbdaadlfhaaGreatDoorOwn
import Derived.Test.YtdiajbdaadlfhaaGreatDoorFits
set_option linter.all false
set_option maxHeartbeats 4000000
set_option maxRecDepth 20000
variable{A B:Prop}
namespace Go.Proofs.YtdiajbdaadlfhaaGreatDoor
open Go.Aw Go Go.Proofs.Tryz
section
attribute [local irreducible] cO dG dP aM cI dR fA e2 e5 fB eQ e9 J.L
def a63(h:A->B:=by exact aA EC rfl):=h
def aFR(h:B:=by exact⟨by rw[o0,if_neg D,if_neg D,if_neg D,if_neg D,if_neg D,e],rfl,rfl⟩):=h
def aGB(h:A->B:=by exact fE aQL rfl rfl rfl rfl):=h
def aEh{e:Int}(h:e=0):yL e=none:=by rw[yL,if_pos h]
def a7W{e:Int}(h:e≠0):yL e=some e:=by rw[yL,if_neg h]
abbrev aID(s:dY):rK->Option Int:=λc=>yL (LD s.e8.l s.c2.aE.Z.l.length c)
abbrev aH8(s:dY):kJ->Option Int:=λz=>yL (DF s.h2.l.length s.c2.aE.Z.l.length z)
abbrev Yf:Int->Option Int:=λp=>if p<1\/3<p then some 19 else none
def Yy(s:dY)(L:aW)(R:aP)(aF:BN s R):
 aM prog 78 [s.val].toArray L R (λv E R'=>v=.int .i64 (o0 s)/\L=E/\R=R'):=by
 have pK:=aF.e8;have PK:=aF.h2;have FW:=aF.b0;have Z5:=aF.m4;refine cX 90 call78 func78 rfl rfl rfl ?_;apply(fC);intro fT;apply kB∘gF∘vX;refine eD rfl (Ym s.c2 _ _ aF.c2) ?_;apply(pQ);refine aJ ?_ ?_<;>intro bI;·apply(U1);refine eL L R ?_;exact⟨by rw[o0,if_pos bI],rfl,rfl⟩
 apply k5∘Ix∘fD;apply dT (aD:=[_,_,_,_]) (j:=4) (b4:=23) rfl rfl aK rfl b2 rfl;·exact Wr
 intro DU;apply(fD);apply dT (aD:=[_,_,_,_]) (j:=10) (b4:=29) rfl rfl aK rfl b2 rfl;·intro HB;replace HB:=cP HB;exact(Ix) iA
 intro aNc;apply(fD);apply dT (aD:=[_,_,_,_]) (j:=16) (b4:=35) rfl rfl aK rfl b2 rfl;·intro ZW;replace ZW:=cP ZW;exact(Ix) iA
 intro aNe;apply(dD);refine aJ ?_ ?_<;>intro cK;·apply(uJ);refine eL L R ?_;exact⟨by rw[o0,if_neg D,if_pos D],rfl,rfl⟩
 apply k5∘a63;refine eD rfl (aXg s _ _ pK D) ?_;apply(pQ);refine aJ ?_ ?_<;>intro dE;·apply(U1);refine eL L R ?_;exact⟨by rw[o0,if_neg D,if_neg D,if_pos dE],rfl,rfl⟩
 apply(LS);refine e3 [(1,.pointer _),(47,.slice _ _ _),(48,.int _ _),(49,.int _ _)] cB λg9=>?_;refine lF ([2,6,7]++dJ 49 11) (λg:FS (aID s) (s.h2.l)=>[(49,.int .i64 ((g.1:Nat):Int))]) (λg=>(s.h2.l).length-g.1) ⟨0,N5 _ _⟩ ?_;rintro⟨jJ,SW,i1⟩ c1;try dsimp only
 apply(gU);refine aJ ?_ ?_<;>intro gZ;·
  obtain⟨c,bU⟩:=lQ (l:=s.h2.l) (k:=jJ) D;apply(jK);refine aA Nq rfl ?_;refine aA aQF rfl ?_;apply(dO);intro jN;apply p6∘a63;refine aA (v7 (row:=[_,_,_,_,_,_]) M rfl rfl rfl mC aK aK) rfl ?_;refine eD rfl (aZN s c _ _ pK D) ?_;apply(pQ);refine aJ ?_ ?_<;>intro fW;·apply RZ∘TK;refine eL L R ?_;(have e:UG s=LD s.e8.l s.c2.aE.Z.l.length c:=by rw[UG,GV (f:=aID s) i1 bU (a7W fW)];rfl);exact⟨by rw[o0,if_neg D,if_neg D,if_neg D,if_pos (by rw[e];exact fW),e],rfl,rfl⟩
  apply(k9);exact eG ⟨jJ+1,LH i1 bU (aEh D)⟩
 have uT:=LI i1 D;refine oZ (oX (AF (oW (bY (cC (cC ?_))))));have xP:UG s=0:=by rw[UG,uT];rfl
 apply e1∘pE;refine e3 [(1,.pointer _),(61,.slice _ _ _),(62,.int _ _),(63,.int _ _)] cB λs4=>?_;refine lF ([2,9,10]++dJ 63 11) (λg:FS (aH8 s) (s.b0.l)=>[(63,.int .i64 ((g.1:Nat):Int))]) (λg=>(s.b0.l).length-g.1) ⟨0,N5 _ _⟩ ?_;rintro⟨g8,g6,n3⟩ c1;try dsimp only
 apply(gU);refine aJ ?_ ?_<;>intro lJ;·
  obtain⟨z,dI⟩:=lQ (l:=s.b0.l) (k:=g8) D;apply(jK);refine aA aCF rfl ?_;apply(RW);intro jB;apply p6∘a63∘vX;refine eD rfl (aRw s z _ _ (aN.mB FW dI) (aN.aC1 FW dI)) ?_;apply(pQ);refine aJ ?_ ?_<;>intro kK;·apply RZ∘TK;refine eL L R ?_;(have e:KA s=DF s.h2.l.length s.c2.aE.Z.l.length z:=by rw[KA,GV (f:=aH8 s) n3 dI (a7W kK)];rfl);exact⟨by rw[o0,if_neg D,if_neg D,if_neg D,if_neg D,if_pos (by rw[e];exact kK),e],rfl,rfl⟩
  apply(k9);exact eG ⟨g8+1,LH n3 dI (aEh D)⟩
 have FT:=LI n3 D;refine oZ (oX (AF (oW (bY (cC (cC ?_))))));have bAn:KA s=0:=by rw[KA,FT];rfl
 apply e1∘pE;refine e3 [(75,.slice _ _ _),(76,.int _ _),(77,.int _ _)] cB λGg=>?_;refine lF ([2,12]++dJ 77 13) (λg:FS (Yf) (s.m4.l)=>[(77,.int .i64 ((g.1:Nat):Int))]) (λg=>(s.m4.l).length-g.1) ⟨0,N5 _ _⟩ ?_;rintro⟨eK,j4,DS⟩ c1;try dsimp only
 apply(gU);refine aJ ?_ ?_<;>intro qM;·
  obtain⟨p,aG⟩:=lQ (l:=s.m4.l) (k:=eK) D;apply(jK);refine aA aCD rfl ?_;refine aA (by first|exact QQ (row:=[_]) M rfl rfl rfl i6 bS aK aK|exact v7 (row:=[_]) M rfl rfl rfl mC aK aK) rfl ?_;apply(dO);intro rM;apply p6∘AK;apply dT (aD:=[_,_,_]) (j:=3) (b4:=84) rfl rfl aK rfl b2 rfl;·exact QG
  intro m2;apply(dD);refine aJ ?_ ?_<;>intro MR;·apply(GP);refine eL L R ?_;(have e:Bo s=19:=by rw[Bo,GV (f:=Yf) DS aG (show Yf p=some 19 from if_pos MR)];rfl);exact aFR
  apply(k9);exact eG ⟨eK+1,LH DS aG (show Yf p=none from if_neg D)⟩
 have A1:=LI DS D;apply(IG);refine eL L R ?_;have e:Bo s=0:=by rw[Bo,A1];rfl
 exact aFR
def aGH(s:dY)(m:bP e6)(n t:Int)(L:aW)(R:aP)(aF:aN (L0 s.e8) R)(a1:aN (hV m) R)(bM:∀x∈m.l,H4 x)(gJ:0<=t/\t<=2147483648):
 aM prog 165 [s.val,m.val,.int .i64 n,.int .i64 t].toArray L R (λv E R'=>v=(GM s.e8.l m.l n t).val/\L=E/\R=R'):=by
 refine cX 42 call165 func165 rfl rfl rfl ?_;apply(fC);intro dU;apply(dO);intro mF;apply U2∘jM;refine eD rfl (Ox n (s.e8.l.length:Int) _ _) ?_;apply(OB);apply dT (aD:=[_,_,_,_]) (j:=6) (b4:=15) rfl rfl aK rfl b2 rfl;·intro n1;replace n1:=cP n1;exact(cJ∘j0) NN
 intro Af;apply(fD);apply dT (aD:=[_,_,_,_,_,_,_]) (j:=12) (b4:=21) rfl rfl aK rfl b2 rfl;·
  intro xR;replace xR:=cP xR;have SY:=bR (l:=m.l) (k:=n.toNat) default (by(try simp at xR);omega);apply(k2);have Ua:0<=n/\n<m.l.length:=by(try simp at xR);omega
  refine aA aQL rfl ?_;exact(tG∘cJ) v6
 intro aNd;apply(dD);refine aJ ?_ ?_<;>intro bI;·apply(eV);refine eD rfl (RF _ _) ?_;apply(RV);refine cF L R mM ?_;exact⟨by rw[GM,if_neg D],rfl,rfl⟩
 have SY:=bR (l:=m.l) (k:=n.toNat) default D;have S6:=bR (l:=s.e8.l) (k:=n.toNat) default D;have b3g:=bM _ (hS SY);apply(CI);refine jV M [] [0,1,2,3,4,5,6,7,8,9,10] [11] ([bQ.mk mF _ _,bQ.mk dU _ _]) _ mixed aQ bC (by(repeat(first|apply List.Sublist.cons (a:=bQ.mk mF _ _)|apply List.Sublist.cons_cons));exact oU _) ?_;apply BR∘aGB;refine fE Np rfl rfl rfl rfl ?_;apply RY∘aGB;refine fE aCz rfl rfl rfl rfl ?_;apply(DY);refine mW rfl (aF6 _ _ t _ _ b3g gJ) rfl rfl ?_;rintro v E R' ⟨rfl,rfl,rfl⟩;refine⟨bC,hC,?_⟩;apply(FB);refine jI (bY (mE ?_));refine cF L R mM ?_;exact⟨by rw[GM,if_pos D],rfl,rfl⟩
def aRz(x:bG)(L:aW)(R:aP):
 aM prog 169 [x.val].toArray L R (λv E R'=>v=.int .i64 (Po x)/\L=E/\R=R'):=by
 refine cX 27 call169 func169 rfl rfl rfl ?_;apply(fC);intro fT;apply(eA);refine eS (bY (cC (iH (cC (dM ?_)))));apply nZ∘yO∘pF;refine aJ ?_ ?_<;>intro bI;·apply(vD);refine eL L R ?_;exact a3V
 apply UY∘BQ;apply lR (aD:=[_,_,_]) (j:=3) (b4:=13) rfl rfl aK rfl b2 rfl;·exact a4q
 intro m2;apply(pF);refine aJ ?_ ?_<;>intro cK;·apply(vD);refine eL L R ?_;exact a3V
 apply eV∘Co∘fD;apply dT (aD:=[_,_,_]) (j:=3) (b4:=22) rfl rfl aK rfl b2 rfl;·intro fV;replace fV:=cP fV;exact T2
 intro m2;apply(pF);refine aJ ?_ ?_<;>intro dE;·apply(vD);refine eL L R ?_;exact a3V
 refine gG (hG (bY (cC (dM ?_))));apply(sO);refine eL L R ?_;exact a3V
def aZD(c:rK)(w:gW)(x:bG)(L:aW)(R:aP):
 aM prog 167 [c.val,w.val,x.val].toArray L R (λv E R'=>v=.int .i64 (if w.over=false then -1 else if CW x c.r9.cut=1 then 1 else 0)/\L=E/\R=R'):=by
 refine cX 18 call167 func167 rfl rfl rfl ?_;apply(fC);intro e4;apply(nW);intro dU;apply(nW);intro fK;apply(eA);refine eS (bY (cC (iH (cC (dM ?_)))));apply gB∘NB∘pF;refine aJ ?_ ?_<;>intro bI;·apply(vD);refine eL L R ?_;exact⟨by rw[if_pos EA],rfl,rfl⟩
 apply eV∘lG∘GQ;refine eD rfl (a7O x c.r9.cut _ _) ?_;apply(q3);refine aJ ?_ ?_<;>intro cK;·apply(vD);refine eL L R ?_;exact⟨by rw[if_neg EA,if_pos cK],rfl,rfl⟩
 refine gG (hG (bY (cC (dM ?_))));apply(sO);refine eL L R ?_;exact⟨by rw[if_neg EA,if_neg cK],rfl,rfl⟩
def a0Y(h:A->B:=by exact fE aP0 rfl rfl rfl rfl):=h
def a6c(h:A->B:=by exact aA (by first|exact j9 M rfl rfl rfl rfl i6 (i:=x.cond.toNat) c7 D|exact jF M rfl rfl rfl rfl (i:=x.cond.toNat) c7 D) rfl):=h
def aFz(h:A->B:=by exact aA aPH rfl):=h
def aEc(h:A->B:=by exact aA aP0 rfl):=h
def aEq(h:A->B:=by exact jV M [] [0,1,2,3,4,5,6,7,8,9,10,11,12,13] [14] ((⟨lT,kQ.cells x,196⟩::((⟨.own zH l.l.length [],vs⟩:J Int).L 3 aR++[]))) _ mixed aQ bC b9):=h
def aDx(h:A->B:=by exact fE aPF rfl rfl rfl rfl):=h
def aGx(h:A->B:=by exact fE (iV M ((⟨.own zH l.l.length [],vs⟩:J Int)) _ rfl rfl ((show _=Value.slice _ _ _ from rfl).trans (u7 vS)) rfl bS (i:=x.right.toNat) c7 iY) rfl rfl rfl rfl):=h
def aJO(h:A->B:=by exact fE aPH rfl rfl rfl rfl):=h
def GX(l:List kQ)(dX:List Int)(k:Nat):List Int:=o1 l dX k++List.replicate (l.length-k) 0
def aTC{l:List kQ}{dX:List Int}{k:Nat}(h:k<=l.length):(GX l dX k).length=l.length:=by rw[GX,hL,R7,Gv];omega
def aUg{l:List kQ}{dX:List Int}{k:Nat}{v:Int}(Y:k<l.length)(h:v=AN dX (o1 l dX k) (l.getD k default)):(GX l dX k).set k v=GX l dX (k+1):=by have aZ:=R7 (l:=l) (dX:=dX) k;rw[GX,GX,o1,<-h,show l.length-k=(l.length-(k+1))+1 by omega,a4b,aBY k v D,aZ,Wj,aB5];simp
def aYy{l:List kQ}{dX:List Int}{k:Nat}(Y:k<l.length)(h:AN dX (o1 l dX k) (l.getD k default)=0):GX l dX k=GX l dX (k+1):=by rw[GX,GX,o1,h,show l.length-k=(l.length-(k+1))+1 by omega,a4b];simp
def a6K{l:List kQ}{dX:List Int}{k j:Nat}(h:j<k):(GX l dX k)[j]?=some ((o1 l dX k).getD j 0):=by have aZ:=R7 (l:=l) (dX:=dX) k;rw[GX,K4 D];exact bR 0 D
def aZi{l:List kQ}{dX:List Int}:GX l dX l.length=o1 l dX l.length:=by rw[GX,Wj];simp
def aE6{dX v:List Int}{x:kQ}(h:x.kind=1):AN dX v x=Dg dX x.cond:=by rw[AN,if_pos h]
def aVc{dX v:List Int}{x:kQ}(h:x.kind=2):AN dX v x= -(v.getD x.left.toNat 0):=by rw[AN,if_neg D,if_pos h]
def aXl{dX v:List Int}{x:kQ}(h:x.kind=3):AN dX v x=min (v.getD x.left.toNat 0) (v.getD x.right.toNat 0):=by rw[AN,if_neg D,if_neg D,if_pos h]
def aVu{dX v:List Int}{x:kQ}(G:¬x.kind=1)(U:¬x.kind=2)(aO:¬x.kind=3):AN dX v x=max (v.getD x.left.toNat 0) (v.getD x.right.toNat 0):=by rw[AN,if_neg G,if_neg U,if_neg aO]
def aIY(l:bP kQ)(dX:bP Int)(L:aW)(R:aP)(aZ:aN (RO l) R)(cS:aN (dW dX) R):
 aM prog 130 [l.val,dX.val].toArray L R (λv E R'=>v=.int .i64 (EO l.l dX.l)/\L=E/\R=R'):=by
 refine cX 102 call130 func130 rfl rfl rfl ?_;apply oO∘mY∘gQ;refine eD rfl (aFL l _ _ aZ) ?_;apply(AJ);refine aJ ?_ ?_<;>intro bI;·apply(uJ);refine eL L R ?_;exact⟨by rw[EO,if_neg EA],rfl,rfl⟩
 have O:H7 l.l=true:=by simpa using bI
 have lL:=(a6I.1 O).1;apply gI∘j0∘D1;rintro v E R' ⟨zH,rfl,rfl,KF⟩;replace KF:=KF.symm;subst KF;apply kS∘yQ;refine e7 (R5 (f:=aR) (x:=0) rfl _) ?_;apply e1∘r3;refine e3 [(1,.slice _ _ _),(5,.slice _ _ _),(14,.slice _ _ _),(15,.int _ _),(16,.int _ _)] cB λg9=>?_;refine m6 ([6,7]++dJ 16 80) ((⟨λg=>[(16,.int .i64 ((g.1.1:Nat):Int))],λg=>(⟨.own zH l.l.length [],g.1.2⟩:J Int).L 3 aR++L,λ_=>R,λg=>l.l.length-g.1.1⟩:e0 {g:Nat×List Int//g.1<=l.l.length/\g.2=GX l.l dX.l g.1})) (⟨(0,List.replicate l.l.length 0),by dsimp only;omega,rfl⟩) ?_;rintro⟨⟨k,vs⟩,Y,Fe⟩ c1;try dsimp only
 dsimp only at Y Fe;have vS:vs.length=l.l.length:=by rw[Fe];exact aTC Y
 have Aa:(⟨.own zH l.l.length [],vs⟩:J Int).ok 1 aR:=by have:=BT (f:=aR) (aI:=1) (b:=zH) (n:=l.l.length) (x:=0) E3 BE;exact J.tU E3 this (by simp;exact vS)
 apply(gU);refine aJ ?_ ?_<;>intro cK;·
  have I1:=bR (l:=l.l) (k:=k) default D;have A2:=aYC O k D;have a2Z:=bR (l:=vs) (k:=k) 0 D;have Lk:=λ(v:Int)=>aUg (l:=l.l) (dX:=dX.l) (k:=k) (v:=v) D;have cW:=aYy (l:=l.l) (dX:=dX.l) (k:=k) D;rw[<-Fe]at Lk cW;rw[Jb]at A2;obtain⟨x,K⟩:∃x,x=l.l.getD k default:=⟨_,rfl⟩;rw[<-K]at I1 A2 Lk cW;apply(nC);refine aA rF rfl ?_;apply(RW);intro lT;apply eA∘BP;refine eS (bY (iH (cC (dM ?_))));apply(q3);refine aJ ?_ ?_<;>intro dE;·
   apply UY∘j0∘q5;apply lR (aD:=[_,_,_,_,_,_]) (j:=5) (b4:=44) rfl rfl aK rfl b2 rfl;·intro xS;replace xS:=cP xS;have AY:=bR (l:=dX.l) (k:=x.cond.toNat) 0 D;exact(FD∘a6c∘kY) NN
   intro a28;apply(fD);apply lR (aD:=[_,_,_,_,_,_]) (j:=13) (b4:=52) rfl rfl aK rfl b2 rfl;·intro zN;replace zN:=cP zN;have AY:=bR (l:=dX.l) (k:=x.cond.toNat) 0 D;exact(FD∘a6c∘kY∘D0) iA
   intro Va;apply(dD);refine aJ ?_ ?_<;>intro gZ;·have AY:=bR (l:=dX.l) (k:=x.cond.toNat) 0 D;apply y6∘FD∘a6c∘kY∘aFz;refine mO (mV M ((⟨.own zH l.l.length [],vs⟩:J Int)) (dX.l.getD x.cond.toNat 0) rfl rfl rfl rfl cL bS bH bS aX aK aK) ?_;rintro v E R' ⟨rfl,rfl⟩;refine eS (hG (hG (bY (dM ?_))));apply(m0);exact eG ⟨(k+1,vs.set k (dX.l.getD x.cond.toNat 0)),by dsimp only;omega,Lk _ (by rw[aE6 dE,Dg,if_pos D])⟩
   refine gG (hG (hG (bY (dM ?_))));apply(m0);exact eG ⟨(k+1,vs),by dsimp only;omega,cW (by rw[aE6 dE,Dg,if_neg D])⟩
  apply(sQ);refine aJ ?_ ?_<;>intro fW;·(have jT:x.left.toNat<k:=by omega);have HC:=a6K (l:=l.l) (dX:=dX.l) jT;rw[<-Fe]at HC;have aMi:=a4X (l:=l.l) (dX:=dX.l) k x.left.toNat;apply y6∘FD;refine aA aPF rfl ?_;apply aEc∘CJ∘aFz;refine mO (mV M ((⟨.own zH l.l.length [],vs⟩:J Int)) (-((o1 l.l dX.l k).getD x.left.toNat 0)) rfl rfl rfl rfl cL bS bH bS aX aK aK) ?_;rintro v E R' ⟨rfl,rfl⟩;refine eS (hG (hG (bY (dM ?_))));apply(m0);exact eG ⟨(k+1,vs.set k (-((o1 l.l dX.l k).getD x.left.toNat 0))),by dsimp only;omega,Lk _ (by rw[aVc fW])⟩
  have jT:x.left.toNat<k:=by omega
  have HC:=a6K (l:=l.l) (dX:=dX.l) jT;have aAw:x.right.toNat<k:=by omega
  have WP:=a6K (l:=l.l) (dX:=dX.l) aAw;rw[<-Fe]at HC WP;apply(sQ);refine aJ ?_ ?_<;>intro lJ;·apply aEq∘RY∘OL∘aDx∘a0Y∘OL∘aGx∘a0Y;refine fE (Od rfl rfl) rfl rfl rfl rfl ?_;apply aJO∘zY;refine ID (mV M ((⟨.own zH l.l.length [],vs⟩:J Int)) (min ((o1 l.l dX.l k).getD x.left.toNat 0) ((o1 l.l dX.l k).getD x.right.toNat 0)) rfl rfl rfl rfl cL bS bH bS aX aK aK) rfl rfl ?_;rintro v E R' ⟨rfl,rfl⟩;apply(fI);refine jI (hG (hG (bY (dM ?_))));apply(m0);exact eG ⟨(k+1,vs.set k (min ((o1 l.l dX.l k).getD x.left.toNat 0) ((o1 l.l dX.l k).getD x.right.toNat 0))),by dsimp only;omega,Lk _ (by rw[aXl lJ])⟩
  apply aEq∘RY∘OL∘aDx∘a0Y∘OL∘aGx∘a0Y;refine fE NO rfl rfl rfl rfl ?_;apply aJO∘zY;refine ID (mV M ((⟨.own zH l.l.length [],vs⟩:J Int)) (max ((o1 l.l dX.l k).getD x.left.toNat 0) ((o1 l.l dX.l k).getD x.right.toNat 0)) rfl rfl rfl rfl cL bS bH bS aX aK aK) rfl rfl ?_;rintro v E R' ⟨rfl,rfl⟩;apply(fI);refine jI (hG (hG (bY (dM ?_))));apply(m0);exact eG ⟨(k+1,vs.set k (max ((o1 l.l dX.l k).getD x.left.toNat 0) ((o1 l.l dX.l k).getD x.right.toNat 0))),by dsimp only;omega,Lk _ (by rw[aVu dE fW lJ])⟩
 obtain rfl:k=l.l.length:=by omega
 rw[aZi]at Fe;have a2Z:=bR (l:=vs) (k:=l.l.length-1) 0 D;have a9y:EO l.l dX.l=vs.getD (l.l.length-1) 0:=by rw[EO,if_pos O,Fe]
 apply UX∘j0∘oD;refine aA (iV M ((⟨.own zH l.l.length [],vs⟩:J Int)) _ rfl rfl ((show _=Value.slice _ _ _ from rfl).trans (u7 vS)) rfl bS (i:=l.l.length-1) c7 iY) rfl ?_;apply aEc∘sO;refine eL L R ?_;exact⟨by rw[a9y],rfl,rfl⟩
def YB(x:bG):Int:=if AO x=1 then x.bJ else if AO x= -1 then -x.bN else 0
def Ih(r:cR)(bK:Int):Int:=1000*r.len*r.h6*bK
def U6(r:cR)(x:bG)(bK x1:Int):Prop:=Ih r bK=0\/0<YB x/\Ih r bK<=YB x*x1
instance(r:cR)(x:bG)(bK x1:Int):Decidable (U6 r x bK x1):=by unfold U6;infer_instance
def aSE{x:bG}(h:AO x=1):YB x=x.bJ/\0<x.bJ:=by
 refine⟨by rw[YB,if_pos h],?_⟩;rw[AO]at h;split at h;·cases h
 split at h;·assumption
 split at h<;>cases h
def aTQ{x:bG}(h:AO x= -1):YB x= -x.bN/\x.bN<0:=by
 refine⟨by rw[YB,if_neg D,if_pos h],?_⟩;rw[AO]at h;split at h;·cases h
 split at h;·cases h
 split at h;·assumption
 ·cases h
def aZs{x:bG}(h:AO x≠1)(cD:AO x≠-1):YB x=0:=by rw[YB,if_neg h,if_neg cD]
def aYH{r:cR}{bK:Int}(G:1<=r.len/\r.len<=100000)(U:1<=r.h6/\r.h6<=1000)(aO:0<=bK/\bK<=100):
 (0<=1000*r.len*r.h6/\1000*r.len*r.h6<=100000000000)/\0<=1000*r.len*r.h6*bK/\1000*r.len*r.h6*bK<=10000000000000:=by have a0:0<=1000*r.len*r.h6:=x3 D D;have hO:1000*r.len*r.h6<=100000000*1000:=JA D D D D;have a1C:0<=1000*r.len*r.h6*bK:=x3 a0 D;have fT:1000*r.len*r.h6*bK<=100000000000*100:=JA D D D D;omega
def aYc{n s l:Int}(bA:1<=n)(aF:0<s):(n+s-1).tdiv s<=l↔n<=l*s:=by rw[XP D];have h:=Int.ediv_lt_iff_lt_mul (a:=n+s-1) (b:=l+1) aF;rw[Int.add_mul,Int.one_mul]at h;omega
def aXm(r:cR)(x:bG)(bK x1:Int)(L:aW)(R:aP)(G:1<=r.len/\r.len<=100000)(U:1<=r.h6/\r.h6<=1000)(aO:0<=bK/\bK<=100)(bW:0<=x1/\x1<=2147483648):
 aM prog 172 [r.val,x.val,.int .i64 bK,.int .i64 x1].toArray L R (λv E R'=>v=.bool (decide (U6 r x bK x1))/\L=E/\R=R'):=by
 have vO:=aYH G U aO;refine cX 44 call172 func172 rfl rfl rfl ?_;apply(fC);intro dU;apply(nW);intro fK;apply uK∘gB∘XD∘gB∘XD∘LU∘FA∘AL;refine aJ ?_ ?_<;>intro bI;·apply(RT);refine m5 L R ?_;exact⟨by rw[decide_eq_true (p:=U6 r x bK x1) (.inl bI)],rfl,rfl⟩
 have FT:1<=1000*r.len*r.h6*bK:=by omega
 apply FC∘AL;refine aJ ?_ ?_<;>intro cK;·apply(RT);refine m5 L R ?_;refine⟨by rw[decide_eq_false (p:=U6 r x bK x1)];rintro(h|⟨_,h⟩)<;>rw[Ih]at h;omega;rw[cK,a39]at h;omega,rfl,rfl⟩
 have jO:=λl=>aYc (l:=l) FT (show 0<x1 by omega);have WM:0<=(1000*r.len*r.h6*bK+x1-1).tdiv x1:=Int.tdiv_nonneg D D;have aMC:(1000*r.len*r.h6*bK+x1-1).tdiv x1<=100000000000000:=by rw[XP D];have:=Wm (a:=1000*r.len*r.h6*bK+x1-1) x1 D;omega
 apply gI∘cJ∘Y4∘oD∘cJ∘Gd∘kB∘lG;refine eD rfl (a7z x _ _) ?_;refine eS (bY (iH (cC (dM ?_))));apply(q3);refine aJ ?_ ?_<;>intro dE;·apply eV∘h1∘NC∘l6∘D4;refine m5 L R ?_;have a7:=aSE dE;refine⟨congrArg Value.bool (decide_eq_decide.2 ?_),rfl,rfl⟩;rw[jO,U6,Ih,a7.1];omega
 apply(sQ);refine aJ ?_ ?_<;>intro gZ;·apply eV∘h1∘CJ∘D0∘l6∘D4;refine m5 L R ?_;have a7:=aTQ gZ;refine⟨congrArg Value.bool (decide_eq_decide.2 ?_),rfl,rfl⟩;have:=jO (-x.bN);rw[U6,Ih,a7.1];omega
 refine gG (hG (bY (cC (dM ?_))));apply(sP);refine m5 L R ?_;have a7:=aZs dE gZ;refine⟨by rw[decide_eq_false (p:=U6 r x bK x1)];rintro(h|⟨h,_⟩);rw[Ih]at h;omega;omega,rfl,rfl⟩
end
def aEF{e:Int}(h:yL e=none):e=0:=by
 rw[yL]at h;split at h;·assumption
 ·cases h
def aFW{e x:Int}(h:yL e=some x):x≠0:=by
 rw[yL]at h;split at h;·cases h
 ·cases h;assumption
structure Q5(s:dY):Prop where
 c2:h4 s.c2=0
 len:s.e8.l.length<=64/\s.h2.l.length<=64/\s.b0.l.length<=16/\s.m4.l.length<=64
 TP:∀i:Nat,i<s.e8.l.length->AR s.c2 s.e8.l i=none
 cond:∀c∈s.h2.l,LD s.e8.l s.c2.aE.Z.l.length c=0
 eR:∀z∈s.b0.l,DF s.h2.l.length s.c2.aE.Z.l.length z=0
 aBp:∀p∈s.m4.l,1<=p/\p<=3
def aZx{a:bT}{S:List g0}{i:Nat}{e:Int}(h:AR a S i=some e):e≠0:=by
 rw[AR]at h;split at h;·cases h;assumption
 split at h;·cases h;decide
 split at h;·cases h;decide
 ·cases h
def VB{s:dY}(h:o0 s=0):Q5 s:=by
 rw[o0]at h;split at h;·omega
 split at h;·omega
 split at h;·omega
 split at h;·omega
 split at h;·omega
 rename_i G U aO bW dV;refine⟨by omega,by omega,λi aB=>?_,λc bU=>?_,λz dI=>?_,λp aG=>?_⟩;·
  have b0D:EY s.c2 s.e8.l=0:=by omega
  exact YY (f:=AR s.c2 s.e8.l) (λx e K=>aZx K) b0D i (List.mem_range.2 aB)
 ·
  have b0G:UG s=0:=by omega
  exact aEF (YY (f:=λc=>yL (LD s.e8.l s.c2.aE.Z.l.length c)) (λx e K=>aFW K) b0G c bU)
 ·
  have b0I:KA s=0:=by omega
  exact aEF (YY (f:=λz=>yL (DF s.h2.l.length s.c2.aE.Z.l.length z)) (λx e K=>aFW K) b0I z dI)
 ·
  have:=YY (f:=λp:Int=>if p<1\/3<p then some 19 else none) (λx e K=>by
   split at K;·cases K;decide
   ·cases K) h p aG
  exact Vw
def a0J{aY qE:Type}{f:aY->Option qE}{l:List aY}(h:∀x∈l,f x=none):l.findSome? f=none:=List.findSome?_eq_none_iff.2 h
def Q5.DI{s:dY}(h:Q5 s):o0 s=0:=by
 have G:=h.c2;have U:=h.len;have dH:EY s.c2 s.e8.l=0:=by rw[EY,a0J (λi aB=>h.TP i (List.mem_range.1 aB))];rfl
 have eH:UG s=0:=by rw[UG,a0J (λc bU=>by rw[yL,if_pos (h.cond c bU)])];rfl
 have nS:KA s=0:=by rw[KA,a0J (λz dI=>by rw[yL,if_pos (h.eR z dI)])];rfl
 have B3:Bo s=0:=by rw[Bo,a0J (λp aG=>if_neg (by have:=h.aBp p aG;omega))];rfl
 rw[o0,if_neg D,if_neg D,if_neg D,if_neg D,if_neg D,B3]
def aX9{S:List g0}{n:Nat}{c:rK}(h:LD S n c=0):(1<=c.kind/\c.kind<=5)/\(0<=c.value/\c.value<=1099511627776)/\(c.kind=1->JN c.r9)/\
 (c.kind=5->0<=c.target/\c.target<n)/\(c.kind≠5->0<=c.target/\c.target<S.length)/\(c.kind=3->(S.getD c.target.toNat default).kind=5):=by
 rw[LD]at h;split at h;·omega
 rename_i G;split at h;·omega
 rename_i U;have aO:Oz S n c=0:=by omega
 have bW:c.kind=1->JN c.r9:=λY=>by
  rw[if_pos Y,QW]at h;split at h;·assumption
  ·omega
 rw[Oz]at aO;split at aO;·exact aPl
 split at aO;·
  split at aO;·rename_i dV;exact⟨by omega,by omega,bW,by omega,by omega,λ_=>dV.2⟩
  ·omega
 split at aO;·exact aPl
 ·omega
structure LM{aY:Type}(jU:List aY)(g:Nat->aY)(i:Nat)(l:List aY):Prop where
 len:l.length=jU.length
 ML:∀j:Nat,j<i->l[j]?=some (g j)
 lW:∀j:Nat,i<=j->l[j]?=jU[j]?
def LM.zero{aY:Type}{jU:List aY}{g:Nat->aY}:LM jU g 0 jU:=⟨rfl,λj a6=>by omega,λj _=>rfl⟩
def LM.next{aY:Type}{jU:List aY}{g:Nat->aY}{i:Nat}{l:List aY}(h:LM jU g i l)(aB:i<jU.length){x:aY}(K:x=g i):LM jU g (i+1) (l.set i x):=by
 have aZ:=h.len;refine⟨by simp[aZ],λj a6=>?_,λj G=>?_⟩;·
  rw[I9];split;·rename_i e;rw[if_pos D,K,e]
  ·exact h.ML j D
 ·rw[P7 D];exact h.lW j D
def LM.F5{aY:Type}{jU:List aY}{g:Nat->aY}{i:Nat}{l:List aY}(h:LM jU g i l)(K:jU[i]?=some (g i)):LM jU g (i+1) l:=by
 refine⟨h.len,λj a6=>?_,λj G=>h.lW j D⟩;rcases gX j i with G|G;·exact h.ML j G
 ·
  obtain rfl:j=i:=by omega
  rw[h.lW j (gS _),K]
def LM.done{aY:Type}{jU:List aY}{g:Nat->aY}{l:List aY}(h:LM jU g jU.length l):l=(List.range jU.length).map g:=by
 have aZ:=h.len;refine Au λj=>?_;rcases gX j jU.length with a6|a6;·rw[h.ML j a6,pW,P8 a6];rfl
 ·rw[u1 D,u1 EB]
section
attribute [local irreducible] cO dG dP aM cI dR fA e2 e5 fB eQ e9 J.L
def aD4(h:A->B:=by exact b7 (by first|exact j9 M rfl rfl rfl rfl i6 (i:=k.toNat) c7 D|exact jF M rfl rfl rfl rfl (i:=k.toNat) c7 D) rfl rfl rfl):=h
def aD0(h:A->B:=by exact b7 (by first|exact j9 M rfl rfl rfl rfl i6 (i:=(z.Z.l.getD j 0).toNat) c7 D|exact jF M rfl rfl rfl rfl (i:=(z.Z.l.getD j 0).toNat) c7 D) rfl rfl rfl):=h
def aYX{s:dY}(h:Q5 s){r:cR}(O:r∈s.c2.aE.Z.l):(1<=r.len/\r.len<=100000)/\(1<=r.h6/\r.h6<=1000):=by
 have G:iB s.c2.aE=0:=by
  have:=h.c2;rw[h4]at this;split at this;·exact this
  ·rename_i U;exact Decidable.not_not.1 U
 unfold iB at G;split at G;·cases G
 split at G;·rename_i e V;subst G;obtain⟨x,_,K⟩:=K3 V;unfold C3 at K;split at K<;>cases K
 have pS:=YY (f:=q1 s.c2.aE.places.l.length) (λx e K V=>by
  subst V;unfold q1 at K;split at K;·cases K
  ·split at K<;>cases K) G
 have:=pS r O;unfold q1 at this;split at this;·cases this
 split at this;·cases this
 rename_i U;omega
def aXs{s:dY}(h:Q5 s){z:kJ}(dI:z∈s.b0.l):(0<=z.hold/\z.hold<=100000)/\(0<=z.vM/\z.vM<=100)/\∀i:Nat,i<z.Z.l.length->0<=z.Z.l.getD i 0/\z.Z.l.getD i 0<s.c2.aE.Z.l.length:=by
 have:=h.eR z dI;rw[DF]at this;split at this;·omega
 split at this;·cases this
 rename_i G;split at this;·cases this
 rename_i U;refine⟨by omega,by omega,λi aB=>?_⟩;have:¬BS s.c2.aE.Z.l.length z.Z.l i:=λaT=>U ⟨i,aB,aT⟩;rw[BS]at this;omega
def aYo{s:dY}(h:Q5 s){z:kJ}(dI:z∈s.b0.l):z.Z.l.length<=128:=by
 have:=h.eR z dI;rw[DF]at this;split at this;·omega
 split at this;·cases this
 split at this;·cases this
 rename_i U;have aT:∀i:Nat,i<z.Z.l.length->¬BS s.c2.aE.Z.l.length z.Z.l i:=λi aB aT=>U ⟨i,aB,aT⟩;have up:∀i:Nat,i<z.Z.l.length->(i:Int)<=z.Z.l.getD i 0:=by
  intro i;induction i with
  |zero=>intro aB;have:=aT 0 aB;rw[BS]at this;omega
  |succ i cA=>intro aB;have G:=cA D;have U:=aT (i+1) aB;rw[BS,Nat.add_sub_cancel]at U;omega
 have bA:=(J9 h.c2).aE.Z;rcases gX 128 z.Z.l.length with aO|aO;·have bW:=up 128 aO;have dV:=aT 128 aO;rw[BS]at dV;omega
 ·exact aO
def YX(s:dY)(fl:List bG)(z:kJ)(x1 r:Int):Prop:=¬U6 (s.c2.aE.Z.l.getD r.toNat default) (fl.getD r.toNat default) z.vM x1
instance(s:dY)(fl:List bG)(z:kJ)(x1 r:Int):Decidable (YX s fl z x1 r):=by unfold YX;infer_instance
def Y6(s:dY)(fl:List bG)(c:cY)(z:kJ)(t:Int):Int:=
 if c.off=false then 10
 else if(c.clear<0\/t<c.clear)\/t-c.clear<z.hold then 20
 else if∃r∈z.Z.l,YX s fl z (t-c.clear) r then 20 else 0
def u0(s:dY)(c:List cY)(fl:List bG)(k t:Int):Int:=
 if k<0\/(c.length:Int)<=k then 17 else Y6 s fl (c.getD k.toNat default) (s.b0.l.getD k.toNat default) t
def aX1{s:dY}{fl:List bG}{c:cY}{z:kJ}{t:Int}(G:c.off=true)(U:¬((c.clear<0\/t<c.clear)\/t-c.clear<z.hold))(aO:∀j:Nat,j<z.Z.l.length->¬YX s fl z (t-c.clear) (z.Z.l.getD j 0)):Y6 s fl c z t=0:=by rw[Y6,if_neg (by rw[G];decide),if_neg U,if_neg];rintro⟨r,O,cE⟩;obtain⟨j,a6,rfl⟩:=Gm O;have:=aO j a6;rw[lN,w4 a6]at this;exact this cE
def aY0{s:dY}{fl:List bG}{c:cY}{z:kJ}{t r:Int}(G:c.off=true)(U:¬((c.clear<0\/t<c.clear)\/t-c.clear<z.hold))(O:r∈z.Z.l)(aO:YX s fl z (t-c.clear) r):Y6 s fl c z t=20:=by rw[Y6,if_neg (by rw[G];decide),if_neg U,if_pos ⟨r,O,aO⟩]
structure Hj(s:dY)(c:bP cY)(fl:bP bG)(R:aP):Prop where
 bO:BN s R
 b1:aN (AQ c) R
 iC:aN (wG fl) R
def a5k(s:dY)(c:bP cY)(fl:bP bG)(k t:Int)(L:aW)(R:aP)(h:Hj s c fl R)(bM:Q5 s)(sU:c.l.length=s.b0.l.length/\fl.l.length=s.c2.aE.Z.l.length)(gJ:0<=t/\t<=2147483648):
 aM prog 133 [s.val,c.val,fl.val,.int .i64 k,.int .i64 t].toArray L R (λv E R'=>v=.int .i64 (u0 s c.l fl.l k t)/\L=E/\R=R'):=by
 have PK:=h.b1;have Kq:=h.iC;have FW:=h.bO.b0;have aMJ:=h.bO.c2.Z;have qB:=bM.len;refine cX 80 call133 func133 rfl rfl rfl ?_;apply(fC);intro fK;apply FA∘q5;apply dT (aD:=[_,_,_,_]) (j:=2) (b4:=17) rfl rfl aK rfl b2 rfl;·intro iM;replace iM:=cP iM;exact(cJ∘j0) NN
 intro o7;apply(dD);refine aJ ?_ ?_<;>intro bI;·apply(uJ);refine eL L R ?_;exact⟨by rw[u0,if_pos D],rfl,rfl⟩
 have AY:=bR (l:=c.l) (k:=k.toNat) default D;have CC:=bR (l:=s.b0.l) (k:=k.toNat) default D;have V:u0 s c.l fl.l k t=Y6 s fl.l (c.l.getD k.toNat default) (s.b0.l.getD k.toNat default) t:=by rw[u0,if_neg D]
 obtain⟨z,dI⟩:∃z,z=s.b0.l.getD k.toNat default:=⟨_,rfl⟩;obtain⟨x,K⟩:∃x,x=c.l.getD k.toNat default:=⟨_,rfl⟩;rw[<-dI]at CC V;rw[<-K]at AY V;have Fh:=aXs bM (hS CC);have vT:=aYo bM (hS CC);have bAq:aN (dW z.Z) R:=aN.aC1 FW CC;apply(CI);refine jR M [0,1,2,3,4,5,6,7,8,9,10,11,12] _ mixed aQ iP ?_;refine b7 qX rfl rfl rfl ?_;apply j7∘aD4∘aBy∘uH∘aD4∘aOa∘uZ;intro GY;apply(uZ);intro rM;apply uY∘uY∘XB∘gB∘AJ;refine aJ ?_ ?_<;>intro cK;·apply(uJ);refine eL L R ?_;exact⟨by rw[V,Y6,if_pos LA],rfl,rfl⟩
 have a93:x.off=true:=by simpa using cK
 apply k5∘AK;apply dT (aD:=[_,_,_,_]) (j:=3) (b4:=38) rfl rfl aK rfl b2 rfl;·intro fV;replace fV:=cP fV;exact(h1∘yO) iA
 intro m2;apply(fD);apply dT (aD:=[_,_,_,_,_,_,_]) (j:=9) (b4:=44) rfl rfl aK rfl b2 rfl;·intro vP;replace vP:=cP vP;exact(cJ∘gB∘oD) T2
 intro Uz;apply(dD);refine aJ ?_ ?_<;>intro dE;·apply(uJ);refine eL L R ?_;exact⟨by rw[V,Y6,if_neg (by rw[a93];decide),if_pos D],rfl,rfl⟩
 apply(LS);refine e3 [(2,.slice _ _ _),(4,.int _ _),(5,.pointer _),(11,.pointer _),(12,.pointer _),(54,.slice _ _ _),(55,.int _ _),(56,.int _ _)] cB λg9=>?_;refine lF ([10,14]++dJ 56 24) (λg:{j:Nat//j<=z.Z.l.length/\∀m:Nat,m<j->¬YX s fl.l z (t-x.clear) (z.Z.l.getD m 0)}=>[(56,.int .i64 ((g.1:Nat):Int))]) (λg=>z.Z.l.length-g.1) (⟨0,by omega,λm a1=>by omega⟩) ?_;rintro⟨j,a6,jX⟩ c1;try dsimp only
 apply(gU);refine aJ ?_ ?_<;>intro gZ;·
  have aL8:=bR (l:=z.Z.l) (k:=j) 0 D;have b9f:=Fh.2.2 j D;have WP:=bR (l:=s.c2.aE.Z.l) (k:=(z.Z.l.getD j 0).toNat) default D;have El:=bR (l:=fl.l) (k:=(z.Z.l.getD j 0).toNat) default D;have FU:=aYX bM (hS WP);apply(jK);refine aA Xl rfl ?_;apply kY∘E9;refine jR M [0,1,2,3,4,5,6,7,8,9,10,11,12,13,14,15,16,17,18] _ mixed aQ iP ?_;iterate 3 apply(rS)
  apply Vn∘j7∘aD0;refine b7 aCw rfl rfl rfl ?_;refine b7 qX rfl rfl rfl ?_;apply j7∘aD0∘XH∘uH∘nQ∘A7;refine xZ rfl (aXm (s.c2.aE.Z.l.getD (z.Z.l.getD j 0).toNat default) (fl.l.getD (z.Z.l.getD j 0).toNat default) z.vM (t-x.clear) _ _ FU.1 FU.2 Fh.2.1 D) ?_;refine b7 (UT rfl) rfl rfl rfl ?_;apply(A9);refine aJ ?_ ?_<;>intro fW;·apply(GP);refine eL L R ?_;exact⟨by rw[V,aY0 a93 D (hS aL8) (by rw[YX];simpa using fW)],rfl,rfl⟩
  apply(k9);exact lP (⟨j+1,by omega,λm a1=>by
  rcases gX m j with h|h;·exact jX m h
  ·(obtain rfl:m=j:=by omega);rw[YX];simpa using fW⟩) hM cB bC eX kM
 apply(IG);refine eL L R ?_;exact⟨by rw[V,aX1 a93 D (λm a1=>jX m D)],rfl,rfl⟩
def KB(h:A->B:=by exact aA X0 rfl):=h
def Pr(h:A->B:=by exact aA EC rfl):=h
structure k8 where
 eR:Int
 first:Int
 Mf:Int
 step:Int
 time:Int
 deriving DecidableEq
def k8.cells(x:k8):List Value:=[.int .i64 x.eR,.int .i64 x.first,.int .i64 x.Mf,.int .i64 x.step,.int .i64 x.time]
abbrev k8.val(x:k8):Value:=.agg #[.int .i64 x.eR,.int .i64 x.first,.int .i64 x.Mf,.int .i64 x.step,.int .i64 x.time]
def HN:k8:=⟨-1,-1,-1,0,0⟩
def tX(s:dY)(Fq PU:Nat)(t:Int):Int:=if o0 s≠0 then o0 s else if¬(Fq=s.b0.l.length/\PU=s.c2.aE.Z.l.length)then 11 else if t<0\/2147483648<t then 8 else 0
def a7d(s:dY)(c:bP cY)(fl:bP bG)(t:Int)(L:aW)(R:aP)(h:Hj s c fl R):
 aM prog 132 [s.val,c.val,fl.val,.int .i64 t].toArray L R (λv E R'=>v=.int .i64 (tX s c.l.length fl.l.length t)/\L=E/\R=R'):=by
 refine cX 37 call132 func132 rfl rfl rfl ?_;apply(fC);intro dU;apply kB∘Pr;refine eD rfl (Yy s _ _ h.bO) ?_;apply(pQ);refine aJ ?_ ?_<;>intro bI;·apply(U1);refine eL L R ?_;exact⟨by rw[tX,if_pos bI],rfl,rfl⟩
 apply k5∘j0∘jM∘vC;apply dT (aD:=[_,_,_,_,_,_,_,_]) (j:=6) (b4:=21) rfl rfl aK rfl b2 rfl;·
  intro n1;replace n1:=cP n1;apply(j0);iterate 3 apply(gF)
  exact(kZ∘F1) v6
 intro Af;apply(dD);refine aJ ?_ ?_<;>intro cK;·apply(uJ);refine eL L R ?_;exact⟨by rw[tX,if_neg D,if_pos D],rfl,rfl⟩
 apply FC∘q5;apply dT (aD:=[_,_]) (j:=2) (b4:=33) rfl rfl aK rfl b2 rfl;·exact JC
 intro o7;apply(dD);refine aJ ?_ ?_<;>intro dE;·apply(uJ);refine eL L R ?_;exact⟨by rw[tX,if_neg D,if_neg D,if_pos D],rfl,rfl⟩
 apply(Rb);refine eL L R ?_;exact⟨by rw[tX,if_neg D,if_neg D,if_neg D],rfl,rfl⟩
def Zq{s:dY}{Fq PU:Nat}{t:Int}(h:tX s Fq PU t=0):Q5 s/\(Fq=s.b0.l.length/\PU=s.c2.aE.Z.l.length)/\0<=t/\t<=2147483648:=by
 rw[tX]at h;split at h;·omega
 rename_i G;split at h;·omega
 split at h;·omega
 exact⟨VB (Decidable.not_not.1 G),by omega,by omega⟩
def a77(L:aW)(R:aP):aM prog 81 ([]:List Value).toArray L R (λv E R'=>v=HN.val/\L=E/\R=R'):=by refine cX 2 call81 func81 rfl rfl rfl ?_;apply(J8);intro a1C;apply(iG);refine aA (l7 (hB:=[(0,(Value.int _ _).cells.toList),(1,(Value.int _ _).cells.toList),(2,(Value.int _ _).cells.toList)]) (c9:=[_,_,_,_,_]) M rfl rfl rfl rfl) rfl ?_;apply(y5);refine cF L R (qI rfl Ws) ?_;exact BJ
def tM(s:dY)(c:List cY)(fl:List bG)(r:k8)(p k t:Int):Int:=
 if tX s c.length fl.length t≠0 then tX s c.length fl.length t
 else if r.eR≠-1 then 10
 else if p<0\/(s.m4.l.length:Int)<=p\/s.m4.l.getD p.toNat 0≠1 then 19
 else u0 s c fl k t
def wK(s:dY)(c:List cY)(fl:List bG)(r:k8)(p k t:Int):k8:=if tM s c fl r p k t=0 then⟨k,p,-1,1,t⟩else r
def a1d{s:dY}{c:List cY}{fl:List bG}{r:k8}{p k t e:Int}(h:tM s c fl r p k t=e)(V:e≠0):wK s c fl r p k t=r:=by rw[wK,if_neg D]
def aT3(s:dY)(c:bP cY)(fl:bP bG)(r:k8)(p k t:Int)(L:aW)(R:aP)(h:Hj s c fl R):
 aM prog 90 [s.val,c.val,fl.val,r.val,.int .i64 p,.int .i64 k,.int .i64 t].toArray L R (λv E R'=>v=.tuple #[(wK s c.l fl.l r p k t).val,.int .i64 (tM s c.l fl.l r p k t)]/\L=E/\R=R'):=by
 have Z5:=h.bO.m4;refine cX 64 call90 func90 rfl rfl rfl ?_;apply(fC);intro lT;apply(nW);intro lI;apply(dO);intro wL;apply kB∘Pr∘gQ∘k2;refine eD rfl (a7d s c fl t _ _ h) ?_;apply(pQ);refine aJ ?_ ?_<;>intro bI;·
  apply eV∘KB∘yE;refine cF L R NQ ?_;have V:tM s c.l fl.l r p k t=tX s c.l.length fl.l.length t:=by rw[tM,if_pos bI]
  exact⟨by rw[a1d V bI,V],rfl,rfl⟩
 obtain⟨bM,lL,gJ⟩:=Zq (s:=s) (Fq:=c.l.length) (PU:=fl.l.length) (t:=t) D;apply a0B∘pG;refine aJ ?_ ?_<;>intro cK;·
  apply eV∘KB∘y4;refine cF L R NQ ?_;have V:tM s c.l fl.l r p k t=10:=by rw[tM,if_neg bI,if_pos cK]
  exact⟨by rw[a1d V D,V],rfl,rfl⟩
 apply FC∘q5;apply dT (aD:=[_,_,_,_,_]) (j:=2) (b4:=33) rfl rfl aK rfl b2 rfl;·exact a4h
 intro o7;apply(fD);apply dT (aD:=[_,_,_,_,_,_,_]) (j:=9) (b4:=40) rfl rfl aK rfl b2 rfl;·intro vP;replace vP:=cP vP;have M1:=bR (l:=s.m4.l) (k:=p.toNat) 0 D;apply(h1);refine aA aQN rfl ?_;exact(tG) v6
 intro Uz;apply(dD);refine aJ ?_ ?_<;>intro dE;·
  apply eV∘KB∘y4;refine cF L R NQ ?_;have V:tM s c.l fl.l r p k t=19:=by rw[tM,if_neg bI,if_neg cK,if_pos D]
  exact⟨by rw[a1d V D,V],rfl,rfl⟩
 have V:tM s c.l fl.l r p k t=u0 s c.l fl.l k t:=by rw[tM,if_neg bI,if_neg cK,if_neg D]
 apply k5∘Pr∘gQ∘k2∘cJ;refine eD rfl (a5k s c fl k t _ _ h bM lL gJ) ?_;apply(pQ);refine aJ ?_ ?_<;>intro gZ;·apply eV∘KB∘yE;refine cF L R NQ ?_;exact⟨by rw[a1d V gZ,V],rfl,rfl⟩
 apply(gI);iterate 3 apply(cJ)
 refine aA (l7 (hB:=[(0,(Value.int _ _).cells.toList),(1,(Value.int _ _).cells.toList),(2,(Value.int _ _).cells.toList),(3,(Value.int _ _).cells.toList),(4,(Value.int _ _).cells.toList)]) (c9:=[_,_,_,_,_]) M rfl rfl rfl rfl) rfl ?_;apply(yD);refine cF L R NQ ?_;exact⟨by rw[wK,if_pos D,V,show u0 s c.l fl.l k t=0 by omega],rfl,rfl⟩
def YE(r:k8)(t:Int):Prop:=t<r.time\/r.time<t-600
instance(r:k8)(t:Int):Decidable (YE r t):=by unfold YE;infer_instance
def aFh(r:k8)(t:Int)(L:aW)(R:aP)(gJ:0<=t/\t<=2147483648):
 aM prog 136 [r.val,.int .i64 t].toArray L R (λv E R'=>v=.bool (decide (YE r t))/\L=E/\R=R'):=by
 refine cX 16 call136 func136 rfl rfl rfl ?_;apply(fC);intro eN;apply uK∘cJ∘AK;apply dT (aD:=[_,_,_,_,_]) (j:=4) (b4:=9) rfl rfl aK rfl b2 rfl;·intro jP;replace jP:=cP jP;exact(Cr) K9
 intro DU;apply(sP);refine m5 L R ?_;exact⟨by refine congrArg Value.bool ?_;rw[Wb,decide_eq_true_iff (p:=YE r t),YE];simp,rfl,rfl⟩
def VA(s:dY)(r:k8)(p:Int):Prop:=
 p<0\/(s.m4.l.length:Int)<=p\/p=r.first\/r.first<0\/(s.m4.l.length:Int)<=r.first\/s.m4.l.getD p.toNat 0=s.m4.l.getD r.first.toNat 0
instance(s:dY)(r:k8)(p:Int):Decidable (VA s r p):=by unfold VA;infer_instance
def r6(s:dY)(c:List cY)(fl:List bG)(r:k8)(p t:Int):Int:=
 if tX s c.length fl.length t≠0 then tX s c.length fl.length t
 else if r.eR= -1\/r.step≠1 then 10
 else if VA s r p then 19
 else if YE r t then 8
 else u0 s c fl r.eR t
def xK(s:dY)(c:List cY)(fl:List bG)(r:k8)(p t:Int):k8:=if r6 s c fl r p t=0 then⟨r.eR,r.first,p,2,t⟩else r
def Ib{s:dY}{c:List cY}{fl:List bG}{r:k8}{p t e:Int}(h:r6 s c fl r p t=e)(V:e≠0):xK s c fl r p t=r:=by rw[xK,if_neg D]
def aU9(s:dY)(c:bP cY)(fl:bP bG)(r:k8)(p t:Int)(L:aW)(R:aP)(h:Hj s c fl R):
 aM prog 93 [s.val,c.val,fl.val,r.val,.int .i64 p,.int .i64 t].toArray L R (λv E R'=>v=.tuple #[(xK s c.l fl.l r p t).val,.int .i64 (r6 s c.l fl.l r p t)]/\L=E/\R=R'):=by
 have Z5:=h.bO.m4;refine cX 102 call93 func93 rfl rfl rfl ?_;apply(fC);intro jN;apply(nW);intro jB;apply(dO);intro rM;apply kB∘Pr∘gQ∘k2;refine eD rfl (a7d s c fl t _ _ h) ?_;apply(pQ);refine aJ ?_ ?_<;>intro bI;·
  apply eV∘KB∘yE;refine cF L R NQ ?_;have V:r6 s c.l fl.l r p t=tX s c.l.length fl.l.length t:=by rw[r6,if_pos bI]
  exact⟨by rw[Ib V bI,V],rfl,rfl⟩
 obtain⟨bM,lL,gJ⟩:=Zq (s:=s) (Fq:=c.l.length) (PU:=fl.l.length) (t:=t) D;apply a0B∘BQ;apply dT (aD:=[_,_,_]) (j:=3) (b4:=30) rfl rfl aK rfl b2 rfl;·exact aBP
 intro m2;apply(dD);refine aJ ?_ ?_<;>intro cK;·
  apply eV∘KB∘y4;refine cF L R NQ ?_;have V:r6 s c.l fl.l r p t=10:=by rw[r6,if_neg bI,if_pos D]
  exact⟨by rw[Ib V D,V],rfl,rfl⟩
 apply gI∘jM∘eA∘yQ;refine jR M [0,1,2,3,4,5,6,7,8,9,10,11,12,13,14,15,16,17,18,19,20,21,22,23,24,25,26,27,28,29,30,31,32,33,34,35,36,37,38,39] _ mixed aQ iP ?_;apply(j7);refine b7 Bk rfl rfl rfl ?_;apply(KT);refine zC (k:=41) b2 (λj3=>?_) (λj3=>?_);·
  replace j3:=cP j3;iterate 3 apply(tV)
  apply(yC);iterate 4 apply(tV)
  exact(yC) aCX
 replace j3:=cP j3;apply j7∘j7;refine b7 (Iq rfl rfl) rfl rfl rfl ?_;apply(yC);refine zC (k:=46) b2 (λn1=>?_) (λn1=>?_);·
  replace n1:=cP n1;iterate 4 apply(tV)
  exact(yC) aCX
 replace n1:=cP n1;apply j7∘nQ;refine b7 QB rfl rfl rfl ?_;apply(yC);refine zC (k:=52) b2 (λxR=>?_) (λxR=>?_);·replace xR:=cP xR;exact aCX
 replace xR:=cP xR;apply(nQ);refine b7 Bk rfl rfl rfl ?_;apply(yC);refine zC (k:=57) b2 (λTn=>?_) (λTn=>?_);·
  replace Tn:=cP Tn;iterate 4 apply(tV)
  exact(yC) aCS
 replace Tn:=cP Tn;apply(uH);refine b7 (Iq rfl rfl) rfl rfl rfl ?_;apply(yC);refine zC (k:=63) b2 (λZX=>?_) (λZX=>?_);·replace ZX:=cP ZX;exact aCS
 replace ZX:=cP ZX;have M1:=bR (l:=s.m4.l) (k:=p.toNat) 0 D;have WO:=bR (l:=s.m4.l) (k:=r.first.toNat) 0 D;apply(uH);refine b7 aQN rfl rfl rfl ?_;apply TL∘s0∘nQ∘nQ;refine b7 (by first|exact j9 M rfl rfl rfl rfl i6 (i:=r.first.toNat) c7 D|exact jF M rfl rfl rfl rfl (i:=r.first.toNat) c7 D) rfl rfl rfl ?_;apply TL∘s0;refine b7 QB rfl rfl rfl ?_;apply(C7);refine aJ ?_ ?_<;>intro dE;·
  apply eV∘KB∘y4;refine cF L R NQ ?_;have V:r6 s c.l fl.l r p t=19:=by rw[r6,if_neg bI,if_neg D,if_pos aQb]
  exact⟨by rw[Ib V D,V],rfl,rfl⟩
 have aLI:¬VA s r p:=by rw[VA];omega
 apply k5∘KB∘cJ;refine eD rfl (aFh r t _ _ gJ) ?_;apply(dD);refine aJ ?_ ?_<;>intro gZ;·
  apply eV∘KB∘y4;refine cF L R NQ ?_;have V:r6 s c.l fl.l r p t=8:=by rw[r6,if_neg bI,if_neg D,if_neg aLI,if_pos Xg]
  exact⟨by rw[Ib V D,V],rfl,rfl⟩
 have V:r6 s c.l fl.l r p t=u0 s c.l fl.l r.eR t:=by rw[r6,if_neg bI,if_neg D,if_neg aLI,if_neg Xg]
 apply k5∘Pr∘gQ∘gQ∘h1;refine eD rfl (a5k s c fl r.eR t _ _ h bM lL gJ) ?_;apply(pQ);refine aJ ?_ ?_<;>intro fW;·apply eV∘KB∘yE;refine cF L R NQ ?_;exact⟨by rw[Ib V fW,V],rfl,rfl⟩
 apply gI∘KB∘dO;intro FG;apply p6∘wF∘r1∘r1∘r1∘iG∘KB∘yD;refine cF L R NQ ?_;exact⟨by rw[xK,if_pos D,V,show u0 s c.l fl.l r.eR t=0 by omega],rfl,rfl⟩
end
def aS2{P:Program}(w:World)(t ty e:TypeId)(i:TypeInfo)(gJ:P.underlying t=some (.slice e))(aB:P.info? e=some i)(b off TO XL:Nat)(a:Option Addr)(c:Nat)(aZ:TO<=XL):
 (Builtin.append_ #[t,t] ty #[.slice (some ⟨b,off,none⟩) TO XL,.slice a 0 c]).run P w=.ok (.slice (some ⟨b,off,none⟩) TO XL) w:=by
 have cW:=run_storeCells_cells (P:=P) b (off+TO*i.size) [] 0 w eY eY eY;cases a with
 |none=>simp[Builtin.append_,run_underlying gJ,sizeOf,typeInfo,aB,Builtin.lenOf,aZ,Builtin.firstCells,storeCells]
 |some a=>have aH:=run_firstCells_some (P:=P) w i.size 0 a 0 c [] eY eY;simp[Builtin.append_,run_underlying gJ,sizeOf,typeInfo,aB,Builtin.lenOf,aZ,aH,storeCells]
section
variable{P:Program}{aV:Operand->Value}{L:aW}{R:aP}{dst:Option Tmp}{ty:TypeId}{pos:String}{after:Array Edge}{guard:Option (Nat×Bool)}(M:nN P){T:TypeId}{x y:Operand}
def aYu{e n fl bt z eK gC pJ mX z2}{b TO XL c:Nat}{gH:Option Addr}(dF:g5 M.gD T=some ⟨.slice e,n,fl,bt,z⟩)(c6:g5 M.gD e=some ⟨eK,gC,pJ,mX,z2⟩)(K:aV x=.slice (some ⟨b,0,none⟩) TO XL)(bB:aV y=.slice gH 0 c)(aZ:TO<=XL):
 dR P ⟨dst,.call ⟨.builtin .append,#[x,y],#[T,T]⟩,ty,pos,after,guard⟩ aV L R (λv E R'=>v=.slice (some ⟨b,0,none⟩) TO XL/\L=E/\R=R'):=by
 intro wN w cW a next Q gK
 have cZ:=LL (M.ok _ _ dF) rfl;obtain⟨hZ,u,l0,FX,i2,i3,i4⟩:=E0 (M.ok _ _ c6);have dH:execOp aV ⟨dst,.call ⟨.builtin .append,#[x,y],#[T,T]⟩,ty,pos,after,guard⟩=(do pure (.value (<-Builtin.append_ #[T,T] ty #[aV x,aV y]))):=by exact Vx
 have O:=aS2 w T ty e hZ cZ FX b 0 TO XL gH c aZ;refine EZ (w':=w) (v:=.slice (some ⟨b,0,none⟩) TO XL) ?_ (gK _ _ _ w ⟨rfl,rfl,rfl⟩ cW);rw[dH,K,bB];simp only[s5,O,rD,D8]
end
def aEV{aY:Type}{f:aY->List Value}(G: ∀x,(f x).all (·.oneCell')=true): ∀l:List aY,(l.flatMap f).all (·.oneCell')=true
 |[]=>rfl
 |x::l=>by rw[vZ,List.all_append,G x,aEV G l];rfl
section
variable{P:Program}{aV:Operand->Value}{L:aW}{R:aP}{dst:Option Tmp}{ty:TypeId}{pos:String}{after:Array Edge}{guard:Option (Nat×Bool)}(M:nN P){T:TypeId}{x y:Operand}
end
def aGw{lH:Type}(ws:List Nat)(t0:Nat->Value)(a7:e0 lH)(Q:fR):fR
 | .normal,t,L,R=>∃g,kH ws t0 t/\BX t (a7.rT g)/\(∃H0,L.Perm H0/\(a7.L g).Sublist H0)/\∀r∈a7.R g,aN r R
 |e,t,L,R=>Q e t L R
def Nt{lH:Type}{ws:List Nat}{t0 t:Nat->Value}{L H0:aW}{R:aP}{a7:e0 lH}{Q:fR}(g:lH)(cM:kH ws t0 t)(aF:BX t (a7.rT g))(aG:L.Perm H0)(b3:(a7.L g).Sublist H0)(b8:∀r∈a7.R g,aN r R):aGw ws t0 a7 Q .normal t L R:=⟨g,cM,aF,⟨H0,aG,b3⟩,b8⟩
def aDZ{P n code t L E R}{Q:fR}(aG:L.Perm E)(h:cO P n code t E R Q):cO P n code t L R Q:=Ik λ_ _ cW=>⟨_,_,cW.yN aG,h⟩
def a66{lH:Type}{P n x y t L R}{Q:fR}(ws:List Nat)(a7:e0 lH)(h:cO P n x t L R (aGw ws t a7 Q))(k:∀g c1,cO P n y (yT (xO ws t c1) (a7.rT g)) (a7.L g) (a7.R g) Q):cO P n x t L R (fA P n y Q):=by
 intro c a w aH aF;refine wp_mono (h c a w aH aF) ?_;rintro e a w ⟨n2,t',E,R',bZ,uS,qO⟩;cases e with
 |normal=>
  obtain⟨g,cM,KN,⟨H0,aG,b3⟩,b8⟩:=bZ;have e:yT (xO ws t t') (a7.rT g)=t':=by rw[Oi cM,Jn KN]
  refine⟨trivial,t',E,R',?_,uS,qO⟩;have:=k g t';rw[e]at this;exact aDZ aG (sN b3 b8 this)
 |_=>exact⟨n2,t',E,R',bZ,uS,qO⟩
def R6{P:Program}{dst:Option Tmp}{f:FuncId}{xs:List Operand}{n6:Array TypeId}{pos:String}{after:Array Edge}{guard:Option (Nat×Bool)}{ty:TypeId}{t:Nat->Value}{L:aW}{R:aP}{args:List Value}{Post:n8}(bX:xs.map (iL t)=args)
 (h:aM P f args.toArray L R Post):dR P ⟨dst,.call ⟨.value (.func f),xs.toArray,n6⟩,ty,pos,after,guard⟩ (iL t) L R Post:=
 Qx (by rw[<-bX];simp) rfl h
def cI.aKX{P op aV L R v}(h:cI P op aV L R v):dR P op aV L R (λMk E R'=>Mk=v/\L=E/\R=R'):=by exact aPs
def jW{aY:Type}{P n code t L R}{Q:fR}{T:TypeId}{f:aY->List Value}{aI:Nat}(p:J aY)(eE:aP){F:J aY->aW}(uU:tB T f p L F)(aH: ∀x,(f x).length=aI)(jY:0<aI)(bM:p.ok aI f)(aF: ∀s∈eE,aN s R)
 (h:cO P n code t (F J.nil) (p.W.eJ aI f eE::R) Q):cO P n code t L R Q:=by
 obtain⟨A,B,b3,hR⟩:=uU.split;rw[hR]at h;rw[b3,kF];refine rY eE aH jY bM aF ?_;have e:A++(J.nil:J aY).L T f++B=A++B:=by rw[pC,rV]
 rw[<-e];exact h
section
attribute [local irreducible] cO dG dP aM cI dR fA e2 e5 fB eQ e9 J.L
end
def aSB(n:Nat):cR:=⟨0,(n:Int),10,4,false,false,⟨1,1⟩,⟨0,0⟩⟩
section
variable{a:bT}{s:cG}{x:tE}(h:Q3 a s x)(O:a.aE.Z.l.length=0)
include h O
end
section
variable{a:bT}{s:cG}{x:tE}{P:bP gL}{a5Q:bP cR}{aTk aQ3:bP Int}(h:Q3 a s x)(O:a.aE.Z.l.length=0)(kR:P.l=a.aE.places.l++[⟨0,true⟩])(b8:a5Q.l=[aSB a.aE.places.l.length])(VY:aTk.l=x.b5.l++[0])(Kg:aQ3.l=[0])
include h O kR b8
include VY Kg
end
end Go.Proofs.YtdiajbdaadlfhaaGreatDoor
