/-
  Merged texts. By an AI agent.
-/
import Derived.Test.YtdiajbdaadlfhaaGreatDoorStaG
import Derived.Test.YtdiajbdaadlfhaaGreatDoorStaA
import Derived.Test.YtdiajbdaadlfhaaGreatDoorSiteS
import Derived.Test.YtdiajbdaadlfhaaGreatDoorCongrS
import Derived.Test.YtdiajbdaadlfhaaGreatDoorRoundA
import Derived.Test.YtdiajbdaadlfhaaGreatDoorStaC
import Derived.Test.YtdiajbdaadlfhaaGreatDoorRestN
import Derived.Test.YtdiajbdaadlfhaaGreatDoorSiteD
import Derived.Test.YtdiajbdaadlfhaaGreatDoorAppR
import Derived.Test.YtdiajbdaadlfhaaGreatDoorCflowR
import Derived.Test.YtdiajbdaadlfhaaGreatDoorLaw11b
set_option linter.all false
set_option maxHeartbeats 4000000
set_option maxRecDepth 20000
variable{A B:Prop}
namespace Go.Proofs.YtdiajbdaadlfhaaGreatDoor
open Go.Aw Go Go.Proofs.Tryz
section
def Yq(h:A->B:=by exact aA (l7 (hB:=[]) (c9:=[_,_,_,_,_,_,_,_,_,_,_,_,_,_,_,_,_,_,_,_,_,_,_]) M rfl rfl rfl rfl) rfl):=h
def Yl(h:B:=by exact⟨P4,E4,by rw[V];rfl,aGj R,λh=>by omega,λ_=>rfl,rfl,rfl⟩):=h
def aER(h:A->B:=by exact aA qW rfl):=h
def DD{aY:Type}{P:Program}{n:Nat}{code:Code}{t:Nat->Value}{L:aW}{R:aP}{Q:fR}{f:aY->List Value}{aI:Nat}(aH:∀x,(f x).length=aI)(jY:0<aI)(h:cO P n code t L ((⟨none,0,[]⟩:bP aY).eJ aI f []::R) Q):cO P n code t L R Q:=
 aFe (T:=3) (p:=(J.nil:J aY)) (f:=f) [] J.iJ aH jY eW h
def E4:aP:=[zW ⟨none,0,[]⟩,F4 ⟨none,0,[]⟩,SJ ⟨none,0,[]⟩,O1 ⟨none,0,[]⟩,L0 ⟨none,0,[]⟩,Jk ⟨none,0,[]⟩,VJ ⟨none,0,[]⟩,dW ⟨none,0,[]⟩,k3 ⟨none,0,[]⟩,hV ⟨none,0,[]⟩,JU ⟨none,0,[]⟩,AQ ⟨none,0,[]⟩,wA ⟨none,0,[]⟩,kO ⟨none,0,[]⟩]
def aUa{P:Program}{n:Nat}{code:Code}{t:Nat->Value}{L:aW}{R:aP}{Q:fR}(h:cO P n code t L (E4++R) Q):cO P n code t L R Q:=by refine DD (f:=fO.cells) (aI:=4) bH aX ?_;refine DD (f:=cH.cells) (aI:=5) bH aX ?_;refine DD (f:=cY.cells) (aI:=3) bH aX ?_;refine DD (f:=gW.cells) (aI:=3) bH aX ?_;refine DD (f:=e6.cells) (aI:=4) bH aX ?_;refine DD (f:=s8) (aI:=1) bH aX ?_;refine DD (f:=aR) (aI:=1) bH aX ?_;refine DD (f:=kJ.cells) (aI:=4) bH aX ?_;refine DD (f:=rK.cells) (aI:=6) bH aX ?_;refine DD (f:=g0.cells) (aI:=8) bH aX ?_;refine DD (f:=gV.cells) (aI:=3) bH aX ?_;refine DD (f:=hT.cells) (aI:=4) bH aX ?_;refine DD (f:=cR.cells) (aI:=10) bH aX ?_;refine DD (f:=gL.cells) (aI:=2) bH aX ?_;exact h
def aGj(R:aP):EW P4 (E4++R):=by have m:∀s∈E4,aN s (E4++R):=λs aF=>aU (oI _ aF);refine⟨⟨⟨m _ ?_,m _ ?_,m _ ?_,m _ ?_⟩,m _ ?_,m _ ?_,m _ ?_,m _ ?_⟩,m _ ?_,m _ ?_,m _ ?_,m _ ?_,⟨m _ ?_,m _ ?_⟩,m _ ?_⟩;all_goals simp[E4,P4]
def a0a(aL:List cH):Nat->List cH
 |0=>aL
 |k+1=>uL (a0a aL k) (k:Int) 0
def aUw(aL:List cH):List cH:=a0a aL aL.length
def BZ(s:dY)(f:jG):Int:=
 if o0 s≠0 then o0 s else if lA f.b6.l f.b0.l f.eB≠0 then lA f.b6.l f.b0.l f.eB
 else if f.b0.l.length≠s.b0.l.length then 17 else if∃x∈f.b6.l,x.fY≠0 then 8 else 0
def aKV(s:dY)(f:jG)(A:List Bool):mZ:=⟨s,f.b0.l,f.eB,A⟩
def Ig:e6:=⟨-1,0,⟨0,0⟩⟩
def a00(s:dY)(f:jG):c0:=⟨0,[],0,List.replicate s.e8.l.length Ig,List.replicate s.h2.l.length ⟨true,-1,0⟩,List.replicate s.b0.l.length ⟨true,-1,0⟩,aUw f.b6.l,HN,[]⟩
def a5i{aL:List cH}{c4:List Int}{cV:Int}(h:lA aL c4 cV=0): ∀k,u4 aL (a0a aL k) 0
 |0=>.refl h 0
 |k+1=>(a5i h k).a3o _
def aSI{s:dY}{f:jG}(h:BZ s f=0):o0 s=0/\lA f.b6.l f.b0.l f.eB=0/\f.b0.l.length=s.b0.l.length/\∀x∈f.b6.l,x.fY=0:=by
 rw[BZ]at h;split at h;·omega
 split at h;·omega
 split at h;·cases h
 split at h;·cases h
 rename_i G U aO bW;exact⟨Decidable.not_not.1 G,Decidable.not_not.1 U,Decidable.not_not.1 aO,λx K=>by
  rcases BC (x.fY=0)with dV|dV;·exact dV
  ·exact absurd ⟨x,K,dV⟩ bW⟩
def aHj{s:dY}{f:jG}{A:List Bool}(h:BZ s f=0)(hD:mU s.c2.aE A):Inv (aKV s f A) (a00 s f):=by
 obtain⟨G,U,aO,bW⟩:=aSI h;have Y:=a5i (cV:=f.eB) U f.b6.l.length;refine⟨G,hD,⟨oH _,by show(0:Int)<=2147483648;decide⟩,Gv,λx K=>?_,Gv,λw cE=>?_,Gv,Y.lA U ⟨oH _,by decide⟩,?_,aO,⟨by show(0:Int)<=0;decide,.inl rfl⟩,rW _,⟨λx K=>(by cases K),rW _⟩⟩;·rw[List.eq_of_mem_replicate K,H4,Ig];dsimp only;omega
 ·rw[List.eq_of_mem_replicate cE];exact⟨⟨by decide,by decide,by decide,.inl rfl⟩,oH _⟩
 ·exact(Y.time ⟨⟨oH _,by decide⟩,λx K=>by rw[bW x K];exact oH _⟩).2
attribute [local irreducible] cO dG dP aM cI dR fA e2 e5 fB eQ e9 J.L
def aVQ(s:dY)(f:jG)(A:List Bool)(L:aW)(R:aP):n8:=λv E R'=>∃(y:dS) (S:aP),v=.tuple #[y.val,.int .i64 (BZ s f)]/\EW y R'/\(BZ s f=0->n7 (aKV s f A) (a00 s f) y)/\(BZ s f≠0->y=P4)/\L=E/\S++R=R'
def aXe(s:dY)(f:jG)(A:List Bool)(L:aW)(R:aP)(aF:BN s R)(aH:pY f R)(hD:mU s.c2.aE A):
 aM prog 44 [s.val,f.val].toArray L R (aVQ s f A L R):=by
 have b92:=aH.aL.mono λr O=>aU (kE E4 O);refine cX 101 call44 func44 rfl rfl rfl ?_;apply(fC);intro eN;apply(nW);intro e4;apply(dO);intro dU;apply eA∘yQ;refine aUa ?_;have Kh:∀r∈R,aN r (E4++R):=λr O=>aU (kE _ O);have PO:=aF.mono Kh;have FM:=aH.mono Kh;apply(e1);refine aA EC rfl ?_;refine eD rfl (Yy s _ _ PO) ?_;apply(pQ);refine aJ ?_ ?_<;>intro bI;·
  apply eV∘Yq∘yE;refine cF L (E4++R) BG ?_;have V:BZ s f=o0 s:=by rw[BZ,if_pos bI]
  exact Yl
 apply k5∘aER;refine eD rfl (Dd f _ _ FM) ?_;apply(pQ);refine aJ ?_ ?_<;>intro cK;·
  apply eV∘Yq∘yE;refine cF L (E4++R) BG ?_;have V:BZ s f=lA f.b6.l f.b0.l f.eB:=by rw[BZ,if_neg bI,if_pos cK]
  exact Yl
 apply k5∘jM∘jM∘pG;refine aJ ?_ ?_<;>intro dE;·
  apply eV∘Yq∘y4;refine cF L (E4++R) BG ?_;have V:BZ s f=17:=by rw[BZ,if_neg bI,if_neg cK,if_pos D]
  exact Yl
 have KM:o0 s=0:=Decidable.not_not.1 bI;have qA:lA f.b6.l f.b0.l f.eB=0:=Decidable.not_not.1 cK;have FO:=L1 qA;have IZ:=FO.CN;have vT:=FO.BI;have HH:=(VB KM).len;apply(LS);refine e3 [(2,.pointer _),(3,.pointer _),(4,.pointer _),(33,.slice _ _ _),(34,.int _ _),(35,.int _ _)] cB λg9=>?_;refine lF ([5,9]++dJ 35 9) (λg:{k:Nat//k<=f.b6.l.length/\∀j:Nat,j<k->(f.b6.l.getD j default).fY=0}=>[(35,.int .i64 ((g.1:Nat):Int))]) (λg=>f.b6.l.length-g.1) (⟨0,by omega,λj a6=>by omega⟩) ?_;rintro⟨k,Y,jX⟩ c1;try dsimp only
 apply(gU);refine aJ ?_ ?_<;>intro gZ;·
  have bE:=bR (l:=f.b6.l) (k:=k) default D;apply(jK);refine aA rF rfl ?_;apply Ma∘dO;intro jB;apply BP∘pG;refine aJ ?_ ?_<;>intro fW;·apply eV∘Yq∘E7∘TK;refine cF L (E4++R) BG ?_;(have V:BZ s f=8:=by rw[BZ,if_neg bI,if_neg cK,if_neg D,if_pos ⟨_,hS bE,fW⟩]);exact Yl
  apply(k9);exact aOK
 have aLz:∀x∈f.b6.l,x.fY=0:=λx K=>by obtain⟨j,a6,rfl⟩:=Gm K;have:=jX j D;rwa[lN,w4 a6]at this
 have V:BZ s f=0:=by rw[BZ,if_neg bI,if_neg cK,if_neg D,if_neg (λ⟨x,K,h⟩=>h (aLz x K))]
 have bA:∀q∈E4,aN q (E4++R):=λq bZ=>aU (oI _ bZ);have vO:Ph (⟨s,0,⟨none,0,[]⟩,0,⟨none,0,[]⟩,⟨none,0,[]⟩,⟨none,0,[]⟩,f,HN,⟨none,0,[]⟩⟩:dS):=⟨KM,rW _,rW _,rW _,rW _,(by show f.b6.l.length<=1000;omega),(by show f.b0.l.length<=1000;omega),rW _⟩;have AX:=aGj R;have b1z:EW (⟨s,0,⟨none,0,[]⟩,0,⟨none,0,[]⟩,⟨none,0,[]⟩,⟨none,0,[]⟩,f,HN,⟨none,0,[]⟩⟩:dS) (E4++R):=⟨PO,AX.held,AX.fN,AX.gR,AX.b1,FM,AX.gN⟩;apply(ND);refine jR M [0,1,2,3,4,5,6] _ mixed aQ iP ?_;refine b7 EC rfl rfl rfl ?_;refine b7 qW rfl rfl rfl ?_;refine xZ rfl (a77 _ _) ?_;refine b7 (l7 (hB:=[(0,(Value.agg _).cells.toList),(6,(Value.agg _).cells.toList),(7,(Value.agg _).cells.toList)]) (c9:=[_,_,_,_,_,_,_,_,_,_,_,_,_,_,_,_,_,_,_,_,_,_,_]) M rfl rfl rfl rfl) rfl rfl rfl ?_;refine zD rfl (aIv (⟨s,0,⟨none,0,[]⟩,0,⟨none,0,[]⟩,⟨none,0,[]⟩,⟨none,0,[]⟩,f,HN,⟨none,0,[]⟩⟩:dS) _ _ vO b1z) rfl rfl ?_;rintro v E R' ⟨s',cD,DJ,dK,mS,fG,bL,fS,rfl,fF,rfl,rfl⟩;refine⟨bC,hC,?_⟩;apply(uZ);intro lI;apply(uY);refine jI (bY (cC (cC ?_)));obtain⟨jA,FJ⟩:∃jA,jA=fS++(E4++R):=⟨_,rfl⟩;refine w8 a4H ?_;have a8A:aGP (⟨s,0,⟨none,0,[]⟩,0,⟨none,0,[]⟩,⟨none,0,[]⟩,⟨none,0,[]⟩,f,HN,⟨none,0,[]⟩⟩:dS) s' cD DJ dK mS fG bL jA:=by rw[FJ];exact fF
 have Tc:∀r∈R,aN r jA:=λr O=>aU (by rw[FJ];exact kE _ (kE _ O));have b4e:dK.l=[]:=fF.em;have b4m:mS.l=[]:=fF.a1N;have b31:fG.l=[]:=fF.a1J;have b4a:bL.l=[]:=fF.a1L;have b93:DJ.b6.l=f.b6.l:=fF.Sn;apply e1∘pE;refine e3 [(2,.pointer _),(4,.pointer _),(10,.pointer _),(51,.int _ _),(52,.int _ _)] cB λs4=>?_;refine m6 ([11]++dJ 52 12) ((⟨λg=>[(52,.int .i64 ((g.1.1:Nat):Int))],λg=>⟨lI,(⟨s',0,cD,0,dK.W,mS.W,fG.W,g.1.2.1,HN,bL.W⟩:dS).cells,132⟩::(bL.L 282 fO.cells++(fG.L 141 cY.cells++(mS.L 209 gW.cells++(dK.L 207 e6.cells++(⟨dU,P4.cells,132⟩::⟨e4,f.cells,120⟩::⟨eN,s.cells,117⟩::L))))),λg=>g.1.2.2,λg=>f.b6.l.length-g.1.1⟩:e0 {g:Nat×jG×aP//g.1<=f.b6.l.length/\(g.2.1.b6.l=a0a f.b6.l g.1/\g.2.1.b0.l=f.b0.l/\g.2.1.eB=f.eB)/\pY g.2.1 g.2.2/\∀r∈jA,aN r g.2.2})) (⟨(0,DJ,jA),by dsimp only;omega,⟨fF.Sn,fF.a1O,fF.a1M⟩,a8A.fP,oV _⟩) ?_;rintro⟨⟨g8,h5,pD⟩,g6,⟨FP,ZV,lB⟩,AZ,a2i⟩ c1;try dsimp only
 dsimp only[dS.cells];dsimp only at g6 FP ZV lB AZ a2i;apply(gU);refine aJ ?_ ?_<;>intro lJ;·
  have a9Q:=a5i (cV:=f.eB) qA g8;have b2z:lA h5.b6.l h5.b0.l h5.eB=0:=by rw[FP,ZV,lB];exact a9Q.lA qA ⟨oH _,by decide⟩
  have WB:h5.b6.l.length=f.b6.l.length:=by rw[FP];exact a9Q.len
  have b4V:L7 h5.b6.l 0:=by rw[FP];exact a9Q.time ⟨⟨oH _,by decide⟩,λx K=>by rw[aLz x K];exact oH _⟩
  have IP:AU h5.b6.l h5.b0.l h5.eB (g8:Int) 0=0:=by rw[AU,if_neg (by rw[b2z];decide),if_neg D,if_pos b4V]
  apply nC∘eA;refine eS (bY (dM ?_));apply gF∘aER∘cJ;refine dN rfl (aJe h5 (g8:Int) 0 _ _ AZ) rfl ?_;rintro v E R' ⟨uX,D5,cV,rfl,⟨aAo,aAt⟩,Z4,rfl,rfl⟩;refine aA jE rfl ?_;apply Y3∘gF;refine OR M rfl rfl rfl rfl qV aK aK aK ?_;refine eS (hG (bY ?_));obtain⟨aAp,a2M,rfl⟩:=Z4 IP;refine jW (T:=3) (f:=aR) (aI:=1) D5 [] cL bH aX aAt eW ?_;refine e7 h3 ?_;refine jW (T:=143) (f:=cH.cells) (aI:=5) uX [] cL bH aX aAo eW ?_;refine e7 h3 ?_;apply e1∘m0;exact eG ⟨(g8+1,⟨uX.W,D5.W,h5.eB⟩,wA uX.W::dW D5.W::pD),by dsimp only;omega,⟨by show uX.l=_;rw[aAp,FP];rfl,a2M.trans ZV,lB⟩,⟨aU (.head _),aU (.tail _ (.head _))⟩,λr O=>(a2i r O).mono λr O=>aU (.tail _ (.tail _ O))⟩
 obtain rfl:g8=f.b6.l.length:=by omega
 apply D2∘pE;refine e3 [(2,.pointer _),(4,.pointer _),(10,.pointer _),(66,.int _ _),(67,.int _ _)] cB λGg=>?_;refine m6 (dJ 67 9) ((⟨λg=>[(67,.int .i64 ((g.1.1:Nat):Int))],λg=>⟨lI,(⟨s',0,cD,0,g.1.2.W,mS.W,fG.W,h5,HN,bL.W⟩:dS).cells,132⟩::(bL.L 282 fO.cells++(fG.L 141 cY.cells++(mS.L 209 gW.cells++(g.1.2.L 207 e6.cells++(⟨dU,P4.cells,132⟩::⟨e4,f.cells,120⟩::⟨eN,s.cells,117⟩::L))))),λ_=>pD,λg=>s.e8.l.length-g.1.1⟩:e0 {g:Nat×J e6//g.1<=s.e8.l.length/\g.2.ok 4 e6.cells/\g.2.l=List.replicate g.1 Ig})) (⟨(0,dK),by dsimp only;omega,fF.Fm,b4e⟩) ?_;rintro⟨⟨eK,I4⟩,j4,a9T,M0⟩ c1;try dsimp only
 dsimp only[dS.cells];dsimp only at j4 a9T M0;have b9r:I4.l.length=eK:=by rw[M0,Gv]
 apply(gU);refine aJ ?_ ?_<;>intro kK;·refine gG (bY (cC (iH (dM ?_))));apply(gB);refine aA aP5 rfl ?_;refine g2 Wz rfl ?_;rintro v E R' ⟨aZ4,rfl,rfl,Dy⟩;replace Dy:=Dy.symm;subst Dy;refine g2 (jZ (f:=e6.cells) (p:=I4) (a:=Ig) M rfl rfl rfl rfl (a9T) cL j8 rfl kG) rfl ?_;rintro v E R' ⟨aBf,rfl,aAc,rfl,rfl⟩;apply q6∘tF;exact eG ⟨(eK+1,⟨aBf,I4.l++[Ig]⟩),by dsimp only;omega,aAc,by dsimp only;rw[M0,aB0]⟩
 obtain rfl:eK=s.e8.l.length:=by omega
 apply D2∘pE;refine e3 [(2,.pointer _),(4,.pointer _),(10,.pointer _),(78,.int _ _),(79,.int _ _)] cB λaBF=>?_;refine m6 (dJ 79 9) ((⟨λg=>[(79,.int .i64 ((g.1.1:Nat):Int))],λg=>⟨lI,(⟨s',0,cD,0,I4.W,g.1.2.W,fG.W,h5,HN,bL.W⟩:dS).cells,132⟩::(bL.L 282 fO.cells++(fG.L 141 cY.cells++(g.1.2.L 209 gW.cells++(I4.L 207 e6.cells++(⟨dU,P4.cells,132⟩::⟨e4,f.cells,120⟩::⟨eN,s.cells,117⟩::L))))),λ_=>pD,λg=>s.h2.l.length-g.1.1⟩:e0 {g:Nat×J gW//g.1<=s.h2.l.length/\g.2.ok 3 gW.cells/\g.2.l=List.replicate g.1 (⟨true,-1,0⟩:gW)})) (⟨(0,mS),by dsimp only;omega,fF.aNi,b4m⟩) ?_;rintro⟨⟨mJ,W9⟩,wR,aAM,sW⟩ c1;try dsimp only
 dsimp only[dS.cells];dsimp only at wR aAM sW;have bAd:W9.l.length=mJ:=by rw[sW,Gv]
 apply(gU);refine aJ ?_ ?_<;>intro qM;·refine gG (bY (cC (iH ?_)));refine jV M [] [0,1,2,3] [4,5,6] (_) _ mixed aQ bC b9 ?_;apply(lS);refine mW rfl (aZl _ _) rfl rfl ?_;rintro v E R' ⟨rfl,rfl,rfl⟩;refine⟨bC,hC,?_⟩;refine RH Nf rfl rfl rfl ?_;rintro v E R' ⟨Sd,rfl,rfl,PH⟩;replace PH:=PH.symm;subst PH;apply(DA);refine pP (jZ (f:=gW.cells) (p:=W9) (a:=⟨true,-1,0⟩) M rfl rfl rfl rfl (aAM) cL j8 rfl kG) rfl rfl rfl ?_;rintro v E R' ⟨aNF,rfl,aAd,rfl,rfl⟩;apply fI∘U0∘m0;exact eG ⟨(mJ+1,⟨aNF,W9.l++[⟨true,-1,0⟩]⟩),by dsimp only;omega,aAd,by dsimp only;rw[sW,aB0]⟩
 obtain rfl:mJ=s.h2.l.length:=by omega
 apply D2∘pE;refine e3 [(4,.pointer _),(10,.pointer _),(90,.int _ _),(91,.int _ _)] cB λb6N=>?_;refine m6 (dJ 91 9) ((⟨λg=>[(91,.int .i64 ((g.1.1:Nat):Int))],λg=>⟨lI,(⟨s',0,cD,0,I4.W,W9.W,g.1.2.W,h5,HN,bL.W⟩:dS).cells,132⟩::(bL.L 282 fO.cells++(g.1.2.L 141 cY.cells++(W9.L 209 gW.cells++(I4.L 207 e6.cells++(⟨dU,P4.cells,132⟩::⟨e4,f.cells,120⟩::⟨eN,s.cells,117⟩::L))))),λ_=>pD,λg=>s.b0.l.length-g.1.1⟩:e0 {g:Nat×J cY//g.1<=s.b0.l.length/\g.2.ok 3 cY.cells/\g.2.l=List.replicate g.1 (⟨true,-1,0⟩:cY)})) (⟨(0,fG),by dsimp only;omega,fF.aNh,b31⟩) ?_;rintro⟨⟨h8,Fy⟩,zO,Ti,dE⟩ c1;try dsimp only
 dsimp only[dS.cells];dsimp only at zO Ti dE;have b8X:Fy.l.length=h8:=by rw[dE,Gv]
 apply(gU);refine aJ ?_ ?_<;>intro MR;·refine gG (bY (cC (iH (dM ?_))));apply(gB);refine aA aPL rfl ?_;refine g2 Nf rfl ?_;rintro v E R' ⟨aZ6,rfl,rfl,Ea⟩;replace Ea:=Ea.symm;subst Ea;refine g2 (jZ (f:=cY.cells) (p:=Fy) (a:=⟨true,-1,0⟩) M rfl rfl rfl rfl (Ti) cL j8 rfl kG) rfl ?_;rintro v E R' ⟨aBl,rfl,aAg,rfl,rfl⟩;apply q6∘tF;exact eG ⟨(h8+1,⟨aBl,Fy.l++[⟨true,-1,0⟩]⟩),by dsimp only;omega,aAg,by dsimp only;rw[dE,aB0]⟩
 obtain rfl:h8=s.b0.l.length:=by omega
 refine jW (T:=207) (f:=e6.cells) (aI:=4) I4 [] cL bH aX a9T eW ?_;refine e7 h3 ?_;refine jW (T:=209) (f:=gW.cells) (aI:=3) W9 [] cL bH aX aAM eW ?_;refine e7 h3 ?_;refine jW (T:=141) (f:=cY.cells) (aI:=3) Fy [] cL bH aX Ti eW ?_;refine e7 h3 ?_;refine jW (T:=282) (f:=fO.cells) (aI:=4) bL [] cL bH aX fF.PS eW ?_;refine e7 h3 ?_;obtain⟨hE,wP⟩:∃hE,hE=kO bL.W::AQ Fy.W::JU W9.W::hV I4.W::pD:=⟨_,rfl⟩;refine w8 a4F ?_;have Dk:∀r∈pD,aN r (hE++R):=λr O=>aU (by rw[wP];exact .tail _ (.tail _ (.tail _ (.tail _ (oI _ O)))));have aKZ:∀r∈jA,aN r (hE++R):=λr O=>(a2i r O).mono Dk;have Ki:∀r∈R,aN r hE:=λr O=>((Tc r O).mono a2i).mono λr O=>aU (by rw[wP];exact .tail _ (.tail _ (.tail _ (.tail _ O))));have dH:aN (kO bL.W) (hE++R):=aU Xe;have eH:aN (AQ Fy.W) (hE++R):=aU a4J;have nS:aN (JU W9.W) (hE++R):=aU aCq;have B3:aN (hV I4.W) (hE++R):=aU (by rw[wP];exact .tail _ (.tail _ (.tail _ (.head _))));apply(oS);refine aA NP rfl ?_;apply(yD);refine kN (E:=L) (R':=hE++R) BG ?aG ?b3 ?b8;case aG=>exact⟨(⟨s',0,cD,0,I4.W,W9.W,Fy.W,h5,HN,bL.W⟩:dS),hE,by rw[V],⟨a8A.bO.mono aKZ,a8A.held.mono aKZ,B3,nS,eH,AZ.mono Dk,dH⟩,λ_=>⟨fF.es,rfl,fF.a1K,rfl,M0,sW,dE,FP,ZV,lB,rfl,b4a⟩,λh=>absurd V h,rfl,rfl⟩
 case b3=>exact bC
 case b8=>
  exact λr O=>by
   rcases List.mem_append.1 O with h|h;·exact aU h
   ·exact Ki r h
end
section
variable{g:mZ}{p:c0}
structure AC(p q:c0):Prop where
 fN:q.fN=p.fN
 held:q.held=p.held
 fU:q.fU=p.fU
def AC.refl(p:c0):AC p p:=⟨rfl,rfl,rfl⟩
def AC.trans{p q r:c0}(h:AC p q)(k:AC q r):AC p r:=⟨k.fN.trans h.fN,k.held.trans h.held,k.fU.trans h.fU⟩
def aHS(z:Int):AC p (CV g p z):=by rw[CV];split<;>exact⟨rfl,rfl,rfl⟩
def aFg: ∀(l:List Int) {p:c0},AC p (IB g p l)
 |[],p=>.refl p
 |z::l,p=>(aHS z).trans (aFg l)
def a6f(kind:Int): ∀(l:List Int) {p:c0},AC p (ET kind p l)
 |[],p=>.refl p
 |z::l,p=>AC.trans (q:=sK p kind z 0) ⟨rfl,rfl,rfl⟩ (a6f kind l)
def aYf(dX:List Int)(z:Nat):AC p (QZ g dX p z):=by
 rw[QZ];split;·exact .refl p
 ·exact AC.trans (q:={p with b1:=p.b1.set z ⟨true,(p.b1.getD z default).clear,EO (g.bO.b0.l.getD z default).mB.l dX⟩}) ⟨rfl,rfl,rfl⟩ (aHS _)
def aHf(dX:List Int): ∀k,AC p (sT g dX p k)
 |0=>.refl p
 |k+1=>(aHf dX k).trans (aYf dX k)
def aWB(t:Int):AC p (cU g p t):=by rw[cU];refine AC.trans ?_ (aHf _ _);rw[TQ];refine AC.trans ?_ (a6f _ _);refine AC.trans ?_ (a6f _ _);refine AC.trans (q:=iO g {p with time:=t}) ?_ ⟨rfl,rfl,rfl⟩;rw[iO];exact AC.trans (q:={p with time:=t,gR:=_,b1:=_}) ⟨rfl,rfl,rfl⟩ (aFg _)
end
section
attribute [local irreducible] cO dG dP aM cI dR fA e2 e5 fB eQ e9 J.L
section
variable(b ZF:Nat)
end
section
variable{s:dY}{len rN cM:Int}(h:Hb s len rN cM)
include h
def aVT:h4 s.c2=0:=by
 obtain⟨G,U,aO,bW,dV,gY,j1,_,vN,⟨VX,b8x⟩,_⟩:=h;obtain⟨⟨⟨⟨KR,fG,bL⟩,⟨TN,Mc,fM⟩⟩,⟨b8n,iW,fl⟩,⟨b8k,b8l,rN⟩⟩,Me,Ju,TY,ps⟩:=s;dsimp only at G U aO bW;subst G U aO bW;have:len=1\/len=2\/len=3\/len=4:=by omega
 rcases this with rfl|rfl|rfl|rfl<;>rfl
def aV0:Q5 s:=by
 have bX:=aVT h;obtain⟨G,U,aO,bW,dV,gY,⟨z,j1,nK,z2,z3,z4⟩,_,vN,O⟩:=h;refine⟨bX,by rw[dV,gY,j1,vN];simp,λi aB=>?_,λc bU=>?_,λy bB=>?_,λp aG=>?_⟩;·
  rw[dV]at aB|-;obtain rfl:i=0:=by simp only[kL,v1]at aB;omega
  rw[AR,if_neg aX,if_neg,if_neg (by rintro⟨k,Y,_⟩;omega)];rw[T7,U];show¬¬((0:Int)<=0/\(0:Int)<1);decide
 ·
  rw[gY]at bU;rw[List.mem_singleton.1 bU,LD,if_neg,if_neg (by show¬((0:Int)<0\/(1099511627776:Int)<0);decide),if_pos aK,QW,if_pos];·show(100:Int)<=1000000/\(0:Int)<=60/\(60:Int)<100/\0<=rN/\rN<=100000;omega
  ·rw[dV,U];show¬(0:Int)≠0;decide
 ·
  rw[j1]at bB;rw[List.mem_singleton.1 bB,DF,nK,gY,U,if_neg (by show¬JJ _ 1≠0;decide),if_neg D,if_neg];rintro⟨i,aB,aT⟩;rw[z3]at aB aT;obtain rfl:i=0:=by simp only[kL,v1]at aB;omega
  revert aT;show¬BS 1 [0] 0;decide
 ·rw[vN]at aG;simp only[nX,pO,or_false]at aG;omega
end
end
section
variable{s:dY}{len rN cM:Int}(h:Hb s len rN cM)
include h
end
def a3o(n:Nat):List cH:=(List.range n).map λ(i:Nat)=>⟨(i:Int)-1,0,-1,false,false⟩
section
variable{s:dY}{len rN cM:Int}{f:jG}{A:List Bool}(h:Hb s len rN cM)
include h
def aWh{n:Nat}(bA:1<=n/\n<=3)(G:f.b6.l=QV n)(U:f.b0.l=[(n:Int)-1])(aO:f.eB=3):BZ s f=0:=by
 obtain⟨z,j1,_⟩:=h.eR;have qA:lA f.b6.l f.b0.l f.eB=0:=by
  rw[G,U,aO];have:n=1\/n=2\/n=3:=by omega
  rcases this with rfl|rfl|rfl<;>decide
 rw[BZ,(aV0 h).DI,if_neg aX,qA,if_neg aX,if_neg (by rw[U,j1];simp),if_neg];rintro⟨x,K,VX⟩;rw[G,QV,List.mem_map]at K;obtain⟨i,_,rfl⟩:=K;exact VX rfl
def b6J:List cH:=[⟨-1,0,0,false,false⟩]
def aBo(t:Int):c0:=⟨t,[],0,[Ig],[⟨true,-1,t⟩],[⟨true,-1,0⟩],b6J,HN,[]⟩
def aXn(G:f.b6.l=QV 1):a00 s f=aBo 0:=by obtain⟨z,j1,_⟩:=h.eR;rw[a00,h.TP,h.h2,j1,G];rfl
end
section
attribute [local irreducible] cO dG dP aM cI dR fA e2 e5 fB eQ e9 J.L
def Ou(h:A->B:=by exact aA rF rfl):=h
def a0r(h:A->B:=by exact g2 Nf rfl):=h
def a6A(h:A->B:=by exact aA aQT rfl):=h
def aJS(h:A->B:=by exact aA (rX M ((⟨sY,l⟩:J Bool)) rfl rfl rfl cL bS bH bS aK) rfl):=h
def aFu(h:A->B:=by exact aA (iV M ((⟨sY,l⟩:J Bool)) _ rfl rfl ((show _=Value.slice _ _ _ from rfl).trans (by simp only[J.val,qN])) rfl bS (i:=a.to.toNat) c7 iY) rfl):=h
def aGn(h:A->B:=by exact aA (by first|exact j9 M rfl rfl rfl rfl i6 (i:=a.to.toNat) c7 D|exact jF M rfl rfl rfl rfl (i:=a.to.toNat) c7 D) rfl):=h
def a6s{m:eC}{fl:List bG}: ∀k,(GB m fl k).length<=2*k
 |0=>gS _
 |k+1=>by
  have:=a6s (m:=m) (fl:=fl) k
  have U:(N8 m fl k).length<=2:=by unfold N8;(repeat' split)<;>simp
  rw[GB,hL];omega
def aZB(m:eC)(fl:bP bG)(L:aW)(R:aP)(a1:oY m R)(iF:aN (wG fl) R)(cS:iB m=0)(bA:fl.l.length=m.Z.l.length):
 aM prog 111 [m.val,fl.val].toArray L R (λw E R'=>∃p:J iI,w=.tuple #[p.val,.bool true]/\p.ok 3 iI.cells/\p.l=J0 m fl.l/\p.L 256 iI.cells++L=E/\R=R'):=by
 have WD:=a1.Z;have bM:=R8 cS;have HD:=bM.Z;refine cX 62 call111 func111 rfl rfl rfl ?_;apply(fC);intro eN;apply kS∘xF∘lG;refine eD rfl (aE9 m _ _ a1) ?_;apply(OB);apply dT (aD:=[_,_,_,_,_,_]) (j:=3) (b4:=12) rfl rfl aK rfl b2 rfl;·intro fV;replace fV:=cP fV;exact(j0∘jM) v6
 intro m2;apply(dD);refine aJ ?_ ?_<;>intro bI;·(exfalso;rcases bI with h|h<;>omega)
 apply gI∘r2∘pE;refine e3 [(1,.slice _ _ _),(6,.slice _ _ _),(21,.slice _ _ _),(22,.int _ _),(23,.int _ _)] cB λg9=>?_;refine oM ([6,7,8]++dJ 23 38) ((⟨λg=>[(23,.int .i64 ((g.1.1:Nat):Int)),(6,g.1.2.val)],λg=>g.1.2.L 256 iI.cells++(⟨eN,m.cells,28⟩::L),λ_=>R,λg=>m.Z.l.length-g.1.1⟩:e0 {g:Nat×J iI//g.1<=m.Z.l.length/\g.2.ok 3 iI.cells/\g.2.l=GB m fl.l g.1})) (⟨(0,J.nil),by dsimp only;omega,J.iJ,rfl⟩) cB JB eX ?_;rintro⟨⟨k,p⟩,pN,fJ,jH⟩ c1;try dsimp only
 dsimp only at pN fJ jH;have dC:=a6s (m:=m) (fl:=fl.l) k;rw[<-jH]at dC;apply(gU);refine aJ ?_ ?_<;>intro cK;·
  have WP:=bR (l:=m.Z.l) (k:=k) default D;have S6:=bR (l:=fl.l) (k:=k) default D;apply nC∘Ou∘Lx∘dO;intro mF;apply eA∘RU∘dD;refine aJ ?_ ?_<;>intro dE;·refine oZ (oX (oW (bY (dM ?_))));apply(m0);exact eG ⟨(k+1,p),by dsimp only;omega,fJ,by dsimp only;rw[GB,jH,N8,if_pos dE,rV]⟩
  apply k5∘k2∘Ou∘tG∘y8;refine aJ ?_ ?_<;>intro gZ;·
   apply y6∘nZ∘a6A∘a0r;rintro v E R' ⟨b73,rfl,rfl,a80⟩;replace a80:=a80.symm;subst a80;refine g2 (jZ (f:=iI.cells) (a:=⟨(k:Int),(m.Z.l.getD k default).bK,(m.Z.l.getD k default).to⟩) M rfl rfl rfl rfl (fJ) cL j8 rfl kG) rfl ?_;rintro v E R' ⟨aBd,rfl,Kz,rfl,rfl⟩;apply tH∘k2∘Ou∘tG∘nD;refine aJ ?_ ?_<;>intro fW;·apply y6∘nZ∘a6A∘a0r;rintro v E R' ⟨SB,rfl,rfl,AW⟩;replace AW:=AW.symm;subst AW;refine g2 (jZ (f:=iI.cells) (a:=⟨(k:Int),(m.Z.l.getD k default).to,(m.Z.l.getD k default).bK⟩) M rfl rfl rfl rfl (Kz) cL j8 rfl kG) rfl ?_;exact aOv
   exact aO4
  apply gI∘k2∘Ou∘tG∘nD;refine aJ ?_ ?_<;>intro fW;·apply y6∘nZ∘a6A∘a0r;rintro v E R' ⟨SB,rfl,rfl,AW⟩;replace AW:=AW.symm;subst AW;refine g2 (jZ (f:=iI.cells) (a:=⟨(k:Int),(m.Z.l.getD k default).to,(m.Z.l.getD k default).bK⟩) M rfl rfl rfl rfl (fJ) cL j8 rfl kG) rfl ?_;exact aOv
  exact aO4
 obtain rfl:k=m.Z.l.length:=by omega
 apply UX∘kS∘sP;refine cF (p.L 256 iI.cells++L) R (tD rfl yW EE) ?_;exact⟨p,rfl,fJ,jH,rfl,rfl⟩
def Ja(n:Nat)(l:List iI):Prop:=∀a∈l,(0<=a.bK/\a.bK<n)/\0<=a.to/\a.to<n
def aSN{m:eC}{fl:List bG}(bM:UI m):Ja m.places.l.length (J0 m fl):=λa bX=>by
 obtain⟨i,b,aB,_,rfl⟩:=a44.1 bX
 have O:=bM.aS i _ (bR (l:=m.Z.l) (k:=i) default aB)
 have G:=O.bK
 have U:=O.to
 cases b with
 |false=>exact⟨G,U⟩
 |true=>exact⟨U,G⟩
def aWA{m:eC}{l:List iI}{w:Int}{a:iI}(bX:a∈l)(G:a.aS≠w)(U:0<=a.bK)(aO:0<=a.to)(bW:(m.places.l.getD a.to.toNat default).m7=false):Ra m l w a.bK.toNat a.to.toNat:=⟨a,bX,G,by omega,by omega,bW⟩
def aTF(m:eC)(gH:bP iI)(seen:bP Bool)(w:Int)(L:aW)(R:aP)(a1:oY m R)(V0:aN (Ci gH) R)(aF:aN (a6j seen) R)(jQ:Ja m.places.l.length gH.l)(aZ:seen.l.length=m.places.l.length)(n2:m.places.l.length<=64)(IW:gH.l.length<=1000):
 aM prog 157 [m.val,gH.val,seen.val,.int .i64 w].toArray L R (λv E R'=>∃p:J Bool,v=p.val/\p.ok 1 l1/\Pf m gH.l w seen.l p.l/\p.L 4 l1++L=E/\R=R'):=by
 have wS:=a1.places;refine cX 57 call157 func157 rfl rfl rfl ?_;apply(fC);intro dU;apply tH∘gQ;refine g2 (rH (f:=l1) (xs:=seen) M rfl rfl rfl aX rfl rfl (aF) bH D) rfl ?_;rintro v E R' ⟨sY,rfl,WE,rfl,rfl⟩;apply r2∘l6∘Ga;refine e3 [(1,.slice _ _ _),(3,.int _ _),(4,.pointer _),(9,.slice _ _ _),(10,.bool _)] cB λg9=>?_;refine m6 ([10,12]++dJ 15 41) ((⟨λq=>[(10,.bool q.1.1)],λq=>(⟨sY,q.1.2⟩:J Bool).L 4 l1++(⟨dU,m.cells,28⟩::L),λ_=>R,λq=>QK q.1.2*2+(if q.1.1=true then 1 else 0)⟩:e0 {q:Bool×List Bool//(⟨sY,q.2⟩:J Bool).ok 1 l1/\Q6 m gH.l w seen.l q.2/\(q.1=false->∀a∈gH.l,a.aS≠w->(m.places.l.getD a.to.toNat default).m7=false->q.2.getD a.bK.toNat false=true->q.2.getD a.to.toNat false=true)})) (⟨(true,seen.l),WE,Q6.M4,λh=>by cases h⟩) ?_;rintro⟨⟨again,jU⟩,vW,gP,qR⟩ c1;try dsimp only
 dsimp only at vW gP qR;apply x0∘fD∘dD;refine aJ ?_ ?_<;>intro bI;·
  refine gG (bY (iH (cC (dM ?_))));apply uK∘r3;refine ON ([10,12]++dJ 15 41) QD [(10,.bool _),(16,.slice _ _ _),(17,.int _ _),(18,.int _ _)] cB λs4=>?_;refine m6 ([10,12]++dJ 18 38) ((⟨λq=>[(18,.int .i64 ((q.1.1:Nat):Int)),(10,.bool q.1.2.1)],λq=>(⟨sY,q.1.2.2⟩:J Bool).L 4 l1++(⟨dU,m.cells,28⟩::L),λ_=>R,λq=>gH.l.length-q.1.1⟩:e0 {q:Nat×Bool×List Bool//q.1<=gH.l.length/\(⟨sY,q.2.2⟩:J Bool).ok 1 l1/\Q6 m gH.l w seen.l q.2.2/\(q.2.1=true->QK q.2.2<QK jU)/\(q.2.1=false->q.2.2=jU/\∀(j:Nat) (a:iI),j<q.1->gH.l[j]?=some a->a.aS≠w->(m.places.l.getD a.to.toNat default).m7=false->jU.getD a.bK.toNat false=true->jU.getD a.to.toNat false=true)})) (⟨(0,false,jU),by dsimp only;omega,vW,gP,(λh=>by cases h),λ_=>⟨rfl,λj r a6=>by omega⟩⟩) ?_;rintro⟨⟨i,Jt,l⟩,pN,fJ,jH,x2,F6⟩ c1;try dsimp only
  dsimp only at pN fJ jH x2 F6;have qN:=jH.len;apply(gU);refine aJ ?_ ?_<;>intro cK;·
   have zQ:=bR (l:=gH.l) (k:=i) default D;obtain⟨a,G8⟩:∃a,a=gH.l.getD i default:=⟨_,rfl⟩;rw[<-G8]at zQ;have vR:=hS zQ;have a9n:=jQ a vR;have b2H:=bR (l:=l) (k:=a.bK.toNat) false D;have Em:=bR (l:=l) (k:=a.to.toNat) false D;have b9c:=bR (l:=m.places.l) (k:=a.to.toNat) default D;apply(jK);refine aA Xk rfl ?_;apply Ar∘dO;intro rM;apply p6∘h1∘vC;apply lR (aD:=[_,_,_,_,_]) (j:=4) (b4:=26) rfl rfl aK rfl b2 rfl;·intro jP;replace jP:=cP jP;apply(FD);refine aA (iV M ((⟨sY,l⟩:J Bool)) _ rfl rfl ((show _=Value.slice _ _ _ from rfl).trans (by simp only[J.val,qN])) rfl bS (i:=a.bK.toNat) c7 iY) rfl ?_;exact(aJS) iA
   intro DU;apply(fD);apply lR (aD:=[_,_,_,_,_,_]) (j:=11) (b4:=33) rfl rfl aK rfl b2 rfl;·intro MV;replace MV:=cP MV;exact(FD∘aFu∘aJS) QC
   intro aA4;apply(fD);apply lR (aD:=[_,_,_,_,_,_,_,_]) (j:=19) (b4:=41) rfl rfl aK rfl b2 rfl;·intro aL4;replace aL4:=cP aL4;exact(nZ∘aGn∘tG) QC
   intro bAs;apply(dD);refine aJ ?_ ?_<;>intro dE;·
    apply vE∘gB∘aFu;refine mO (mV M ((⟨sY,l⟩:J Bool)) (true) rfl rfl rfl rfl cL bS bH bS aX aK aK) ?_;rintro v E R' ⟨rfl,rfl⟩;apply l6∘tF;have aH:l.getD a.to.toNat false=false:=dE.1.2;have jT:=aUn (l:=l) (i:=a.to.toNat) D aH;have yI:QK l<=QK jU:=by
     cases Jt with
     |true=>have:=x2 rfl;omega
     |false=>rw[(F6 rfl).1];exact gS _
    exact eG ⟨(i+1,true,l.set a.to.toNat true),by dsimp only;omega,J.tU HX fJ eY,jH.next (aWA vR dE.1.1.1 a9n.1.1 a9n.2.1 dE.2) dE.1.1.2 D,λ_=>by dsimp only;omega,λh=>by cases h⟩
   apply(k9);exact lP ⟨(i+1,Jt,l),by dsimp only;omega,fJ,jH,x2,λh=>⟨(F6 h).1,λj oF a6 MW g1 oA g3=>by
    rcases gX j i with G|G;·exact(F6 h).2 j oF G MW g1 oA g3
    ·
     (obtain rfl:j=i:=by omega);rw[zQ]at MW;cases MW;cases dI:jU.getD a.to.toNat false with
     |true=>rfl
     |false=>exfalso;rw[<-(F6 h).1]at g3 dI;rcases dE with((G|G)|G)|G<;>first|exact G g1|(rw[g3]at G;cases G)|(rw[dI]at G;cases G)|(rw[oA]at G;cases G)⟩⟩ hM cB bC eX kM
  obtain rfl:i=gH.l.length:=by omega
  have b3e:QK l*2+(if Jt=true then 1 else 0)<QK jU*2+(if again=true then 1 else 0):=by
   rw[if_pos bI];cases Jt with
   |true=>have:=x2 rfl;simp;omega
   |false=>rw[(F6 rfl).1];simp
  refine oZ (oX (AF (oW (hG ?_))));exact lP ⟨(Jt,l),fJ,jH,λh a bX g1 oA g3=>by obtain⟨j,a6⟩:=List.mem_iff_getElem?.1 bX;rw[(F6 h).1]at g3|-;exact(F6 h).2 j a (List.getElem?_eq_some_iff.1 a6).1 a6 g1 oA g3⟩ hM cB bC eX b3e
 have qN:=gP.len;apply(R2);refine cF ((⟨sY,jU⟩:J Bool).L 4 l1++L) R BH ?_;exact⟨⟨sY,jU⟩,by simp only[J.val,qN],vW,gP.done (λu v cE cZ=>by
 obtain⟨a,bX,G,U,aO,bW⟩:=cE;have:=qR EA a bX G (by rw[aO,tZ];exact bW) (by rw[U,tZ];exact cZ);rw[aO,tZ]at this;exact this),rfl,rfl⟩
def aRD{m:eC}{gH:bP iI}{p:J Bool}{w:Int}{A:aW}{R:aP}(qK:pA (p.L 4 l1) A)(Y:p.ok 1 l1)(a1:oY m R)(V0:aN (Ci gH) R)(jQ:Ja m.places.l.length gH.l)(aZ:p.l.length=m.places.l.length)(n2:m.places.l.length<=64)(IW:gH.l.length<=1000):
 aM prog 157 [m.val,gH.val,p.val,.int .i64 w].toArray A R (λv E R'=>∃q:J Bool,v=q.val/\q.ok 1 l1/\Pf m gH.l w p.l q.l/\A++q.L 4 l1=E/\R=R'):=by have h:=aTF m gH p.W w [] ([a6j p.W]++R) ⟨a1.places.mono λr h=>aU (.tail _ h),a1.Z.mono λr h=>aU (.tail _ h)⟩ (V0.mono λr h=>aU (.tail _ h)) mL jQ aZ n2 IW;have U:=aM.TB (S:=[a6j p.W]) (Post:=λv E=>∃q:J Bool,v=q.val/\q.ok 1 l1/\Pf m gH.l w p.l q.l/\q.L 4 l1++[]=E) (nA.aC (L:=A)) (λw aD bF s aF=>by rw[List.mem_singleton.1 aF];exact wD bF qK Y HX aX eW) (h.mono λv E R' ⟨q,hO,a2,a3,a4,a5⟩=>⟨⟨q,hO,a2,a3,a4⟩,a5⟩);exact U.mono λv hA R' ⟨E,e,⟨q,hO,a2,a3,a4⟩,a5⟩=>⟨q,hO,a2,a3,by rw[<-a4,rV]at e;exact e,a5⟩
def aZq(m:eC)(gH:bP iI)(L:aW)(R:aP)(a1:oY m R)(V0:aN (Ci gH) R)(jQ:Ja m.places.l.length gH.l)(n2:m.places.l.length<=64)(IW:gH.l.length<=1000):
 aM prog 112 [m.val,gH.val].toArray L R (λv E R'=>∃p:J iI,v=p.val/\p.ok 3 iI.cells/\GH m gH.l gH.l.length p.l/\p.L 256 iI.cells++L=E/\R=R'):=by
 have wS:=a1.places;refine cX 55 call112 func112 rfl rfl rfl ?_;apply(fC);intro eN;apply tH∘r2∘r3;refine e3 [(1,.slice _ _ _),(2,.pointer _),(5,.slice _ _ _),(9,.slice _ _ _),(10,.int _ _),(11,.int _ _)] cB λg9=>?_;refine oM ([5,7,8]++dJ 11 43) ((⟨λg=>[(11,.int .i64 ((g.1.1:Nat):Int)),(5,g.1.2.val)],λg=>g.1.2.L 256 iI.cells++(⟨eN,m.cells,28⟩::L),λ_=>R,λg=>gH.l.length-g.1.1⟩:e0 {g:Nat×J iI//g.1<=gH.l.length/\g.2.ok 3 iI.cells/\GH m gH.l g.1 g.2.l})) (⟨(0,J.nil),by dsimp only;omega,J.iJ,GH.zero⟩) cB JB eX ?_;rintro⟨⟨k,p⟩,pN,fJ,jH⟩ c1;try dsimp only
 dsimp only at pN fJ jH;have dC:=jH.sub.length_le;rw[HS]at dC;apply(gU);refine aJ ?_ ?_<;>intro bI;·
  have zQ:=bR (l:=gH.l) (k:=k) default D;obtain⟨a,G8⟩:∃a,a=gH.l.getD k default:=⟨_,rfl⟩;rw[<-G8]at zQ;have a9n:=jQ a (hS zQ);have b2H:=bR (l:=m.places.l) (k:=a.bK.toNat) default D;have Em:=bR (l:=m.places.l) (k:=a.to.toNat) default D;apply jK∘Ou∘Ar∘dO;intro lT;apply uI∘nZ;refine aA (by first|exact j9 M rfl rfl rfl rfl i6 (i:=a.bK.toNat) c7 D|exact jF M rfl rfl rfl rfl (i:=a.bK.toNat) c7 D) rfl ?_;apply tG∘fD;apply dT (aD:=[_,_,_,_,_,_,_]) (j:=7) (b4:=22) rfl rfl aK rfl b2 rfl;·intro nV;replace nV:=cP nV;exact(nZ∘aGn∘tG) iA
  intro WX;apply(dD);refine aJ ?_ ?_<;>intro cK;·refine oZ (oX (oW (bY (dM ?_))));apply(m0);exact eG ⟨(k+1,p),by dsimp only;omega,fJ,jH.no zQ (λh=>by rcases cK with e|e;exact absurd (h.1.symm.trans e) aX;exact absurd (h.2.1.symm.trans e) aX)⟩
  have Lj:(m.places.l.getD a.bK.toNat default).m7=false:=by cases e:(m.places.l.getD a.bK.toNat default).m7<;>simp_all
  have M2:(m.places.l.getD a.to.toNat default).m7=false:=by cases e:(m.places.l.getD a.to.toNat default).m7<;>simp_all
  apply gI∘jM∘D1;rintro v E R' ⟨MF,rfl,rfl,PA⟩;replace PA:=PA.symm;subst PA;apply(OK);refine e7 Nb ?_;obtain⟨jU,WA⟩:∃jU,jU=List.replicate m.places.l.length false:=⟨_,rfl⟩;have aMe:jU.length=m.places.l.length:=by rw[WA];simp
  have b1l:(⟨.own MF m.places.l.length [],jU⟩:J Bool).ok 1 l1:=by rw[WA];exact BT HX BE
  have b8G:=bR (l:=jU) (k:=a.to.toNat) false D;have MP:(⟨.own MF m.places.l.length [],LZ m.places.l.length a.to.toNat⟩:J Bool).ok 1 l1:=J.tU HX b1l (by simp[LZ,aMe]);refine e7 (show _=(⟨.own MF m.places.l.length [],jU⟩:J Bool).L 4 l1++_ by rw[WA]) ?_;have Te:(⟨.own MF m.places.l.length [],LZ m.places.l.length a.to.toNat⟩:J Bool).l.length=m.places.l.length:=by simp[LZ]
  apply vE∘gB;refine aA (iV M ((⟨.own MF m.places.l.length [],jU⟩:J Bool)) _ rfl rfl ((show _=Value.slice _ _ _ from rfl).trans (u7 aMe)) rfl bS (i:=a.to.toNat) c7 iY) rfl ?_;refine mO (mV M ((⟨.own MF m.places.l.length [],jU⟩:J Bool)) (true) rfl rfl rfl rfl cL bS bH bS aX aK aK) ?_;rintro v E R' ⟨rfl,rfl⟩;apply(j6);refine e7 (show _=(⟨.own MF m.places.l.length [],LZ m.places.l.length a.to.toNat⟩:J Bool).L 4 l1++_ by rw[WA];rfl) ?_;refine RM M [] [0,1,2,3,4,6,7,5,8,9] [] ([bQ.mk lT _ _,bQ.mk eN _ _]) [] 10 mixed aQ rfl rfl bC λyG=>?_;refine eU 0 yG b9 aQ rfl rfl rfl rfl rfl TX ?_;refine eU 1 yG b9 aQ rfl rfl rfl rfl rfl qX ?_;refine eU 2 yG b9 aQ rfl rfl rfl rfl rfl qX ?_;refine eU 3 yG b9 aQ rfl rfl rfl rfl rfl kT ?_;refine eU 4 yG b9 aQ rfl rfl rfl rfl rfl qY ?_;refine eU 6 yG b9 aQ rfl rfl rfl rfl rfl kT ?_;refine eU 7 yG b9 aQ rfl rfl rfl rfl rfl qY ?_;refine iU [5] yG b9 aQ ?_;apply(kC);refine m9 rfl (R6 rfl (aM.cast (aRD (A:=(⟨.own MF m.places.l.length [],LZ m.places.l.length a.to.toNat⟩:J Bool).L 4 l1++_) (p:=(⟨.own MF m.places.l.length [],LZ m.places.l.length a.to.toNat⟩:J Bool)) (w:=a.aS) BD MP a1 V0 jQ Te n2 IW) (by show #[_,_,Value.slice _ (List.length _) _,_]=_;rw[Te];rfl))) rfl rfl ?_;rintro v E R' ⟨q,rfl,g7,aMG,rfl,rfl⟩;simp only[kF,mK,nJ];refine⟨bC,hC,?_⟩;have eZ:=aMG.len;rw[Te]at eZ;have WO:=bR (l:=q.l) (k:=a.bK.toNat) false D;have Uo:=aWq aMG (show a.to.toNat<m.places.l.length by omega) (show a.bK.toNat<m.places.l.length by omega);refine eU 8 yG b9 aQ rfl rfl rfl rfl rfl (iV M (q) _ rfl rfl rfl rfl bS (i:=a.bK.toNat) c7 iY) ?_;refine iU [9] yG b9 aQ ?_;apply(kC);refine m9 rfl (Go.Proofs.YtdiajbdaadlfhaaGreatDoor.cI.aKX aCy) rfl rfl ?_;rintro v E R' ⟨rfl,rfl,rfl⟩;apply(fI);refine QY yG b9 aQ rfl ?_;apply(A9);refine aJ ?_ ?_<;>intro dE;·apply(vE);refine aA qW rfl ?_;apply(a0r);rintro v E R' ⟨Jr,rfl,rfl,PF⟩;replace PF:=PF.symm;subst PF;refine g2 (jZ (f:=iI.cells) (p:=p) (a:=a) M rfl rfl rfl rfl (fJ) cL j8 rfl kG) rfl ?_;rintro v E R' ⟨Lq,rfl,Uj,rfl,rfl⟩;apply(LO);exact lP ⟨(k+1,(⟨Lq,_⟩:J iI)),by dsimp only;omega,Uj,jH.z1 zQ ⟨Lj,M2,Uo.1 dE⟩⟩ hM cB aP6 eX kM
  apply(k9);exact lP ⟨(k+1,p),by dsimp only;omega,fJ,jH.no zQ (λh=>by rw[Uo.2 h.2.2]at dE;cases dE)⟩ hM cB aP6 eX kM
 obtain rfl:k=gH.l.length:=by omega
 apply(R2);refine cF (p.L 256 iI.cells++L) R BH ?_;exact⟨p,rfl,fJ,jH,rfl,rfl⟩
end
section
def a6y(h:A->B:=by exact b7 qX rfl rfl rfl):=h
def aTH(h:A->B:=by exact g2 (jZ (f:=aR) (p:=r) (a:=a.aS) M rfl rfl rfl rfl (fJ) cL j8 rfl kG) rfl):=h
def aM.aBq{P:Program}{f:FuncId}{args:Array Value}{L:aW}{R:aP}{Post tC:n8}(h:aM P f args L R Post)(k:∀v E R',Post v E R'->∃hA,E.Perm hA/\tC v hA R'):aM P f args L R tC:=
 ⟨h.1,λw aD bF=>(h.2 w aD bF).mono λ_ _ ⟨v,E,R',e,p,s⟩=>let ⟨hA,aG,HO⟩:=k v E R' p;⟨v,hA,R',e,HO,s.yN aG⟩⟩
attribute [local irreducible] cO dG dP aM cI dR fA e2 e5 fB eQ e9 J.L
def aF7{l:List Int}(h:0<l.length):l.getLast?=some (l.getD (l.length-1) 0):=by rw[List.getLast?_eq_getElem?,bR (l:=l) (k:=l.length-1) 0 D]
def aGF(m:eC)(fl:bP bG)(L:aW)(R:aP)(a1:oY m R)(iF:aN (wG fl) R)(cS:iB m=0)(bA:fl.l.length=m.Z.l.length):
 aM prog 75 [m.val,fl.val].toArray L R (λw E R'=>∃(p:J Int) (S:aP),w=p.val/\p.ok 1 aR/\EF m fl.l p.l/\p.L 3 aR++L=E/\S++R=R'):=by
 have bM:=R8 cS;have n2:=bM.places;have HD:=bM.Z;refine cX 45 call75 func75 rfl rfl rfl ?_;apply(fC);intro eN;apply tH∘lG∘gQ;refine dN rfl (aZB m fl _ _ a1 iF cS bA) rfl ?_;rintro v E R' ⟨p,rfl,iN,dC,rfl,rfl⟩;refine aA jE rfl ?_;apply C8∘l6∘j6;refine rY (A:=[]) (aI:=3) [] bH aX iN eW ?_;refine e7 Nl ?_;obtain⟨jA,oP⟩:∃jA,jA=Ci p.W::R:=⟨_,rfl⟩;have Eb:∀r∈R,aN r jA:=λr O=>aU (by rw[oP];exact .tail _ O);have V0:aN (Ci p.W) jA:=aU (by rw[oP];exact .head _);refine w8 (show _=jA by rw[oP]) ?_;have rQ:oY m jA:=⟨a1.places.mono Eb,a1.Z.mono Eb⟩;have jQ:Ja m.places.l.length p.W.l:=by show Ja _ p.l;rw[dC];exact aSN bM
 have l2:p.l.length<=2*m.Z.l.length:=by rw[dC];exact a6s _
 apply e1∘r2∘lG∘gQ;refine dN rfl (aZq m p.W _ _ rQ V0 jQ n2 (by show p.l.length<=1000;omega)) rfl ?_;rintro v E R' ⟨q,rfl,g7,aME,rfl,rfl⟩;have aMF:GH m (J0 m fl.l) (J0 m fl.l).length q.l:=by have:=aME;rw[show p.W.l=J0 m fl.l from dC]at this;exact this
 have aMI:=aMF.b6E;have yK:=aME.sub.length_le;rw[HS]at yK;apply(R0);refine e3 [(7,.slice _ _ _),(18,.slice _ _ _),(19,.int _ _),(20,.int _ _)] cB λg9=>?_;refine oM ([7,9]++dJ 20 24) ((⟨λg=>[(20,.int .i64 ((g.1.1:Nat):Int)),(7,g.1.2.val)],λg=>g.1.2.L 3 aR++(q.L 256 iI.cells++(⟨eN,m.cells,28⟩::L)),λ_=>jA,λg=>q.l.length-g.1.1⟩:e0 {g:Nat×J Int//g.1<=q.l.length/\g.2.ok 1 aR/\JR q.l g.1 g.2.l})) (⟨(0,J.nil),by dsimp only;omega,J.iJ,JR.zero⟩) cB JB eX ?_;rintro⟨⟨k,r⟩,pN,fJ,jH⟩ c1;try dsimp only
 dsimp only at pN fJ jH;have S4:=jH.len;have b9I:p.W.l.length<=256:=by show p.l.length<=256;omega
 apply(gU);refine aJ ?_ ?_<;>intro bI;·
  have zQ:=bR (l:=q.l) (k:=k) default D;obtain⟨a,G8⟩:∃a,a=q.l.getD k default:=⟨_,rfl⟩;rw[<-G8]at zQ;apply(jK);refine aA (iV M (q) _ rfl rfl rfl rfl bS (i:=k) c7 iY) rfl ?_;refine aA (a0U (row:=[_,_,_]) M (q) rfl rfl rfl cL bS bH bS aK aK) rfl ?_;apply(dO);intro jB;apply(J4);refine jR M [0,1,2,3,4,5,6,7,8,9,10,11,12,13] ([bQ.mk jB _ _]++(r.L 3 aR++[])) mixed aQ bC ?_;apply(a6y);refine b7 CP rfl rfl rfl ?_;refine b7 QB rfl rfl rfl ?_;apply(KT);refine zC (k:=27) b2 (λiM=>?_) (λiM=>?_);·replace iM:=cP iM;(iterate 9 apply(tV));apply(C7);refine yX rfl ?_;exact aO0
  replace iM:=cP iM;have Ku:=bR (l:=r.l) (k:=r.l.length-1) 0 D;apply a6y∘a6y;refine b7 CP rfl rfl rfl ?_;apply(A7);refine b7 (iV M (r) _ rfl rfl rfl rfl bS (i:=r.l.length-1) c7 iY) rfl rfl rfl ?_;refine b7 (rX M (r) rfl rfl rfl cL bS bH bS aK) rfl rfl rfl ?_;apply(nQ);refine b7 X1 rfl rfl rfl ?_;apply(C7);refine aJ ?_ ?_<;>intro cK;·exact aO0
  apply(k9);exact eG ⟨(k+1,r),by dsimp only;omega,fJ,jH.no zQ (by rw[aF7 D];exact congrArg some D)⟩
 obtain rfl:k=q.l.length:=by omega
 apply(R2);refine kN (E:=r.L 3 aR++L) (R':=Ci p.W::R) BH ?aG ?b3 ?b8;case aG=>exact⟨r,[Ci p.W],rfl,fJ,JR.done aMF jH,rfl,rfl⟩
 case b3=>exact bC
 case b8=>exact λx K=>aU (by rw[oP];exact K)
end
end Go.Proofs.YtdiajbdaadlfhaaGreatDoor
