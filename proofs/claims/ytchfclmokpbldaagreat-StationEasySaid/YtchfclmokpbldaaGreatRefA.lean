-- By an AI agent; no person has read it.
import Derived.Test.YtchfclmokpbldaaGreatCutB
set_option linter.all false
set_option maxHeartbeats 4000000
variable{A B:Prop}
namespace Go.Proofs.YtchfclmokpbldaaGreat
open Go.Aw Go Go.Proofs.Tryz
set_option maxRecDepth 20000
attribute [local irreducible] cQ dF dV aM cP eC e5 e1 e2 e6 eX e4 J.L
def a0m(h:A->B:=by exact fP aSJ rfl rfl rfl rfl):=h
def a7i(h:A->B:=by exact aI aQV rfl):=h
def aG6(h:A->B:=by exact aI aSm rfl):=h
def aJs(h:A->B:=by exact aI aSJ rfl):=h
def aDC(h:A->B:=by exact iS N [] [0,1,2,3,4,5,6,7,8,9,10,11,12,13] [14] ((⟨o0,jE.cells x,172⟩::((⟨.own C2 l.l.length [],vs⟩:J Int).L 3 a1++[]))) _ dO bI bA fM):=h
def aG8(h:A->B:=by exact fP aSd rfl rfl rfl rfl):=h
def aJK(h:A->B:=by exact fP (jA N ((⟨.own C2 l.l.length [],vs⟩:J Int)) _ rfl rfl ((show _=Value.slice _ _ _ from rfl).trans (w6 uX)) rfl bR (i:=x.right.toNat) dA jC) rfl rfl rfl rfl):=h
def aDS(h:A->B:=by exact fP aSm rfl rfl rfl rfl):=h
def HB(l:List jE)(dR:List Int)(k:Nat):List Int:=n2 l dR k++List.replicate (l.length-k) 0
def aVC{l:List jE}{dR:List Int}{k:Nat}(h:k<=l.length):(HB l dR k).length=l.length:=by rw[HB,l9,SX,Hz];omega
def aUJ{l:List jE}{dR:List Int}{k:Nat}{v:Int}(aG:k<l.length)(h:v=AB dR (n2 l dR k) (l.getD k default)):(HB l dR k).set k v=HB l dR (k+1):=by have aX:=SX (l:=l) (dR:=dR) k;rw[HB,HB,n2,<-h,show l.length-k=(l.length-(k+1))+1 by omega,a3G,List.set_append_right k v D,aX,Nat.sub_self,aCw];simp
def aYq{l:List jE}{dR:List Int}{k:Nat}(aG:k<l.length)(h:AB dR (n2 l dR k) (l.getD k default)=0):HB l dR k=HB l dR (k+1):=by rw[HB,HB,n2,h,show l.length-k=(l.length-(k+1))+1 by omega,a3G];simp
def a66{l:List jE}{dR:List Int}{k j:Nat}(h:j<k):(HB l dR k)[j]?=some ((n2 l dR k).getD j 0):=by have aX:=SX (l:=l) (dR:=dR) k;rw[HB,XU D];exact bJ 0 D
def aWN{l:List jE}{dR:List Int}:HB l dR l.length=n2 l dR l.length:=by rw[HB,Nat.sub_self];simp
def a1t{dR v:List Int}{x:jE}(h:x.kind=1):AB dR v x=UZ dR x.cond:=by rw[AB,if_pos h]
def aK9{dR v:List Int}{x:jE}(h:x.kind=2):AB dR v x= -(v.getD x.left.toNat 0):=by rw[AB,if_neg D,if_pos h]
def aLj{dR v:List Int}{x:jE}(h:x.kind=3):AB dR v x=min (v.getD x.left.toNat 0) (v.getD x.right.toNat 0):=by rw[AB,if_neg D,if_neg D,if_pos h]
def aDG{dR v:List Int}{x:jE}(O:¬x.kind=1)(X:¬x.kind=2)(aU:¬x.kind=3):AB dR v x=max (v.getD x.left.toNat 0) (v.getD x.right.toNat 0):=by rw[AB,if_neg O,if_neg X,if_neg aU]
def aIF(l:a4 jE)(dR:a4 Int)(L:aR)(R:aO)(aX:aL (D1 l) R)(cY:aL (dU dR) R):
 aM prog 160 [l.val,dR.val].toArray L R (λv E G=>v=.int .i64 (tL l.l dR.l)/\L=E/\R=G):=by
 refine b6 102 call160 func160 rfl rfl rfl ?_;apply PU∘gU;refine cD rfl (aEs l _ _ aX) ?_;apply(nK);refine U ?_ ?_<;>intro aQ;·apply(kM);refine cX L R ?_;exact⟨by rw[tL,if_neg zR],rfl,rfl⟩
 have M:BC l.l=true:=by simpa using aQ
 have j1:=(Jr.1 M).1;apply e0∘pR∘GS;rintro v E G ⟨C2,rfl,rfl,EJ⟩;replace EJ:=EJ.symm;subst EJ;apply(HR);refine eM (ZE (f:=a1) (x:=0) rfl _) ?_;apply eB∘BN;refine dS [(1,.slice _ _ _),(5,.slice _ _ _),(14,.slice _ _ _),(15,.int _ _),(16,.int _ _)] bV λfK=>?_;refine k2 ([6,7]++cN 16 80) ((⟨λg=>[(16,.int .i64 ((g.1.1:Nat):Int))],λg=>(⟨.own C2 l.l.length [],g.1.2⟩:J Int).L 3 a1++L,λ_=>R,λg=>l.l.length-g.1.1⟩:fB {g:Nat×List Int//g.1<=l.l.length/\g.2=HB l.l dR.l g.1})) (⟨(0,List.replicate l.l.length 0),by dsimp only;omega,rfl⟩) ?_;rintro⟨⟨k,vs⟩,aG,Gy⟩ cH;try dsimp only
 dsimp only at aG Gy;have uX:vs.length=l.l.length:=by rw[Gy];exact aVC aG
 have Uu:(⟨.own C2 l.l.length [],vs⟩:J Int).ok 1 a1:=by have:=ED (f:=a1) (aN:=1) (b:=C2) (n:=l.l.length) (x:=0) HW DP;exact J.o6 HW this (by simp;exact uX)
 apply(h0);refine U ?_ ?_<;>intro bL;·
  have pX:=bJ (l:=l.l) (k:=k) default D;have vO:=aF2 M k D;have aNn:=bJ (l:=vs) (k:=k) 0 D;have Mh:=λ(v:Int)=>aUJ (l:=l.l) (dR:=dR.l) (k:=k) (v:=v) D;have cT:=aYq (l:=l.l) (dR:=dR.l) (k:=k) D;rw[<-Gy]at Mh cT;rw[Cx]at vO;obtain⟨x,K⟩:∃x,x=l.l.getD k default:=⟨_,rfl⟩;rw[<-K]at pX vO Mh cT;apply(oJ);refine aI pL rfl ?_;apply(LG);intro o0;apply dM∘z8;refine eZ (a8 (fR (bK (c2 ?_))));apply(vX);refine U ?_ ?_<;>intro cC;·
   apply LB∘pR∘z5;apply iR (Z:=[_,_,_,_,_,_]) (j:=5) (a9:=44) rfl rfl aB rfl aY rfl;·intro kL;replace kL:=bB kL;have qD:=bJ (l:=dR.l) (k:=x.cond.toNat) 0 D;exact(yY∘a7i∘jG) UM
   intro XC;apply(dE);apply iR (Z:=[_,_,_,_,_,_]) (j:=13) (a9:=52) rfl rfl aB rfl aY rfl;·intro oL;replace oL:=bB oL;have qD:=bJ (l:=dR.l) (k:=x.cond.toNat) 0 D;exact(yY∘a7i∘jG) RI
   intro Q3;apply(b9);refine U ?_ ?_<;>intro dX;·have qD:=bJ (l:=dR.l) (k:=x.cond.toNat) 0 D;apply wJ∘yY∘a7i∘jG∘aG6;refine jH (j5 N ((⟨.own C2 l.l.length [],vs⟩:J Int)) (dR.l.getD x.cond.toNat 0) rfl rfl rfl rfl cF bR bD bR aW aB aB) ?_;rintro v E G ⟨rfl,rfl⟩;refine eZ (hI (hI (a8 (c2 ?_))));apply(s6);exact eO ⟨(k+1,vs.set k (dR.l.getD x.cond.toNat 0)),by dsimp only;omega,Mh _ (by rw[a1t cC,UZ,if_pos D])⟩
   refine eP (hI (hI (a8 (c2 ?_))));apply(s6);exact eO ⟨(k+1,vs),by dsimp only;omega,cT (by rw[a1t cC,UZ,if_neg D])⟩
  apply(oI);refine U ?_ ?_<;>intro dY;·(have i3:x.left.toNat<k:=by omega);have wA:=a66 (l:=l.l) (dR:=dR.l) i3;rw[<-Gy]at wA;have b9M:=a0J (l:=l.l) (dR:=dR.l) k x.left.toNat;apply wJ∘yY;refine aI aSd rfl ?_;apply aJs∘wX∘aG6;refine jH (j5 N ((⟨.own C2 l.l.length [],vs⟩:J Int)) (-((n2 l.l dR.l k).getD x.left.toNat 0)) rfl rfl rfl rfl cF bR bD bR aW aB aB) ?_;rintro v E G ⟨rfl,rfl⟩;refine eZ (hI (hI (a8 (c2 ?_))));apply(s6);exact eO ⟨(k+1,vs.set k (-((n2 l.l dR.l k).getD x.left.toNat 0))),by dsimp only;omega,Mh _ (by rw[aK9 dY])⟩
  have i3:x.left.toNat<k:=by omega
  have wA:=a66 (l:=l.l) (dR:=dR.l) i3;have b5p:x.right.toNat<k:=by omega
  have Ai:=a66 (l:=l.l) (dR:=dR.l) b5p;rw[<-Gy]at wA Ai;apply(oI);refine U ?_ ?_<;>intro h1;·apply aDC∘EA∘NH∘aG8∘a0m∘NH∘aJK∘a0m;refine fP KT rfl rfl rfl rfl ?_;apply aDS∘zN;refine HN (j5 N ((⟨.own C2 l.l.length [],vs⟩:J Int)) (min ((n2 l.l dR.l k).getD x.left.toNat 0) ((n2 l.l dR.l k).getD x.right.toNat 0)) rfl rfl rfl rfl cF bR bD bR aW aB aB) rfl rfl ?_;rintro v E G ⟨rfl,rfl⟩;apply(gJ);refine g5 (hI (hI (a8 (c2 ?_))));apply(s6);exact eO ⟨(k+1,vs.set k (min ((n2 l.l dR.l k).getD x.left.toNat 0) ((n2 l.l dR.l k).getD x.right.toNat 0))),by dsimp only;omega,Mh _ (by rw[aLj h1])⟩
  apply aDC∘EA∘NH∘aG8∘a0m∘NH∘aJK∘a0m;refine fP E1 rfl rfl rfl rfl ?_;apply aDS∘zN;refine HN (j5 N ((⟨.own C2 l.l.length [],vs⟩:J Int)) (max ((n2 l.l dR.l k).getD x.left.toNat 0) ((n2 l.l dR.l k).getD x.right.toNat 0)) rfl rfl rfl rfl cF bR bD bR aW aB aB) rfl rfl ?_;rintro v E G ⟨rfl,rfl⟩;apply(gJ);refine g5 (hI (hI (a8 (c2 ?_))));apply(s6);exact eO ⟨(k+1,vs.set k (max ((n2 l.l dR.l k).getD x.left.toNat 0) ((n2 l.l dR.l k).getD x.right.toNat 0))),by dsimp only;omega,Mh _ (by rw[aDG cC dY h1])⟩
 obtain rfl:k=l.l.length:=by omega
 rw[aWN]at Gy;have aNn:=bJ (l:=vs) (k:=l.l.length-1) 0 D;have Fx:tL l.l dR.l=vs.getD (l.l.length-1) 0:=by rw[tL,if_pos M,Gy]
 apply M9∘VV;refine aI (jA N ((⟨.own C2 l.l.length [],vs⟩:J Int)) _ rfl rfl ((show _=Value.slice _ _ _ from rfl).trans (w6 uX)) rfl bR (i:=l.l.length-1) dA jC) rfl ?_;apply aJs∘vB;refine cX L R ?_;exact⟨by rw[Fx],rfl,rfl⟩
def YT(h:A->B:=by exact bE oS rfl rfl rfl):=h
def aLa(h:A->B:=by exact dT rfl (c6 (i-1) _ D D D) rfl):=h
def a4s(h:A->B:=by exact aI pL rfl):=h
def a7R(h:A->B:=by exact aI aQV rfl):=h
def aVk(h:B:=by exact⟨-1,0,rfl,V0 D (by rw[oG,if_neg b2,<-K,if_neg bL,if_neg dX,if_neg D]),rfl,rfl⟩):=h
def aE4(h:A->B:=by exact gZ N [0,1,2,3,5,6,7,8,4,9,10,11] ([bN.mk o0 _ _]) dO bI bA):=h
structure Jh(l:List jE)(n:Nat)(i f d:Int):Prop where
 tT:0<=d/\d<=n
 A9:∀a b,oG l n i=some (a,b)->f=a/\d=b
 no:oG l n i=none->f= -1
def V0{l:List jE}{n:Nat}{i:Int}{d:Int}(bM:0<=d/\d<=n)(h:oG l n i=none):Jh l n i (-1) d:=⟨bM,(λa b b4=>by rw[h]at b4;cases b4),λ_=>rfl⟩
def a4q{l:List jE}{n:Nat}{i f d:Int}(h:oG l n i=some (f,d)):Jh l n i f d:=
 ⟨by have:=(YG _ _ _ _ h).2.1;omega,(λa b b4=>by rw[h]at b4;cases b4;exact⟨rfl,rfl⟩),λb4=>by rw[h]at b4;cases b4⟩
def b03(l:a4 jE)(n:Nat)(i:Int)(L:aR)(R:aO)(aE:i<0):
 aM prog 176 [l.val,.int .i64 i].toArray L R (λv E G=>∃f d:Int,v=.tuple #[.int .i64 f,.int .i64 d]/\Jh l.l n i f d/\L=E/\R=G):=by
 refine b6 116 call176 func176 rfl rfl rfl ?_;apply m3∘SL;apply cA (Z:=[_,_,_,_]) (j:=2) (a9:=15) rfl rfl aB rfl aY rfl;·exact Xo
 intro mK;apply(b9);refine U ?_ ?_<;>intro aQ;·apply m3∘w7;refine bQ L R BB ?_;exact⟨-1,0,rfl,V0 D (Qp aE n),rfl,rfl⟩
 (exfalso;omega)
def aXn(l:a4 jE)(n:Nat)(R:aO)(aX:aL (D1 l) R)(b1:n<=64)
 (c6:∀(i:Int) (L:aR),i<n->i<l.l.length->-1<=i->aM prog 176 [l.val,.int .i64 i].toArray L R (λv E G=>∃f d:Int,v=.tuple #[.int .i64 f,.int .i64 d]/\Jh l.l n i f d/\L=E/\R=G))
 (i:Int) (L:aR) (aE:i<n+1) (WO:i<l.l.length) (GG:-1<=i):
 aM prog 176 [l.val,.int .i64 i].toArray L R (λv E G=>∃f d:Int,v=.tuple #[.int .i64 f,.int .i64 d]/\Jh l.l (n+1) i f d/\L=E/\R=G):=by
 refine b6 116 call176 func176 rfl rfl rfl ?_;apply m3∘SL;apply cA (Z:=[_,_,_,_]) (j:=2) (a9:=15) rfl rfl aB rfl aY rfl;·exact Xo
 intro mK;apply(b9);refine U ?_ ?_<;>intro aQ;·apply m3∘w7;refine bQ L R BB ?_;exact⟨-1,0,rfl,V0 D (Qp D _),rfl,rfl⟩
 have pX:=bJ (l:=l.l) (k:=i.toNat) default D;obtain⟨x,K⟩:∃x,x=l.l.getD i.toNat default:=⟨_,rfl⟩;rw[<-K]at pX;have b2:¬i<0:=by omega
 apply(NC);refine aI aQ7 rfl ?_;apply(LG);intro i1;apply(F0);refine eZ (a8 (fR (bK (c2 ?_))));apply(vX);refine U ?_ ?_<;>intro bL;·
  have qU:oG l.l (n+1) i=if x.left=0/\x.right=0/\0<=x.cond/\x.cond<64 then some (i,1)else none:=by rw[oG,if_neg b2,<-K,if_pos bL]
  apply tD∘qO;apply cA (Z:=[_,_,_]) (j:=3) (a9:=32) rfl rfl aB rfl aY rfl;·intro eR;replace eR:=bB eR;exact(Y7) g4
  intro h8;apply(dE);apply cA (Z:=[_,_,_]) (j:=8) (a9:=37) rfl rfl aB rfl aY rfl;·intro gH;replace gH:=bB gH;exact(a0Z) g4
  intro uY;apply(dE);apply cA (Z:=[_,_,_]) (j:=13) (a9:=42) rfl rfl aB rfl aY rfl;·intro oL;replace oL:=bB oL;exact(a0Z) g4
  intro Q3;apply(b9);refine U ?_ ?_<;>intro cC;·apply m3∘dM;refine eZ (a8 (iY (gB (iM (gB ?_)))));refine bQ L R BB ?_;exact⟨-1,0,rfl,V0 D (by rw[qU,if_neg D]),rfl,rfl⟩
  apply SW∘dM∘Dr;refine bQ L R BB ?_;exact⟨i,1,rfl,a4q (by rw[qU,if_pos D]),rfl,rfl⟩
 apply(oI);refine U ?_ ?_<;>intro dX;·
  have qU:=aHT (n:=n) b2 K bL dX;apply tD∘fD∘p9;apply cA (Z:=[_,_,_]) (j:=3) (a9:=53) rfl rfl aB rfl aY rfl;·exact Cn
  intro h8;apply(dE);apply cA (Z:=[_,_,_,_,_]) (j:=8) (a9:=58) rfl rfl aB rfl aY rfl;·intro gH;replace gH:=bB gH;exact(Ra) g4
  intro uY;apply(b9);refine U ?_ ?_<;>intro dY;·
   apply m3∘dM;refine eZ (a8 (iY (gB (iM (gB ?_)))));refine bQ L R BB ?_;refine⟨-1,0,rfl,V0 D ?_,rfl,rfl⟩;rw[qU];cases oG l.l n (i-1)with
   |none=>rfl
   |some z=>obtain⟨a,b⟩:=z;exact if_neg D
  apply NC∘j3∘aLa;rintro v E G ⟨f,d,rfl,kX,rfl,rfl⟩;have a8q:=kX.tT;refine aI iL rfl ?_;apply Y5∘rS∘M7∘dM∘Dr;refine bQ L R BB ?_;refine⟨f,d+1,rfl,?_,rfl,rfl⟩;cases cJ:oG l.l n (i-1)with
  |none=>rw[kX.no cJ];exact V0 D (by rw[qU,cJ])
  |some z=>obtain⟨a,b⟩:=z;obtain⟨rfl,rfl⟩:=kX.A9 _ _ cJ;exact a4q (by rw[qU,cJ];exact if_pos D)
 apply tD∘vX;refine U ?_ ?_<;>intro h1;·refine eP (a8 ?_);exact aO3
 apply eB∘vX;exact aO3
def aDI(l:a4 jE)(R:aO)(aX:aL (D1 l) R):∀(n:Nat),n<=64->∀(i:Int) (L:aR),i<n->i<l.l.length->-1<=i->
 aM prog 176 [l.val,.int .i64 i].toArray L R (λv E G=>∃f d:Int,v=.tuple #[.int .i64 f,.int .i64 d]/\Jh l.l n i f d/\L=E/\R=G)
 |0,_,i,L,aE,_,_=>b03 l 0 i L R D
 |n+1,b1,i,L,aE,WO,GG=>aXn l n R aX D (λi L O X aU=>aDI l R aX n D i L O X aU) i L aE WO GG
def aH7(l:a4 jE)(L:aR)(R:aO)(aX:aL (D1 l) R):
 aM prog 100 [l.val].toArray L R (λv E G=>v=.bool (BC l.l)/\L=E/\R=G):=by
 refine b6 27 call100 func100 rfl rfl rfl ?_;apply VY∘pR∘z5;apply cA (Z:=[_,_,_]) (j:=3) (a9:=8) rfl rfl aB rfl aY rfl;·intro eR;replace eR:=bB eR;exact(pR) MI
 intro h8;apply(b9);refine U ?_ ?_<;>intro aQ;·exact aPG
 apply D9∘VV;refine dT rfl (aDI l _ aX l.l.length D _ _ D D D) rfl ?_;rintro v E G ⟨f,d,rfl,kX,rfl,rfl⟩;refine aI iL rfl ?_;apply Y5∘rS∘sG;apply iR (Z:=[_,_]) (j:=2) (a9:=23) rfl rfl aB rfl aY rfl;·intro fQ;replace fQ:=bB fQ;exact(cE) RI
 intro mK;apply(uK);refine lG L R ?_;refine⟨?_,rfl,rfl⟩;rw[BC,show decide (1<=l.l.length/\l.l.length<=64)=true from decide_eq_true D];refine congrArg Value.bool ?_;cases cJ:oG l.l l.l.length ((l.l.length:Int)-1)with
 |none=>rw[kX.no cJ];rfl
 |some z=>obtain⟨a,b⟩:=z;obtain⟨rfl,rfl⟩:=kX.A9 _ _ cJ;rw[Bv];simp
def b0v(l:a4 jE)(n:Nat)(L:aR)(R:aO)(aX:aL (D1 l) R):
 aM prog 251 [l.val,.int .i64 (n:Int)].toArray L R (λv E G=>v=.int .i64 (HA l.l n)/\L=E/\R=G):=by
 refine b6 30 call251 func251 rfl rfl rfl ?_;apply PU∘gU;refine cD rfl (aH7 l _ _ aX) ?_;apply(nK);refine U ?_ ?_<;>intro aQ;·apply(kM);refine cX L R ?_;exact⟨by rw[HA,if_pos zR],rfl,rfl⟩
 have M:BC l.l=true:=by simpa using aQ
 have j1:=(Jr.1 M).1;apply(yZ);refine dS [(0,.slice _ _ _),(1,.int _ _),(5,.int _ _)] bV λfK=>?_;refine gY ([4,5]++cN 9 21) (λg:{k:Nat//k<=l.l.length/\∀j:Nat,j<k->¬((l.l.getD j default).kind=1/\(n:Int)<=(l.l.getD j default).cond)}=>[(5,.int .i64 ((g.1:Nat):Int))]) (λg=>l.l.length-g.1) (⟨0,by omega,λj a6=>by omega⟩) ?_;rintro⟨k,aG,hC⟩ cH;try dsimp only
 apply(uM);refine U ?_ ?_<;>intro bL;·
  have O:=bJ (l:=l.l) (k:=k) default D;apply j9∘h9∘a4s∘sH∘sG;apply iR (Z:=[_,_,_,_,_,_,_]) (j:=6) (a9:=21) rfl rfl aB rfl aY rfl;·intro kF;replace kF:=bB kF;exact(h9∘a4s∘VP) UM
  intro IJ;apply(b9);refine U ?_ ?_<;>intro cC;·exact aPK
  apply(mT);exact a3d
 exact aQF
def aVW(l:a4 jE)(dR:a4 Int)(R:aO)(aX:aL (D1 l) R)(cY:aL (dU dR) R)(M:BC l.l=true):∀(k:Nat) (L:aR),k<l.l.length->
 aM prog 101 [l.val,dR.val,.int .i64 (k:Int)].toArray L R (λv E G=>v=.int .i64 (AB dR.l (n2 l.l dR.l k) (l.l.getD k default))/\L=E/\R=G):=by
 intro k;induction k using Nat.strongRecOn with
 |_ k c6=>
 intro L aG;have j1:=(Jr.1 M).1;have pX:=bJ (l:=l.l) (k:=k) default aG;have vO:=aF2 M k aG;rw[Cx]at vO;obtain⟨x,K⟩:∃x,x=l.l.getD k default:=⟨_,rfl⟩;rw[<-K]at pX vO;rw[<-K];have call:∀(j:Int) (L:aR),0<=j->j<k->aM prog 101 [l.val,dR.val,.int .i64 j].toArray L R (λv E G=>v=.int .i64 ((n2 l.l dR.l k).getD j.toNat 0)/\L=E/\R=G):=λj L O X=>by have:=c6 j.toNat D L D;rw[<-UY (l:=l.l) (dR:=dR.l) (k:=k) D,RF O]at this;exact this
 have Fx:∀j:Nat,-1<=(n2 l.l dR.l k).getD j 0/\(n2 l.l dR.l k).getD j 0<=1:=λj=>a0J k j;have b9A:=Fx x.left.toNat;refine b6 74 call101 func101 rfl rfl rfl ?_;apply m3∘j8∘h9∘a4s∘LG;intro o0;apply(F0);refine eZ (a8 (fR (bK (c2 ?_))));apply(vX);refine U ?_ ?_<;>intro aQ;·
  apply tD∘fD∘VQ∘dE;apply cA (Z:=[_,_,_,_,_,_]) (j:=5) (a9:=21) rfl rfl aB rfl aY rfl;·intro kL;replace kL:=bB kL;have qD:=bJ (l:=dR.l) (k:=x.cond.toNat) 0 D;exact(yY∘a7R∘jG) DU
  intro XC;apply(dE);apply cA (Z:=[_,_,_,_,_,_]) (j:=13) (a9:=29) rfl rfl aB rfl aY rfl;·intro oL;replace oL:=bB oL;have qD:=bJ (l:=dR.l) (k:=x.cond.toNat) 0 D;exact(yY∘a7R∘jG) MI
  intro Q3;apply(b9);refine U ?_ ?_<;>intro bL;·apply(m3);refine eZ (a8 (iY (gB (iM (gB ?_)))));refine cX L R ?_;exact⟨by rw[a1t aQ,UZ,if_neg D],rfl,rfl⟩
  have qD:=bJ (l:=dR.l) (k:=x.cond.toNat) 0 D;apply e0∘yY∘a7R∘jG∘Dr;refine cX L R ?_;exact⟨by rw[a1t aQ,UZ,if_pos D],rfl,rfl⟩
 apply(oI);refine U ?_ ?_<;>intro cC;·apply dC∘gU∘yY;refine cD rfl (call x.left _ D D) ?_;apply wX∘Dr;refine cX L R ?_;exact⟨by rw[aK9 cC],rfl,rfl⟩
 apply(oI);refine U ?_ ?_<;>intro dX;·refine bK ?_;apply aE4∘YT∘YT∘g7∘YT∘YT∘g7;refine lW rfl (call x.left _ D D) ?_;refine lW rfl (call x.right _ D D) ?_;refine bE KT rfl rfl rfl ?_;apply(qV);refine g5 (a8 (iY (iM (gB ?_))));refine cX L R ?_;exact⟨by rw[aLj dX],rfl,rfl⟩
 refine eP (hI (a8 (bK ?_)));apply aE4∘YT∘YT∘g7∘YT∘YT∘g7;refine lW rfl (call x.left _ D D) ?_;refine lW rfl (call x.right _ D D) ?_;refine bE E1 rfl rfl rfl ?_;apply(qV);refine g5 (a8 (iY ?_));refine cX L R ?_;exact⟨by rw[aDG aQ cC dX],rfl,rfl⟩
def aGW(l:a4 jE)(dR:a4 Int)(L:aR)(R:aO)(aX:aL (D1 l) R)(cY:aL (dU dR) R):
 aM prog 36 [l.val,dR.val].toArray L R (λv E G=>v=.int .i64 (tL l.l dR.l)/\L=E/\R=G):=by
 refine b6 14 call36 func36 rfl rfl rfl ?_;apply PU∘gU;refine cD rfl (aH7 l _ _ aX) ?_;apply(nK);refine U ?_ ?_<;>intro aQ;·apply(kM);refine cX L R ?_;exact⟨by rw[tL,if_neg zR],rfl,rfl⟩
 have M:BC l.l=true:=by simpa using aQ
 have j1:=(Jr.1 M).1;apply(e0);iterate 3 apply(gU)
 apply u0∘j3;refine cD rfl (aM.cast (aVW l dR _ aX cY M (l.l.length-1) _ D) (by rw[show((l.l.length-1:Nat):Int)=(l.l.length:Int)-1 by omega];rfl)) ?_;apply(vB);refine cX L R ?_;exact⟨by rw[tL,if_pos M,UY D],rfl,rfl⟩
def aXF(h:A->B:=by exact aI mM rfl):=h
def aZi(h:A->B:=by exact aI aQG rfl):=h
def aKA(h:B:=by exact⟨by rw[aJy (n:=s.b0.aC.aJ.l.length) D D k D (by rw[AC];omega)],rfl,rfl⟩):=h
def aIR(h:A->B:=by exact aI q1 rfl):=h
def aHd(h:A->B:=by exact gZ N [0,1,2,3,4,5,6,7] ([bN.mk gL _ _]) dO bI bA):=h
def aG1(h:A->B:=by exact bE q1 rfl rfl rfl):=h
def aJx(h:A->B:=by exact aI Wu rfl):=h
def aIj(h:B:=by exact⟨by rw[nO,if_neg D,if_neg D,if_neg D,if_neg D,if_neg D,e],rfl,rfl⟩):=h
def aXK{x:gP}(h:p5 x=0):0<=x.target:=by
 rw[p5]at h;split at h;·omega
 split at h;·rename_i X;rw[DW]at X;omega
 ·omega
def aYB(s:eA)(L:aR)(R:aO)(aH:aL (CI s.cO) R)(b1:s.cO.l.length<=64):
 aM prog 203 [s.val].toArray L R (λv E G=>v=.int .i64 (HJ s.b0 s.cO.l)/\L=E/\R=G):=by
 refine b6 62 call203 func203 rfl rfl rfl ?_;apply(dB);intro gL;apply hH∘nP;refine dS [(1,.pointer _),(3,.int _ _)] bV λfK=>?_;refine gY (cN 2 60) (λg:E5 (wL s.b0 s.cO.l) (s.cO.l.length)=>[(3,.int .i64 ((g.1:Nat):Int))]) (λg=>(s.cO.l.length)-g.1) ⟨0,EC _ _⟩ ?_;rintro⟨fF,zA,gM⟩ cH;try dsimp only
 apply(q9);refine U ?_ ?_<;>intro aQ;·
  have pX:=bJ (l:=s.cO.l) (k:=fF) default D;obtain⟨x,K⟩:∃x,x=s.cO.l.getD fF default:=⟨_,rfl⟩;rw[<-K]at pX;apply(FY);refine aI O0 rfl ?_;refine aI Ck rfl ?_;apply(dZ);intro eD;apply rT∘aIR;refine cD rfl (Yr x _ _) ?_;apply(j7);refine U ?_ ?_<;>intro bL;·apply SM∘Bg;refine cX L R ?_;have h:=wH gM D aQ0;exact On
  have Ao:=aXK (x:=x) D;apply(e0);iterate 3 apply(e7)
  apply SI∘LH∘nJ;refine F3 [6,33,34,35,36] ((⟨λg=>[(6,.int .i64 g.1)],λ_=>⟨eD,x.cells,88⟩::⟨gL,s.cells,38⟩::L,λ_=>R,λ_=>0⟩:fB {n:Int//n=if x.kind=5 then(s.b0.c3.l.length:Int)else s.b0.aC.aJ.l.length})) ?_ ?_;·
   skip
   refine U ?_ ?_<;>intro cC;·apply eB∘CT∘Dp;refine wU ⟨_,?_⟩;(repeat' split)<;>first|rfl|omega
   refine eP ?_;refine wU ⟨_,?_⟩;(repeat' split)<;>first|rfl|omega
  rintro⟨bAI,aML⟩ cH;try dsimp only
  apply tD∘fD∘nJ;refine F3 [6,40,41,42,43] ((⟨λg=>[(6,.int .i64 g.1)],λ_=>⟨eD,x.cells,88⟩::⟨gL,s.cells,38⟩::L,λ_=>R,λ_=>0⟩:fB {n:Int//n=PM s.b0 x})) ?_ ?_;·
   skip
   refine U ?_ ?_<;>intro dX;·apply eB∘CT∘Dp;exact aP1
   refine eP ?_;exact aP1
  rintro⟨of,Gh⟩ cH;try dsimp only
  apply tD∘gK∘D7;refine U ?_ ?_<;>intro dY;·apply(FU);refine cX L R ?_;have h:=wH gM D (show wL s.b0 s.cO.l fF=some 9 by rw[wL,<-K,if_neg D,if_pos (by rw[<-Gh];omega)]);exact On
  apply e0∘nP;refine FP (cN 2 60) G1 [(3,.int _ _),(4,.pointer _),(7,.int _ _)] bV λoA=>?_;refine gY ([2,7]++cN 48 14) (λg:{j:Nat//j<=fF/\∀m:Nat,m<j->(s.cO.l.getD m default).hX≠x.hX}=>[(7,.int .i64 ((g.1:Nat):Int))]) (λg=>fF-g.1) (⟨0,by omega,λm a3=>by omega⟩) ?_;rintro⟨j,a6,hC⟩ cH;try dsimp only
  apply(VT);refine U ?_ ?_<;>intro h1;·
   have Lv:=bJ (l:=s.cO.l) (k:=j) default D;refine eP (a8 (bK (fR (bK ?_))));refine gZ N [0,1,2,3,4,5,6,7,8] ([bN.mk eD _ _,bN.mk gL _ _]) dO bI bA ?_;apply(l1);refine bE Cl rfl rfl rfl ?_;apply z7∘g7;refine bE BA rfl rfl rfl ?_;apply(wV);refine U ?_ ?_<;>intro h2;·apply(m3);refine eZ (a8 (iY (iM (gB (vW (iM (iM (gB (vW (iM (gB ?_)))))))))));refine cX L R ?_;have h:=wH gM D (show wL s.b0 s.cO.l fF=some 9 by rw[wL,<-K,if_neg D,if_neg (λh=>h (by rw[<-Gh];omega)),if_pos ⟨j,by omega,h2⟩]);exact On
   apply(mT);exact aPT
  refine mD (mF (xY (mB (hI (a8 (c2 ?_))))));apply(M8);exact eO ⟨fF+1,z2 gM D (aDz K D (by rw[<-Gh];omega) (λm a3=>hC m D))⟩
 exact aTq
def aZu(s:eA)(c:qM)(L:aR)(R:aO)(aH:aL (CI s.cO) R)(b1:s.cO.l.length<=64):
 aM prog 204 [s.val,c.val].toArray L R (λv E G=>v=.int .i64 (K1 s.cO.l s.b0.aC.aJ.l.length c)/\L=E/\R=G):=by
 refine b6 67 call204 func204 rfl rfl rfl ?_;apply(dB);intro eH;apply(iV);intro eS;apply(LH);refine eZ (a8 (fR (bK (bK (c2 ?_)))));apply(vX);refine U ?_ ?_<;>intro aQ;·refine eP (a8 ?_);exact a3b
 apply(oI);refine U ?_ ?_<;>intro bL;·refine eP (a8 ?_);exact a3b
 apply(oI);refine U ?_ ?_<;>intro cC;·refine eP (a8 ?_);exact a3b
 apply eB∘vX;exact a3b
def aZR(s:eA)(z:kW)(L:aR)(R:aO)(M:aL (D1 z.jN) R)(eW:aL (dU z.aJ) R):
 aM prog 205 [s.val,z.val].toArray L R (λv E G=>v=.int .i64 (BQ s.fC.l.length s.b0.aC.aJ.l.length z)/\L=E/\R=G):=by
 refine m1 call205 eW λKC=>?_;refine b6 78 call205 func205 rfl rfl rfl ?_;apply(dB);intro eH;apply(iV);intro eS;apply LH∘kD;refine cD rfl (b0v z.jN s.fC.l.length _ _ M) ?_;apply(j7);refine U ?_ ?_<;>intro aQ;·apply(FW);refine cX L R ?_;exact⟨by rw[BQ,if_pos aQ],rfl,rfl⟩
 apply hN∘qO;apply cA (Z:=[_,_,_]) (j:=3) (a9:=19) rfl rfl aB rfl aY rfl;·exact DR
 intro h8;apply(dE);apply cA (Z:=[_,_,_]) (j:=8) (a9:=24) rfl rfl aB rfl aY rfl;·exact Ce
 intro uY;apply(dE);apply cA (Z:=[_,_,_]) (j:=13) (a9:=29) rfl rfl aB rfl aY rfl;·exact Ic
 intro Q3;apply(b9);refine U ?_ ?_<;>intro bL;·exact aPQ
 apply(yZ);refine dS [(2,.pointer _),(3,.pointer _),(6,.int _ _)] bV λfK=>?_;refine gY ([4,6]++cN 34 44) (λg:{k:Nat//k<=z.aJ.l.length/\∀j:Nat,j<k->¬AC s.b0.aC.aJ.l.length z.aJ.l j}=>[(6,.int .i64 ((g.1:Nat):Int))]) (λg=>z.aJ.l.length-g.1) (⟨0,by omega,λj a6=>by omega⟩) ?_;rintro⟨k,aG,hC⟩ cH;try dsimp only
 apply(q9);refine U ?_ ?_<;>intro cC;·
  have qG:=bJ (l:=z.aJ.l) (k:=k) 0 D;refine eP (a8 (bK (fR (bK ?_))));refine gZ N [0,1,2,3,4,5,6,7,8,9,10,11,12,13,14,15,16,17,18,19,20,21,22,23,24,25,26,27,28,29,30,31,32,33,34,35,36] ([bN.mk eS _ _,bN.mk eH _ _]) dO bI bA ?_;apply HQ∘k4;refine bE E0 rfl rfl rfl ?_;apply(sS);refine lQ (k:=47) aY (λkL=>?_) (λkL=>?_);·replace kL:=bB kL;(iterate 11 apply(iU));exact(k1) aSb
  replace kL:=bB kL;apply HQ∘k4;iterate 3 apply(lA)
  apply(Bd);refine bE yG rfl rfl rfl ?_;refine bE G4 rfl rfl rfl ?_;apply(k1);refine lQ (k:=60) aY (λZ4=>?_) (λZ4=>?_);·replace Z4:=bB Z4;exact aSb
  replace Z4:=bB Z4;apply(hK);refine bE UK rfl rfl rfl ?_;apply(sS);refine lQ (k:=63) aY (λZ5=>?_) (λZ5=>?_);·
   replace Z5:=bB Z5;have b57:=bJ (l:=z.aJ.l) (k:=k-1) 0 D;apply HQ∘k4∘l1∘vQ;refine bE aDo rfl rfl rfl ?_;apply(k4);refine bE (Qk rfl rfl) rfl rfl rfl ?_;apply KJ∘l2;refine U ?_ ?_<;>intro dX;·apply(vY);refine cX L R ?_;exact aKA
   apply(mT);exact aCb
  replace Z5:=bB Z5;iterate 12 apply(iU)
  apply KJ∘l2;refine MX rfl ?_;apply(mT);exact aCb
 exact aQs
def a5c(s:eA)(L:aR)(R:aO)(aH:zY s R):
 aM prog 121 [s.val].toArray L R (λv E G=>v=.int .i64 (nO s)/\L=E/\R=G):=by
 have jB:=aH.cO;have AN:=aH.fC;have o4:=aH.a2;have WS:=aH.lM;refine b6 100 call121 func121 rfl rfl rfl ?_;apply(dB);intro gL;apply hH∘e7∘r5;refine cD rfl (Pg s.b0 _ _ aH.b0) ?_;apply(j7);refine U ?_ ?_<;>intro aQ;·apply(FW);refine cX L R ?_;exact⟨by rw[nO,if_pos aQ],rfl,rfl⟩
 apply hN∘JM∘dE;apply cA (Z:=[_,_,_,_]) (j:=4) (a9:=20) rfl rfl aB rfl aY rfl;·exact UJ
 intro wP;apply(dE);apply cA (Z:=[_,_,_,_]) (j:=10) (a9:=26) rfl rfl aB rfl aY rfl;·intro pE;replace pE:=bB pE;exact(JM) g4
 intro a2F;apply(dE);apply cA (Z:=[_,_,_,_]) (j:=16) (a9:=32) rfl rfl aB rfl aY rfl;·intro yA;replace yA:=bB yA;exact(JM) g4
 intro a2H;apply(b9);refine U ?_ ?_<;>intro bL;·exact aPo
 apply hN∘aIR;refine cD rfl (aYB s _ _ jB D) ?_;apply(j7);refine U ?_ ?_<;>intro cC;·exact aST
 apply(yZ);refine dS [(1,.pointer _),(5,.int _ _)] bV λfK=>?_;refine gY ([2,5,6]++cN 43 17) (λg:FS (a5f s) (s.fC.l)=>[(5,.int .i64 ((g.1:Nat):Int))]) (λg=>(s.fC.l).length-g.1) ⟨0,y0 _ _⟩ ?_;rintro⟨fF,zA,gM⟩ cH;try dsimp only
 apply(q9);refine U ?_ ?_<;>intro dX;·
  obtain⟨c,cG⟩:=jW (l:=s.fC.l) (k:=fF) D;refine eP (a8 (bK (fR (bK ?_))));apply aHd∘aG1∘l1;refine bE O0 rfl rfl rfl ?_;refine bE Wt rfl rfl rfl ?_;refine lW rfl (aZu s c _ _ jB D) ?_;apply(qV);refine g5 (a8 (bK (c2 ?_)));apply cE∘rR;refine U ?_ ?_<;>intro dY;·exact aSK
  apply(mT);exact eO ⟨fF+1,x5 gM cG (a1f D)⟩
 have mX:=y1 gM D;refine mD (mF (xY (mB (a8 (bK (bK ?_))))));have mQ:O9 s=0:=by rw[O9,mX];rfl
 apply(NE);refine dS [(1,.pointer _),(7,.int _ _)] bV λoA=>?_;refine gY ([2,7,8]++cN 60 17) (λg:FS (a5m s) (s.a2.l)=>[(7,.int .i64 ((g.1:Nat):Int))]) (λg=>(s.a2.l).length-g.1) ⟨0,y0 _ _⟩ ?_;rintro⟨g9,hE,jT⟩ cH;try dsimp only
 apply(q9);refine U ?_ ?_<;>intro h1;·
  obtain⟨z,eW⟩:=jW (l:=s.a2.l) (k:=g9) D;refine eP (a8 (bK (fR (bK ?_))));apply aHd∘aG1∘l1;refine bE Ok rfl rfl rfl ?_;apply(Bj);refine lW rfl (aZR s z _ _ (aL.jN o4 eW) (aL.Xk o4 eW)) ?_;apply(qV);refine g5 (a8 (bK (c2 ?_)));apply cE∘rR;refine U ?_ ?_<;>intro h2;·exact aSE
  apply(mT);exact eO ⟨g9+1,x5 jT eW (a1f D)⟩
 have tV:=y1 jT D;refine mD (mF (xY (mB (a8 (bK (bK ?_))))));have b56:HY s=0:=by rw[HY,tV];rfl
 apply(NE);refine dS [(1,.pointer _),(9,.int _ _)] bV λUD=>?_;refine gY ([2,9]++cN 77 23) (λg:FS (YV) (s.lM.l)=>[(9,.int .i64 ((g.1:Nat):Int))]) (λg=>(s.lM.l).length-g.1) ⟨0,y0 _ _⟩ ?_;rintro⟨fI,l5,zC⟩ cH;try dsimp only
 apply(q9);refine U ?_ ?_<;>intro n8;·
  obtain⟨p,aP⟩:=jW (l:=s.lM.l) (k:=fI) D;apply FY∘aJx∘sH∘z5;apply cA (Z:=[_,_,_,_,_,_,_]) (j:=7) (a9:=91) rfl rfl aB rfl aY rfl;·intro hM;replace hM:=bB hM;exact(gK∘aJx∘sH) MI
  intro OD;apply(b9);refine U ?_ ?_<;>intro EM;·apply(vY);refine cX L R ?_;(have e:P3 s=19:=by rw[P3,yT (f:=YV) zC aP (show YV p=some 19 from if_pos EM)];rfl);exact aIj
  apply(mT);exact eO ⟨fI+1,x5 zC aP (show YV p=none from if_neg D)⟩
 have AU:=y1 zC D;apply(D8);refine cX L R ?_;have e:P3 s=0:=by rw[P3,AU];rfl
 exact aIj
end Go.Proofs.YtchfclmokpbldaaGreat
