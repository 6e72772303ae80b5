-- By an AI agent; no person has read it.
import Derived.Test.YtchfclmokpbldaaGreatFeedT
set_option linter.all false
set_option maxHeartbeats 4000000
variable{A B:Prop}
namespace Go.Proofs.YtchfclmokpbldaaGreat
open Go.Aw Go Go.Proofs.Tryz
set_option maxRecDepth 20000
attribute [local irreducible] cQ dF dV aM cP eC e5 e1 e2 e6 eX e4 J.L
def PD(h:A->B:=by exact aI mM rfl):=h
def aEu(h:A->B:=by exact aI pL rfl):=h
def aGm(h:A->B:=by exact aI Ww rfl):=h
def aIp(h:A->B:=by exact aI O2 rfl):=h
def aK8(h:A->B:=by exact jH (j5 N (p) (⟨x.bG,x.cZ,x.c1,false,x.bY⟩) rfl rfl rfl rfl cF bR bD bR aW aB aB)):=h
def aGD(h:A->B:=by exact jH (j5 N ((⟨p.o,(p.l.set s.toNat ⟨x.bG,x.cZ,x.c1,false,x.bY⟩)⟩:J bS)) (⟨x.bG,t,x.c1,false,x.bY⟩) rfl rfl rfl rfl cF bR bD bR aW aB aB)):=h
def aDy(h:A->B:=by exact jH (j5 N ((⟨p.o,((p.l.set s.toNat ⟨x.bG,x.cZ,x.c1,false,x.bY⟩).set s.toNat ⟨x.bG,t,x.c1,false,x.bY⟩)⟩:J bS)) (⟨x.bG,t,0,false,x.bY⟩) rfl rfl rfl rfl cF bR bD bR aW aB aB)):=h
def aLe(h:A->B:=by exact jH (j5 N ((⟨p.o,(((p.l.set s.toNat ⟨x.bG,x.cZ,x.c1,false,x.bY⟩).set s.toNat ⟨x.bG,t,x.c1,false,x.bY⟩).set s.toNat ⟨x.bG,t,0,false,x.bY⟩)⟩:J bS)) (⟨x.bG,t,0,false,false⟩) rfl rfl rfl rfl cF bR bD bR aW aB aB)):=h
def aFV(f:hJ)(t:Int)(L:aR)(R:aO)(aF:k0 f R):
 aM prog 252 [f.val,.int .i64 t].toArray L R (λv E G=>v=.bool (decide (JD f.aZ.l t))/\L=E/\R=G):=by
 have jB:=aF.Y;refine G9 call252 jB λJ2=>?_;refine b6 27 call252 func252 rfl rfl rfl ?_;apply(dB);intro eH;apply F1∘Y2;apply cA (Z:=[_,_]) (j:=2) (a9:=8) rfl rfl aB rfl aY rfl;·exact G3
 intro mK;apply(b9);refine U ?_ ?_<;>intro aQ;·exact aRP
 apply(yZ);refine dS [(1,.int _ _),(2,.pointer _),(5,.int _ _)] bV λfK=>?_;refine gY ([4,5]++cN 12 15) (λg:{k:Nat//k<=f.aZ.l.length/\∀j:Nat,j<k->(f.aZ.l.getD j default).cZ<=t}=>[(5,.int .i64 ((g.1:Nat):Int))]) (λg=>f.aZ.l.length-g.1) (⟨0,by omega,λj a6=>by omega⟩) ?_;rintro⟨k,aG,hC⟩ cH;try dsimp only
 apply(q9);refine U ?_ ?_<;>intro bL;·
  have b7:=bJ (l:=f.aZ.l) (k:=k) default D;apply oJ∘gK∘aEu∘sH∘CP;refine U ?_ ?_<;>intro cC;·exact aP6
  apply(mT);exact a3d
 exact aO2
def aJa(f:hJ)(s t:Int)(L:aR)(R:aO)(aF:k0 f R):
 aM prog 206 [f.val,.int .i64 s,.int .i64 t].toArray L R (λv E G=>v=.int .i64 (u7 f.aZ.l f.a2.l f.cB s t)/\L=E/\R=G):=by
 refine b6 26 call206 func206 rfl rfl rfl ?_;apply(dB);intro eS;apply hH∘PD;refine cD rfl (Kx f _ _ aF) ?_;apply(j7);refine U ?_ ?_<;>intro aQ;·apply(FW);refine cX L R ?_;exact⟨by rw[u7,if_pos aQ],rfl,rfl⟩
 apply(LC);apply cA (Z:=[_,_,_,_,_]) (j:=2) (a9:=15) rfl rfl aB rfl aY rfl;·exact Cm
 intro mK;apply(b9);refine U ?_ ?_<;>intro bL;·exact aPL
 apply hN∘PD∘cE;refine cD rfl (aFV f t _ _ aF) ?_;apply(nK);refine U ?_ ?_<;>intro cC;·exact aSM
 exact aSP
def a4C{Y:List bS}{cI:List Int}{bX s t:Int}(h:u7 Y cI bX s t=0):jS Y cI bX=0/\(0<=s/\s<Y.length)/\JD Y t:=by
 rw[u7]at h;split at h;·omega
 split at h;·omega
 split at h;·exact⟨by omega,by omega,by assumption⟩
 ·omega
def aI2(p:J bS)(oT:Value)(bX s t:Int)(R:aO)(iF:p.ok 5 bS.cells)(aH:0<=s/\s<p.l.length):
 aM prog 152 [.agg #[p.val,oT,.int .i64 bX],.int .i64 s,.int .i64 t].toArray (p.L 76 bS.cells) R (λv E G=>v=.bool (p.l.getD s.toNat default).eJ/\(⟨p.o,p7 p.l s t⟩:J bS).ok 5 bS.cells/\(⟨p.o,p7 p.l s t⟩:J bS).L 76 bS.cells=E/\R=G):=by
 have b7:=bJ (l:=p.l) (k:=s.toNat) default D;obtain⟨x,K⟩:∃x,x=p.l.getD s.toNat default:=⟨_,rfl⟩;rw[<-K]at b7;refine b6 30 call152 func152 rfl rfl rfl ?_;apply(dB);intro eS;apply nG∘j8∘gK∘aGm∘T8∘rF∘lX;refine aI jV rfl ?_;apply l6∘aIp∘nK;refine U ?_ ?_<;>intro aQ;·
  apply(PR);refine lG (p.L 76 bS.cells) R ?_;have b2:x.eJ=false:=by simpa using aQ
  have O:p7 p.l s t=p.l:=by rw[p7,<-K,b2,if_neg aW]
  exact⟨by rw[<-K,b2],by rw[O];exact iF,by rw[O],rfl⟩
 apply(wW);have b2:x.eJ=true:=by simpa using aQ
 have hE:=J.qX (f:=bS.cells) (aN:=5) (p:=p) (i:=s.toNat) (x:=⟨x.bG,x.cZ,x.c1,false,x.bY⟩) bD iF;have B3:(p.l.set s.toNat ⟨x.bG,x.cZ,x.c1,false,x.bY⟩)[s.toNat]?=some ⟨x.bG,x.cZ,x.c1,false,x.bY⟩:=tJ D;have l5:=J.qX (f:=bS.cells) (aN:=5) (p:=⟨p.o,(p.l.set s.toNat ⟨x.bG,x.cZ,x.c1,false,x.bY⟩)⟩) (i:=s.toNat) (x:=⟨x.bG,t,x.c1,false,x.bY⟩) bD hE;have jL:((p.l.set s.toNat ⟨x.bG,x.cZ,x.c1,false,x.bY⟩).set s.toNat ⟨x.bG,t,x.c1,false,x.bY⟩)[s.toNat]?=some ⟨x.bG,t,x.c1,false,x.bY⟩:=tJ Xd;have DA:=J.qX (f:=bS.cells) (aN:=5) (p:=⟨p.o,((p.l.set s.toNat ⟨x.bG,x.cZ,x.c1,false,x.bY⟩).set s.toNat ⟨x.bG,t,x.c1,false,x.bY⟩)⟩) (i:=s.toNat) (x:=⟨x.bG,t,0,false,x.bY⟩) bD l5;have fQ:(((p.l.set s.toNat ⟨x.bG,x.cZ,x.c1,false,x.bY⟩).set s.toNat ⟨x.bG,t,x.c1,false,x.bY⟩).set s.toNat ⟨x.bG,t,0,false,x.bY⟩)[s.toNat]?=some ⟨x.bG,t,0,false,x.bY⟩:=tJ aCR;have B4:=J.qX (f:=bS.cells) (aN:=5) (p:=⟨p.o,(((p.l.set s.toNat ⟨x.bG,x.cZ,x.c1,false,x.bY⟩).set s.toNat ⟨x.bG,t,x.c1,false,x.bY⟩).set s.toNat ⟨x.bG,t,0,false,x.bY⟩)⟩) (i:=s.toNat) (x:=⟨x.bG,t,0,false,false⟩) bD DA;apply(eB);iterate 4 apply(lX)
 apply(cE);refine aI jV rfl ?_;apply l6∘aK8;rintro v E G ⟨rfl,rfl⟩;refine aI jV rfl ?_;apply l6∘aGD;rintro v E G ⟨rfl,rfl⟩;refine aI jV rfl ?_;apply l6∘aDy;rintro v E G ⟨rfl,rfl⟩;refine aI jV rfl ?_;apply l6∘aLe;rintro v E G ⟨rfl,rfl⟩;apply j8∘uK;refine lG ((⟨p.o,(((p.l.set s.toNat ⟨x.bG,x.cZ,x.c1,false,x.bY⟩).set s.toNat ⟨x.bG,t,x.c1,false,x.bY⟩).set s.toNat ⟨x.bG,t,0,false,x.bY⟩).set s.toNat ⟨x.bG,t,0,false,false⟩⟩:J bS).L 76 bS.cells) R ?_;have O:p7 p.l s t=(((p.l.set s.toNat ⟨x.bG,x.cZ,x.c1,false,x.bY⟩).set s.toNat ⟨x.bG,t,x.c1,false,x.bY⟩).set s.toNat ⟨x.bG,t,0,false,x.bY⟩).set s.toNat ⟨x.bG,t,0,false,false⟩:=by rw[p7,<-K,b2,if_pos rfl,xQ,xQ,xQ];rfl
 exact⟨by rw[<-K,b2],by rw[O];exact B4,by rw[O],rfl⟩
def aKg(f:hJ)(s t:Int)(L:aR)(R:aO)(aF:k0 f R):
 aM prog 78 [f.val,.int .i64 s,.int .i64 t].toArray L R (λv E G=>∃(p:J bS) (q:J Int) (r:Int),v=.tuple #[.agg #[p.val,q.val,.int .i64 r],.int .i64 (u7 f.aZ.l f.a2.l f.cB s t)]/\(p.ok 5 bS.cells/\q.ok 1 a1)/\(u7 f.aZ.l f.a2.l f.cB s t=0->p.l=p7 f.aZ.l s t/\q.l=f.a2.l/\r=f.cB)/\q.L 3 a1++(p.L 76 bS.cells++L)=E/\R=G):=by
 refine b6 25 call78 func78 rfl rfl rfl ?_;apply(dB);intro eS;apply(dZ);intro i1;apply hH∘PD∘lD;refine cD rfl (aDL f s t _ _ aF) ?_;apply(j7);refine U ?_ ?_<;>intro aQ;·exact aRs
 have v8:=a4C (Decidable.not_not.1 aQ);have bH:=xZ v8.1;have GL:=bH.A7;have sP:=bH.w1;apply e0∘PD;refine dT rfl (Zw f _ _ aF D) rfl ?_;rintro v E G ⟨p,q,rfl,⟨iF,gR⟩,eI,fT,rfl,rfl⟩;apply(dZ);intro jR;apply sI∘PD∘lD;refine dT rfl (aM.at (.cons (.s7 .lT)) (aI2 p q.val f.cB s t _ iF (by rw[eI];exact v8.2.1))) rfl ?_;rintro v E G ⟨_,rfl,rfl,TO,rfl,rfl⟩;apply j8∘PD∘oH;refine bQ (q.L 3 a1++((⟨p.o,p7 p.l s t⟩:J bS).L 76 bS.cells++L)) R rJ ?_;exact⟨⟨p.o,p7 p.l s t⟩,q,f.cB,by rw[Decidable.not_not.1 aQ];simp only[J.val,aWX],⟨TO,gR⟩,λ_=>⟨by rw[eI],fT,rfl⟩,rfl,rfl⟩
def aZw(f:hJ)(s t:Int)(L:aR)(R:aO)(aF:k0 f R):
 aM prog 124 [f.val,.int .i64 s,.int .i64 t].toArray L R (λv E G=>∃(p:J bS) (q:J Int) (r:Int),v=.tuple #[.agg #[p.val,q.val,.int .i64 r],.int .i64 (u7 f.aZ.l f.a2.l f.cB s t)]/\(p.ok 5 bS.cells/\q.ok 1 a1)/\(u7 f.aZ.l f.a2.l f.cB s t=0->p.l=p7 f.aZ.l s t/\q.l=f.a2.l/\r=f.cB)/\q.L 3 a1++(p.L 76 bS.cells++L)=E/\R=G):=by
 refine b6 43 call124 func124 rfl rfl rfl ?_;apply(dB);intro eS;apply(dZ);intro i1;apply hH∘PD∘lD;refine cD rfl (aJa f s t _ _ aF) ?_;apply(j7);refine U ?_ ?_<;>intro aQ;·exact aRs
 have v8:=a4C (Decidable.not_not.1 aQ);have bH:=xZ v8.1;have GL:=bH.A7;have sP:=bH.w1;apply e0∘PD;refine dT rfl (a1m f _ _ aF D) rfl ?_;rintro v E G ⟨p,q,rfl,⟨iF,gR⟩,eI,fT,rfl,rfl⟩;apply(dZ);intro jR;apply jZ∘CB;have lK:p.l.length=f.aZ.l.length:=by rw[eI]
 have aNc:=v8.2.1;have b7:=bJ (l:=p.l) (k:=s.toNat) default D;obtain⟨x,K⟩:∃x,x=p.l.getD s.toNat default:=⟨_,rfl⟩;rw[<-K]at b7;apply eB∘gK∘aGm∘T8∘j8∘lX;refine aI jV rfl ?_;apply l6∘aIp∘b9;refine U ?_ ?_<;>intro bL;·
  have hE:=J.qX (f:=bS.cells) (aN:=5) (p:=p) (i:=s.toNat) (x:=⟨x.bG,x.cZ,x.c1,false,x.bY⟩) bD iF;have B3:(p.l.set s.toNat ⟨x.bG,x.cZ,x.c1,false,x.bY⟩)[s.toNat]?=some ⟨x.bG,x.cZ,x.c1,false,x.bY⟩:=tJ D;have l5:=J.qX (f:=bS.cells) (aN:=5) (p:=⟨p.o,(p.l.set s.toNat ⟨x.bG,x.cZ,x.c1,false,x.bY⟩)⟩) (i:=s.toNat) (x:=⟨x.bG,t,x.c1,false,x.bY⟩) bD hE;have jL:((p.l.set s.toNat ⟨x.bG,x.cZ,x.c1,false,x.bY⟩).set s.toNat ⟨x.bG,t,x.c1,false,x.bY⟩)[s.toNat]?=some ⟨x.bG,t,x.c1,false,x.bY⟩:=tJ Xd;have DA:=J.qX (f:=bS.cells) (aN:=5) (p:=⟨p.o,((p.l.set s.toNat ⟨x.bG,x.cZ,x.c1,false,x.bY⟩).set s.toNat ⟨x.bG,t,x.c1,false,x.bY⟩)⟩) (i:=s.toNat) (x:=⟨x.bG,t,0,false,x.bY⟩) bD l5;have fQ:(((p.l.set s.toNat ⟨x.bG,x.cZ,x.c1,false,x.bY⟩).set s.toNat ⟨x.bG,t,x.c1,false,x.bY⟩).set s.toNat ⟨x.bG,t,0,false,x.bY⟩)[s.toNat]?=some ⟨x.bG,t,0,false,x.bY⟩:=tJ aCR;have B4:=J.qX (f:=bS.cells) (aN:=5) (p:=⟨p.o,(((p.l.set s.toNat ⟨x.bG,x.cZ,x.c1,false,x.bY⟩).set s.toNat ⟨x.bG,t,x.c1,false,x.bY⟩).set s.toNat ⟨x.bG,t,0,false,x.bY⟩)⟩) (i:=s.toNat) (x:=⟨x.bG,t,0,false,false⟩) bD DA;apply(eB);iterate 4 apply(lX)
  apply(cE);refine aI jV rfl ?_;apply l6∘aK8;rintro v E G ⟨rfl,rfl⟩;refine aI jV rfl ?_;apply l6∘aGD;rintro v E G ⟨rfl,rfl⟩;refine aI jV rfl ?_;apply l6∘aDy;rintro v E G ⟨rfl,rfl⟩;refine aI jV rfl ?_;apply l6∘aLe;rintro v E G ⟨rfl,rfl⟩;apply j8∘PD∘oH;refine bQ (q.L 3 a1++((⟨p.o,(((p.l.set s.toNat ⟨x.bG,x.cZ,x.c1,false,x.bY⟩).set s.toNat ⟨x.bG,t,x.c1,false,x.bY⟩).set s.toNat ⟨x.bG,t,0,false,x.bY⟩).set s.toNat ⟨x.bG,t,0,false,false⟩⟩:J bS).L 76 bS.cells++L)) R rJ ?_;exact⟨⟨p.o,(((p.l.set s.toNat ⟨x.bG,x.cZ,x.c1,false,x.bY⟩).set s.toNat ⟨x.bG,t,x.c1,false,x.bY⟩).set s.toNat ⟨x.bG,t,0,false,x.bY⟩).set s.toNat ⟨x.bG,t,0,false,false⟩⟩,q,f.cB,by rw[Decidable.not_not.1 aQ];simp only[J.val,q0],⟨B4,gR⟩,λ_=>⟨by rw[<-eI,p7,<-K,if_pos bL];show((((p.l.set _ _).set _ _).set _ _).set _ _)=_;rw[xQ,xQ,xQ];rfl,fT,rfl⟩,rfl,rfl⟩
 apply e0∘PD∘oH;refine bQ (q.L 3 a1++(p.L 76 bS.cells++L)) R rJ ?_;exact⟨p,q,f.cB,by rw[Decidable.not_not.1 aQ],⟨iF,gR⟩,λ_=>⟨by rw[<-eI,p7,<-K,if_neg (by simp only[bL];decide)],fT,rfl⟩,rfl,rfl⟩
def aFy(x:bS)(L:aR)(R:aO):
 aM prog 104 [x.val].toArray L R (λv E G=>v=.bool (VJ x)/\L=E/\R=G):=by
 refine b6 16 call104 func104 rfl rfl rfl ?_;apply(dB);intro gL;apply nG∘j8∘fD∘JR;apply iR (Z:=[_,_,_]) (j:=3) (a9:=6) rfl rfl aB rfl aY rfl;·exact Cn
 intro h8;apply(dE);apply iR (Z:=[_,_,_]) (j:=8) (a9:=11) rfl rfl aB rfl aY rfl;·intro gH;replace gH:=bB gH;exact(fD) I0
 intro uY;apply(uK);refine lG L R ?_;exact⟨by rw[VJ];try simp[Bool.and_assoc],rfl,rfl⟩
def UT(Y:List bS)(cI:List Int)(bX:Int):Int:=if jS Y cI bX≠0 then 0 else M0 Y bX
def Dl(Y:List bS)(bX:Int)(k:Nat):Int:=(Y.take k).foldl (Eg bX) 1099511627776
def aJY{Y:List bS}{bX:Int}{k:Nat}{x:bS}(h:Y[k]?=some x):Dl Y bX (k+1)=Eg bX (Dl Y bX k) x:=by rw[Dl,ME,h];simp[Dl]
def aUz(f:hJ)(L:aR)(R:aO)(aF:k0 f R):
 aM prog 38 [f.val].toArray L R (λv E G=>v=.int .i64 (UT f.aZ.l f.a2.l f.cB)/\L=E/\R=G):=by
 have jB:=aF.Y;refine b6 27 call38 func38 rfl rfl rfl ?_;apply(dB);intro gL;apply hH∘PD;refine cD rfl (ZC f _ _ aF) ?_;apply(rR);refine U ?_ ?_<;>intro aQ;·apply(kM);refine cX L R ?_;exact⟨by rw[UT,if_pos aQ],rfl,rfl⟩
 have bH:=xZ (Decidable.not_not.1 aQ);have GL:=bH.A7;have Al:=bH.bX;apply e0∘hH∘qP;refine dS [(1,.pointer _),(3,.int _ _),(10,.slice _ _ _),(11,.int _ _),(12,.int _ _)] bV λfK=>?_;refine gY ([3,5]++cN 12 14) (λg:{k:Nat//k<=f.aZ.l.length}=>[(12,.int .i64 ((g.1:Nat):Int)),(3,.int .i64 (Dl f.aZ.l f.cB g.1))]) (λg=>f.aZ.l.length-g.1) (⟨0,by omega⟩) ?_;rintro⟨k,aG⟩ cH;try dsimp only
 apply(h0);refine U ?_ ?_<;>intro bL;·
  have b7:=bJ (l:=f.aZ.l) (k:=k) default D;have W0:=bH.cZ k D;have nX:=aJY (bX:=f.cB) b7;obtain⟨x,K⟩:∃x,x=f.aZ.l.getD k default:=⟨_,rfl⟩;rw[<-K]at b7 W0 nX;apply j9∘aEu∘SO;intro gQ;apply(sI);refine aI DT rfl ?_;refine cD rfl (aFy x _ _) ?_;apply(b9);refine U ?_ ?_<;>intro cC;·apply tR∘j0∘k3;refine aI KT rfl ?_;apply dM∘uJ;exact hP ⟨k+1,by omega⟩ gW (by dsimp only;rw[nX,Eg,if_pos cC];exact⟨rfl,rfl,trivial⟩) bA eN hO
  apply(mU);exact hP ⟨k+1,by omega⟩ gW (by dsimp only;rw[nX,Eg,if_neg (by simp only[cC];decide)];exact⟨rfl,rfl,trivial⟩) bA eN hO
 exact aRw
def PL(h:A->B:=by exact aI mM rfl):=h
def Pb(h:A->B:=by exact aI Il rfl):=h
def Pf(h:A->B:=by exact bE (tK N ((⟨p.o,Y⟩:J bS)) rfl rfl rfl cF bR bD bR aB) rfl rfl rfl):=h
def aG4(h:B:=by exact⟨.nil,.nil,0,.nil,.nil,by rw[W];rfl,⟨J.iJ,J.iJ,J.iJ,J.iJ⟩,λh=>by omega,by rw[mE,mE];rfl,rfl⟩):=h
def Yz(h:A->B:=by exact bE aRE rfl rfl rfl):=h
def a4S(h:B:=by exact⟨.nil,.nil,0,by rw[W];rfl,⟨J.iJ,J.iJ⟩,λh=>by omega,by rw[mE,mE];rfl,rfl⟩):=h
def aD9(h:A->B:=by exact fP (jA N ((⟨p.o,p.l.set s.toNat ⟨x.bG,x.cZ,t,x.eJ,x.bY⟩⟩:J bS)) _ rfl rfl ((show _=Value.slice _ _ _ from rfl).trans (by simp only[J.val,q0])) rfl bR (i:=s.toNat) dA jC) rfl rfl rfl rfl):=h
def aTS(h:A->B:=by exact HN (j5 N ((⟨p.o,p.l.set s.toNat ⟨x.bG,x.cZ,t,x.eJ,x.bY⟩⟩:J bS)) (⟨x.bG,x.cZ,t,x.eJ,lt⟩) rfl rfl rfl rfl cF bR bD bR aW aB aB) rfl rfl):=h
def aZD(h:B:=by exact⟨⟨p.o,(p.l.set s.toNat ⟨x.bG,x.cZ,t,x.eJ,x.bY⟩).set s.toNat ⟨x.bG,x.cZ,t,x.eJ,lt⟩⟩,q,f.cB,by simp only[W,J.val,q0],⟨TO,gR⟩,λ_=>⟨by rw[JV,<-K,<-eI,<-i3,xQ],fT,rfl⟩,rfl,rfl⟩):=h
def aEP(h:A->B:=by exact aI (jA N ((⟨p.o,Y⟩:J bS)) _ rfl rfl ((show _=Value.slice _ _ _ from rfl).trans (by simp only[J.val,m6,lK])) rfl bR (i:=z.toNat) dA jC) rfl):=h
def aD1(h:A->B:=by exact gZ N [0,1,2,3,4,5,6,7,8,9,10,11,12,13,14,15] _ dO bI hA):=h
def aFR(h:A->B:=by exact jH (j5 N ((⟨p.o,Y⟩:J bS)) (⟨x.bG,x.cZ,x.c1,x.eJ,true⟩) rfl rfl rfl rfl cF bR bD bR aW aB aB)):=h
def aHe(h:A->B:=by exact hT (pO (f:=a1) (p:=zG) (a:=z) N rfl rfl rfl rfl (QP) cF p2 rfl qI) rfl):=h
def aFb(h:A->B:=by exact fP aRE rfl rfl rfl rfl):=h
def aHV(h:A->B:=by exact hT (pO (f:=a1) (p:=op) (a:=x.bG) N rfl rfl rfl rfl (pH) cF p2 rfl qI) rfl):=h
def aWV(h:B:=by exact⟨(⟨p.o,Y⟩:J bS),q,f.cB,zG,op,by rw[W];simp only[J.val,m6,lK],⟨Aa,gR,QP,pH⟩,λ_=>⟨by rw[a9b],fT,rfl,by rw[a9b],by rw[a9b]⟩,rfl,rfl⟩):=h
def aHG(h:A->B:=by exact bE (jA N ((⟨p.o,(Y.set z.toNat ⟨x.bG,x.cZ,x.c1,x.eJ,true⟩)⟩:J bS)) _ rfl rfl ((show _=Value.slice _ _ _ from rfl).trans (by simp only[J.val,Ab,lK])) rfl bR (i:=x.bG.toNat) dA jC) rfl rfl rfl):=h
def aWy(f:hJ)(s t:Int)(L:aR)(R:aO)(aF:k0 f R):
 aM prog 153 [f.val,.int .i64 s,.int .i64 t].toArray L R (λv E G=>∃(p:J bS) (q:J Int) (r:Int),v=.tuple #[.agg #[p.val,q.val,.int .i64 r],.int .i64 (q6 f.aZ.l f.a2.l f.cB s t)]/\(p.ok 5 bS.cells/\q.ok 1 a1)/\
  (q6 f.aZ.l f.a2.l f.cB s t=0->p.l=JV f.aZ.l s t/\q.l=f.a2.l/\r=f.cB)/\q.L 3 a1++(p.L 76 bS.cells++L)=E/\R=G):=by
 have jB:=aF.Y;refine b6 57 call153 func153 rfl rfl rfl ?_;apply(dB);intro eS;apply(dZ);intro i1;apply hH∘PL;refine cD rfl (ZC f _ _ aF) ?_;apply(j7);refine U ?_ ?_<;>intro aQ;·
  apply dC∘Pb∘tQ;refine bQ L R rJ ?_;have W:q6 f.aZ.l f.a2.l f.cB s t=jS f.aZ.l f.a2.l f.cB:=by rw[q6,if_pos aQ]
  exact a4S
 apply(LC);apply cA (Z:=[_,_,_,_,_]) (j:=2) (a9:=18) rfl rfl aB rfl aY rfl;·exact Cm
 intro mK;apply(b9);refine U ?_ ?_<;>intro bL;·
  apply dC∘Pb∘p8;refine bQ L R rJ ?_;have W:q6 f.aZ.l f.a2.l f.cB s t=16:=by rw[q6,if_neg D,if_pos D]
  exact a4S
 apply hN∘cE∘p9;apply iR (Z:=[_,_]) (j:=2) (a9:=28) rfl rfl aB rfl aY rfl;·intro fQ;replace fQ:=bB fQ;exact(cE) E2
 intro mK;apply(b9);refine U ?_ ?_<;>intro cC;·
  apply dC∘Pb∘p8;refine bQ L R rJ ?_;have W:q6 f.aZ.l f.a2.l f.cB s t=10:=by rw[q6,if_neg D,if_neg D,if_pos D]
  exact a4S
 have W:q6 f.aZ.l f.a2.l f.cB s t=0:=by rw[q6,if_neg D,if_neg D,if_neg D]
 have bH:=xZ (Y:=f.aZ.l) (cI:=f.a2.l) (bX:=f.cB) D;have GL:=bH.A7;have sP:=bH.w1;have b7:=bJ (l:=f.aZ.l) (k:=s.toNat) default D;obtain⟨x,K⟩:∃x,x=f.aZ.l.getD s.toNat default:=⟨_,rfl⟩;rw[<-K]at b7;apply e0∘PL;refine dT rfl (Zw f _ _ aF D) rfl ?_;rintro v E G ⟨p,q,rfl,⟨iF,gR⟩,eI,fT,rfl,rfl⟩;apply(dZ);intro jR;apply(HT);have zD:p.l[s.toNat]?=some x:=by rw[eI];exact b7
 have lK:p.l.length=f.aZ.l.length:=by rw[eI]
 apply eB∘gK∘cE;refine aI Ww rfl ?_;apply(l6);refine jH aSg ?_;rintro v E G ⟨rfl,rfl⟩;apply(j2);have Mc:=J.qX (f:=bS.cells) (aN:=5) (p:=p) (i:=s.toNat) (x:=⟨x.bG,x.cZ,t,x.eJ,x.bY⟩) bD iF;have b4Z:(p.l.set s.toNat ⟨x.bG,x.cZ,t,x.eJ,x.bY⟩)[s.toNat]?=some ⟨x.bG,x.cZ,t,x.eJ,x.bY⟩:=tJ D;refine iS N [] [0,1,2,3,4,5,6,7,8,9,10,11,12,13,14] [15] (_) _ dO bI bA fM ?_;apply BO∘BO∘aD9∘CC;refine fP (tK N ((⟨p.o,p.l.set s.toNat ⟨x.bG,x.cZ,t,x.eJ,x.bY⟩⟩:J bS)) rfl rfl rfl cF bR bD bR aB) rfl rfl rfl rfl ?_;refine fP (CH aY) rfl rfl rfl rfl ?_;refine aGM (k:=50) aY (λgH=>?_) (λgH=>?_);·
  replace gH:=bB gH;let lt:Bool:=decide (¬t= -1);have i3:lt=(if t= -1 then false else x.bY):=by simp only[lt,gH];split<;>simp_all
  have TO:=J.qX (f:=bS.cells) (aN:=5) (p:=⟨p.o,p.l.set s.toNat ⟨x.bG,x.cZ,t,x.eJ,x.bY⟩⟩) (i:=s.toNat) (x:=⟨x.bG,x.cZ,t,x.eJ,lt⟩) bD Mc;apply(zO);refine fP KU rfl rfl rfl rfl ?_;exact aRO
 replace gH:=bB gH;let lt:Bool:=false;have i3:lt=(if t= -1 then false else x.bY):=by simp only[lt,gH];split<;>rfl
 have TO:=J.qX (f:=bS.cells) (aN:=5) (p:=⟨p.o,p.l.set s.toNat ⟨x.bG,x.cZ,t,x.eJ,x.bY⟩⟩) (i:=s.toNat) (x:=⟨x.bG,x.cZ,t,x.eJ,lt⟩) bD Mc;refine a4U rfl rfl rfl ?_;refine a4U rfl rfl rfl ?_;exact aRO
def FM(Y:List bS)(cI:List Int)(bX t:Int):Int:=if jS Y cI bX≠0 then jS Y cI bX else if JD Y t then 0 else 8
def aFS{Y:List bS}{bX t z:Int}{y:Do}(eW:0<=z/\z<Y.length)(h:JJ Y bX t (Y.length-1-z).toNat=y):JJ Y bX t (Y.length-1-(z-1)).toNat=VI bX t y z.toNat:=by
 have e:((Y.length:Int)-1-(z-1)).toNat=((Y.length:Int)-1-z).toNat+1:=by omega
 have fN:Y.length-1-((Y.length:Int)-1-z).toNat=z.toNat:=by omega
 rw[e,JJ,h,fN]
def aDA{Y r6:List bS}{cI:List Int}{bX t:Int}(h:jS Y cI bX=0)(k:tM Y r6 t){i:Nat}(aE:i<Y.length):-1<=(r6.getD i default).bG/\(r6.getD i default).bG<i:=by rw[(k.l3 i aE).1];exact(xZ h).up i aE
def b0p{Y:List bS}{a t:Int}{i:Nat}(h:a.toNat≠i):(p7 Y a t)[i]?=Y[i]?:=by
 rw[p7];split;·rw[KN h]
 ·rfl
def aVK(f:hJ)(t:Int)(L:aR)(R:aO)(aF:k0 f R):
 aM prog 158 [f.val,.int .i64 t].toArray L R (λv E G=>∃(p:J bS) (q:J Int) (r:Int) (zG op:J Int),v=.tuple #[.agg #[p.val,q.val,.int .i64 r],zG.val,op.val,.int .i64 (FM f.aZ.l f.a2.l f.cB t)]/\(p.ok 5 bS.cells/\q.ok 1 a1/\zG.ok 1 a1/\op.ok 1 a1)/\(FM f.aZ.l f.a2.l f.cB t=0->p.l=(nA f.aZ.l f.cB t).Y/\q.l=f.a2.l/\r=f.cB/\zG.l=(nA f.aZ.l f.cB t).bY/\op.l=(nA f.aZ.l f.cB t).RA)/\op.L 3 a1++(zG.L 3 a1++(q.L 3 a1++(p.L 76 bS.cells++L)))=E/\R=G):=by
 refine b6 86 call158 func158 rfl rfl rfl ?_;apply(dB);intro eH;apply(dZ);intro eD;apply wI∘hH∘PL;refine cD rfl (ZC f _ _ aF) ?_;apply(j7);refine U ?_ ?_<;>intro aQ;·exact aQq
 apply hN∘PL∘cE;refine cD rfl (aJT f t _ _ aF) ?_;apply(nK);refine U ?_ ?_<;>intro bL;·exact aRl
 have i2:jS f.aZ.l f.a2.l f.cB=0:=by omega
 have r2:JD f.aZ.l t:=by simpa using bL
 have W:FM f.aZ.l f.a2.l f.cB t=0:=by rw[FM,if_neg aQ,if_pos r2]
 have bH:=xZ i2;have GL:=bH.A7;have sP:=bH.w1;have Al:=bH.bX;apply e0∘PL;refine dT rfl (Zw f _ _ aF D) rfl ?_;rintro v E G ⟨p,q,rfl,⟨iF,gR⟩,eI,fT,rfl,rfl⟩;apply(dZ);intro jR;apply sI∘wI∘CB;have lK:p.l.length=f.aZ.l.length:=by rw[eI]
 apply eB∘kD∘j3∘nP;refine dS [(1,.int _ _),(2,.pointer _),(4,.pointer _),(9,.pointer _),(10,.slice _ _ _),(11,.slice _ _ _),(12,.int _ _)] bV λfK=>?_;refine qK ([10,11,12,13]++cN 31 52) ((⟨λg=>[(12,.int .i64 g.1.1),(10,g.1.2.1.1.val),(11,g.1.2.1.2.val)],λg=>g.1.2.1.2.L 3 a1++(g.1.2.1.1.L 3 a1++(⟨jR,[p.val,q.val,.int .i64 f.cB],42⟩::(q.L 3 a1++((⟨p.o,g.1.2.2⟩:J bS).L 76 bS.cells++(⟨eD,[.slice none 0 0,.slice none 0 0,.int .i64 0],42⟩::⟨eH,f.cells,42⟩::L))))),λ_=>R,λg=>(g.1.1+1).toNat⟩:fB {g:Int×(J Int×J Int)×List bS//(-1<=g.1/\g.1<f.aZ.l.length)/\JJ f.aZ.l f.cB t (f.aZ.l.length-1-g.1).toNat=⟨g.2.2,g.2.1.1.l,g.2.1.2.l⟩/\(g.2.1.1.ok 1 a1/\g.2.1.2.ok 1 a1)})) (⟨((p.l.length:Int)-1,(J.nil,J.nil),p.l),by dsimp only;omega,by dsimp only;rw[show((f.aZ.l.length:Int)-1-((p.l.length:Int)-1)).toNat=0 by omega,JJ,eI],J.iJ,J.iJ⟩) bV (by simp only[mE,nN];exact bA) eN ?_;rintro⟨⟨z,⟨zG,op⟩,Y⟩,eW,dW,QP,pH⟩ cH;try dsimp only
 dsimp only at eW dW QP pH;have QO:tM f.aZ.l Y t:=by have:=Ix (bX:=f.cB) (t:=t) i2 (f.aZ.l.length-1-z).toNat D;rw[dW]at this;exact this
 have m6:=QO.len;have Gx:=Qn (Y:=f.aZ.l) (bX:=f.cB) (t:=t) (f.aZ.l.length-1-z).toNat;rw[dW]at Gx;dsimp only at Gx;have Aa:(⟨p.o,Y⟩:J bS).ok 5 bS.cells:=J.o6 bD iF (m6.trans lK.symm);apply(VX);refine U ?_ ?_<;>intro cC;·
  have oM:=aFS (bX:=f.cB) (t:=t) (z:=z) D dW;have b7:=bJ (l:=Y) (k:=z.toNat) default D;have Fm:=aDA i2 QO (i:=z.toNat) D;have W0:=QO.l3 z.toNat D;have b5t:=bH.cZ z.toNat D;have b5B:=r2.1;rw[VI]at oM;dsimp only at oM;obtain⟨x,K⟩:∃x,x=Y.getD z.toNat default:=⟨_,rfl⟩;rw[<-K]at b7 Fm W0 oM;rw[show Jx x=⟨x.bG,x.cZ,x.c1,x.eJ,true⟩from rfl]at oM;have b5u:=W0.2.1;apply FY∘aEP∘T8∘CB∘aD1∘VN;refine bE (a57 (row:=[_,_,_,_,_]) N ((⟨p.o,Y⟩:J bS)) rfl rfl rfl cF bR bD bR aB aB) rfl rfl rfl ?_;refine lW rfl (aFy x _ _) ?_;refine bE (NQ rfl) rfl rfl rfl ?_;apply(sS);refine lQ (k:=44) aY (λhD=>?_) (λhD=>?_);·replace hD:=bB hD;(iterate 9 apply(iU));apply(l2);refine vS rfl ?_;exact aSY
  replace hD:=bB hD;apply hK∘PW∘Pf∘vQ∘g7;refine bE E0 rfl rfl rfl ?_;apply(l2);refine U ?_ ?_<;>intro dX;·exact aSY
  rw[if_pos ⟨by simpa using hD,by omega⟩]at oM;apply e0∘lX;refine aI jV rfl ?_;apply l6∘aFR;rintro v E G ⟨rfl,rfl⟩;apply(j2);have hE:(⟨p.o,(Y.set z.toNat ⟨x.bG,x.cZ,x.c1,x.eJ,true⟩)⟩:J bS).ok 5 bS.cells:=J.qX (f:=bS.cells) (aN:=5) (p:=(⟨p.o,Y⟩:J bS)) (i:=z.toNat) (x:=⟨x.bG,x.cZ,x.c1,x.eJ,true⟩) bD Aa;have B3:(Y.set z.toNat ⟨x.bG,x.cZ,x.c1,x.eJ,true⟩)[z.toNat]?=some ⟨x.bG,x.cZ,x.c1,x.eJ,true⟩:=tJ D;have Ab:(Y.set z.toNat ⟨x.bG,x.cZ,x.c1,x.eJ,true⟩).length=f.aZ.l.length:=by rw[q0];exact m6
  obtain⟨e3,tA⟩:∃e3,e3=if 0<=x.bG then p7 (Y.set z.toNat ⟨x.bG,x.cZ,x.c1,x.eJ,true⟩) x.bG t else(Y.set z.toNat ⟨x.bG,x.cZ,x.c1,x.eJ,true⟩):=⟨_,rfl⟩;apply wJ∘GU;rintro v E G ⟨b8P,rfl,rfl,a8S⟩;replace a8S:=a8S.symm;subst a8S;apply(aHe);rintro v E G ⟨aNR,rfl,aMS,rfl,rfl⟩;apply(BK);refine iS N [] [0,1,2,3,4,5,6,7,8,9,10,11] [12,13] (_) _ dO bI bA fM ?_;apply(T6);refine fP jV rfl rfl rfl rfl ?_;apply CC∘aFb;refine fP G4 rfl rfl rfl rfl ?_;refine fP (CH aY) rfl rfl rfl rfl ?_;refine aGM (k:=67) aY (λhD=>?_) (λhD=>?_);·
   replace hD:=bB hD;(have Li:p7 (Y.set z.toNat ⟨x.bG,x.cZ,x.c1,x.eJ,true⟩) x.bG t=e3:=by rw[tA,if_pos hD]);have TM:=aI2 (⟨p.o,(Y.set z.toNat ⟨x.bG,x.cZ,x.c1,x.eJ,true⟩)⟩:J bS) q.val f.cB x.bG t R hE hO;(have TP:(⟨p.o,(Y.set z.toNat ⟨x.bG,x.cZ,x.c1,x.eJ,true⟩)⟩:J bS).val=p.val:=by simp only[J.val,Ab,lK]);rw[TP]at TM;dsimp only at TM;rw[Li]at TM;refine fP mM rfl rfl rfl rfl ?_;apply(T6);refine fP jV rfl rfl rfl rfl ?_;apply CC∘aFb∘zO∘zN;refine tP rfl (aM.at (by repeat(first|apply HE.lT|apply HE.cons|apply HE.s7)) TM) rfl rfl ?_;rintro v E G ⟨_,rfl,rfl,l5,rfl,rfl⟩;refine⟨bA,iQ,?_⟩;apply(l2);refine U ?_ ?_<;>intro dY;·(have jL:e3[z.toNat]?=some ⟨x.bG,x.cZ,x.c1,x.eJ,true⟩:=by rw[<-Li,b0p D];exact B3);apply BL∘lX;refine aI jV rfl ?_;apply(l6);refine aI (tK N ((⟨p.o,e3⟩:J bS)) rfl rfl rfl cF bR bD bR aB) rfl ?_;apply(GU);rintro v E G ⟨b1l,rfl,rfl,Fi⟩;replace Fi:=Fi.symm;subst Fi;apply(aHV);rintro v E G ⟨aBK,rfl,aAj,rfl,rfl⟩;apply kA∘RD∘Y4;exact eO ⟨(z-1,(⟨aNR,zG.l++[z]⟩,⟨aBK,op.l++[x.bG]⟩),e3),by dsimp only;omega,by dsimp only;rw[oM,if_pos ⟨hD,dY⟩,<-Li,RF D],aMS,aAj⟩
   exact aPe
  replace hD:=bB hD;have Li:(Y.set z.toNat ⟨x.bG,x.cZ,x.c1,x.eJ,true⟩)=e3:=by rw[tA,if_neg hD]
  have l5:(⟨p.o,e3⟩:J bS).ok 5 bS.cells:=by rw[<-Li];exact hE
  rw[Li];iterate 6 refine a4U rfl rfl rfl ?_
  apply zN∘iU∘l2;refine MX rfl ?_;exact aPe
 exact aRY
def aY2(f:hJ)(t:Int)(L:aR)(R:aO)(aF:k0 f R):
 aM prog 267 [f.val,.int .i64 t].toArray L R (λv E G=>∃(p:J bS) (q:J Int) (r:Int) (zG op:J Int),v=.tuple #[.agg #[p.val,q.val,.int .i64 r],zG.val,op.val,.int .i64 (FM f.aZ.l f.a2.l f.cB t)]/\(p.ok 5 bS.cells/\q.ok 1 a1/\zG.ok 1 a1/\op.ok 1 a1)/\(FM f.aZ.l f.a2.l f.cB t=0->p.l=(nA f.aZ.l f.cB t).Y/\q.l=f.a2.l/\r=f.cB/\zG.l=(nA f.aZ.l f.cB t).bY/\op.l=(nA f.aZ.l f.cB t).RA)/\op.L 3 a1++(zG.L 3 a1++(q.L 3 a1++(p.L 76 bS.cells++L)))=E/\R=G):=by
 refine b6 121 call267 func267 rfl rfl rfl ?_;apply(dB);intro eH;apply(dZ);intro eD;apply wI∘hH∘PL;refine cD rfl (Kx f _ _ aF) ?_;apply(j7);refine U ?_ ?_<;>intro aQ;·exact aQq
 apply hN∘PL∘cE;refine cD rfl (aFV f t _ _ aF) ?_;apply(nK);refine U ?_ ?_<;>intro bL;·exact aRl
 have i2:jS f.aZ.l f.a2.l f.cB=0:=by omega
 have r2:JD f.aZ.l t:=by simpa using bL
 have W:FM f.aZ.l f.a2.l f.cB t=0:=by rw[FM,if_neg aQ,if_pos r2]
 have bH:=xZ i2;have GL:=bH.A7;have sP:=bH.w1;have Al:=bH.bX;apply e0∘PL;refine dT rfl (a1m f _ _ aF D) rfl ?_;rintro v E G ⟨p,q,rfl,⟨iF,gR⟩,eI,fT,rfl,rfl⟩;apply(dZ);intro jR;apply sI∘wI∘CB;have lK:p.l.length=f.aZ.l.length:=by rw[eI]
 apply eB∘kD∘j3∘nP;refine dS [(1,.int _ _),(4,.pointer _),(9,.pointer _),(10,.slice _ _ _),(11,.slice _ _ _),(12,.int _ _)] bV λfK=>?_;refine qK ([10,11,12,13,14]++cN 32 86) ((⟨λg=>[(12,.int .i64 g.1.1),(10,g.1.2.1.1.val),(11,g.1.2.1.2.val)],λg=>g.1.2.1.2.L 3 a1++(g.1.2.1.1.L 3 a1++(⟨jR,[p.val,q.val,.int .i64 f.cB],42⟩::(q.L 3 a1++((⟨p.o,g.1.2.2⟩:J bS).L 76 bS.cells++(⟨eD,[.slice none 0 0,.slice none 0 0,.int .i64 0],42⟩::⟨eH,f.cells,42⟩::L))))),λ_=>R,λg=>(g.1.1+1).toNat⟩:fB {g:Int×(J Int×J Int)×List bS//(-1<=g.1/\g.1<f.aZ.l.length)/\JJ f.aZ.l f.cB t (f.aZ.l.length-1-g.1).toNat=⟨g.2.2,g.2.1.1.l,g.2.1.2.l⟩/\(g.2.1.1.ok 1 a1/\g.2.1.2.ok 1 a1)})) (⟨((p.l.length:Int)-1,(J.nil,J.nil),p.l),by dsimp only;omega,by dsimp only;rw[show((f.aZ.l.length:Int)-1-((p.l.length:Int)-1)).toNat=0 by omega,JJ,eI],J.iJ,J.iJ⟩) bV (by simp only[mE,nN];exact bA) eN ?_;rintro⟨⟨z,⟨zG,op⟩,Y⟩,eW,dW,QP,pH⟩ cH;try dsimp only
 dsimp only at eW dW QP pH;have QO:tM f.aZ.l Y t:=by have:=Ix (bX:=f.cB) (t:=t) i2 (f.aZ.l.length-1-z).toNat D;rw[dW]at this;exact this
 have m6:=QO.len;have Gx:=Qn (Y:=f.aZ.l) (bX:=f.cB) (t:=t) (f.aZ.l.length-1-z).toNat;rw[dW]at Gx;dsimp only at Gx;have Aa:(⟨p.o,Y⟩:J bS).ok 5 bS.cells:=J.o6 bD iF (m6.trans lK.symm);apply(VX);refine U ?_ ?_<;>intro cC;·
  have oM:=aFS (bX:=f.cB) (t:=t) (z:=z) D dW;have b7:=bJ (l:=Y) (k:=z.toNat) default D;have Fm:=aDA i2 QO (i:=z.toNat) D;have W0:=QO.l3 z.toNat D;have b5t:=bH.cZ z.toNat D;have b5B:=r2.1;rw[VI]at oM;dsimp only at oM;obtain⟨x,K⟩:∃x,x=Y.getD z.toNat default:=⟨_,rfl⟩;rw[<-K]at b7 Fm W0 oM;rw[show Jx x=⟨x.bG,x.cZ,x.c1,x.eJ,true⟩from rfl]at oM;have b5u:=W0.2.1;have W5:VJ x=true↔(x.eJ=false/\x.c1≠-1/\x.bY=false):=by rw[VJ];simp[and_assoc]
  apply FY∘aEP∘T8∘CB;refine gZ N [0,1,2,3,4,5,6,7,8,9,10,11,12,13,14,15,16,17,18,19,20,21,22,23,24,25,26,27] _ dO bI hA ?_;apply PW∘Pf∘sS;refine lQ (k:=44) aY (λeR=>?_) (λeR=>?_);·replace eR:=bB eR;(iterate 5 apply(iU));apply(k1);(iterate 4 apply(iU));exact(k1) aDd
  replace eR:=bB eR;apply PW∘Pf;refine bE BA rfl rfl rfl ?_;apply(k1);refine lQ (k:=51) aY (λpE=>?_) (λpE=>?_);·replace pE:=bB pE;(iterate 4 apply(iU));exact(k1) aDd
  replace pE:=bB pE;apply PW∘Pf∘k1;refine lQ (k:=57) aY (λyA=>?_) (λyA=>?_);·replace yA:=bB yA;exact aDd
  replace yA:=bB yA;apply hK∘PW∘Pf∘vQ∘g7;refine bE E0 rfl rfl rfl ?_;apply(l2);refine U ?_ ?_<;>intro dX;·exact aRF
  rw[if_pos ⟨W5.2 ⟨by simpa using eR,by simpa using pE,by simpa using yA⟩,by omega⟩]at oM;apply e0∘lX;refine aI jV rfl ?_;apply l6∘aFR;rintro v E G ⟨rfl,rfl⟩;apply(j2);have hE:(⟨p.o,(Y.set z.toNat ⟨x.bG,x.cZ,x.c1,x.eJ,true⟩)⟩:J bS).ok 5 bS.cells:=J.qX (f:=bS.cells) (aN:=5) (p:=(⟨p.o,Y⟩:J bS)) (i:=z.toNat) (x:=⟨x.bG,x.cZ,x.c1,x.eJ,true⟩) bD Aa;have B3:(Y.set z.toNat ⟨x.bG,x.cZ,x.c1,x.eJ,true⟩)[z.toNat]?=some ⟨x.bG,x.cZ,x.c1,x.eJ,true⟩:=tJ D;have Ab:(Y.set z.toNat ⟨x.bG,x.cZ,x.c1,x.eJ,true⟩).length=f.aZ.l.length:=by rw[q0];exact m6
  apply wJ∘GU;rintro v E G ⟨b8R,rfl,rfl,a8V⟩;replace a8V:=a8V.symm;subst a8V;apply(aHe);rintro v E G ⟨aNS,rfl,aMT,rfl,rfl⟩;apply BK∘aD1∘PW∘Yz;refine bE G4 rfl rfl rfl ?_;apply(sS);refine lQ (k:=80) aY (λhD=>?_) (λhD=>?_);·
   replace hD:=bB hD;have Ti:=bJ (l:=(Y.set z.toNat ⟨x.bG,x.cZ,x.c1,x.eJ,true⟩)) (k:=x.bG.toNat) default D;obtain⟨y,aS⟩:∃y,y=(Y.set z.toNat ⟨x.bG,x.cZ,x.c1,x.eJ,true⟩).getD x.bG.toNat default:=⟨_,rfl⟩;rw[<-aS]at Ti;apply g7∘PW∘Yz∘aHG∘Vq∘Yz∘l2;refine U ?_ ?_<;>intro dY;·
    refine bK ?_;refine gZ N [0,1,2,3,4,5,6,7] _ dO bI hA ?_;apply g7∘PW∘Yz∘aHG;refine bE (FB Cc) rfl rfl rfl ?_;apply(IP);(have jF:x.bG.toNat≠z.toNat:=by omega);(have WP:x.bG.toNat<(Y.set z.toNat ⟨x.bG,x.cZ,x.c1,x.eJ,true⟩).length:=by omega);have l5:=J.qX (f:=bS.cells) (aN:=5) (p:=(⟨p.o,(Y.set z.toNat ⟨x.bG,x.cZ,x.c1,x.eJ,true⟩)⟩:J bS)) (i:=x.bG.toNat) (x:=⟨y.bG,y.cZ,y.c1,false,y.bY⟩) bD hE;have jL:((Y.set z.toNat ⟨x.bG,x.cZ,x.c1,x.eJ,true⟩).set x.bG.toNat ⟨y.bG,y.cZ,y.c1,false,y.bY⟩)[x.bG.toNat]?=some ⟨y.bG,y.cZ,y.c1,false,y.bY⟩:=tJ WP;have DA:=J.qX (f:=bS.cells) (aN:=5) (p:=⟨p.o,((Y.set z.toNat ⟨x.bG,x.cZ,x.c1,x.eJ,true⟩).set x.bG.toNat ⟨y.bG,y.cZ,y.c1,false,y.bY⟩)⟩) (i:=x.bG.toNat) (x:=⟨y.bG,t,y.c1,false,y.bY⟩) bD l5;have fQ:(((Y.set z.toNat ⟨x.bG,x.cZ,x.c1,x.eJ,true⟩).set x.bG.toNat ⟨y.bG,y.cZ,y.c1,false,y.bY⟩).set x.bG.toNat ⟨y.bG,t,y.c1,false,y.bY⟩)[x.bG.toNat]?=some ⟨y.bG,t,y.c1,false,y.bY⟩:=tJ (by rw[q0];exact WP);have B4:=J.qX (f:=bS.cells) (aN:=5) (p:=⟨p.o,(((Y.set z.toNat ⟨x.bG,x.cZ,x.c1,x.eJ,true⟩).set x.bG.toNat ⟨y.bG,y.cZ,y.c1,false,y.bY⟩).set x.bG.toNat ⟨y.bG,t,y.c1,false,y.bY⟩)⟩) (i:=x.bG.toNat) (x:=⟨y.bG,t,0,false,y.bY⟩) bD DA;have b9B:((((Y.set z.toNat ⟨x.bG,x.cZ,x.c1,x.eJ,true⟩).set x.bG.toNat ⟨y.bG,y.cZ,y.c1,false,y.bY⟩).set x.bG.toNat ⟨y.bG,t,y.c1,false,y.bY⟩).set x.bG.toNat ⟨y.bG,t,0,false,y.bY⟩)[x.bG.toNat]?=some ⟨y.bG,t,0,false,y.bY⟩:=tJ (by rw[q0,q0];exact WP);have aMz:=J.qX (f:=bS.cells) (aN:=5) (p:=⟨p.o,((((Y.set z.toNat ⟨x.bG,x.cZ,x.c1,x.eJ,true⟩).set x.bG.toNat ⟨y.bG,y.cZ,y.c1,false,y.bY⟩).set x.bG.toNat ⟨y.bG,t,y.c1,false,y.bY⟩).set x.bG.toNat ⟨y.bG,t,0,false,y.bY⟩)⟩) (i:=x.bG.toNat) (x:=⟨y.bG,t,0,false,false⟩) bD B4;(have b9C:(((((Y.set z.toNat ⟨x.bG,x.cZ,x.c1,x.eJ,true⟩).set x.bG.toNat ⟨y.bG,y.cZ,y.c1,false,y.bY⟩).set x.bG.toNat ⟨y.bG,t,y.c1,false,y.bY⟩).set x.bG.toNat ⟨y.bG,t,0,false,y.bY⟩).set x.bG.toNat ⟨y.bG,t,0,false,false⟩)[z.toNat]?=some ⟨x.bG,x.cZ,x.c1,x.eJ,true⟩:=by rw[KN jF,KN jF,KN jF,KN jF];exact B3);apply(eB);(iterate 4 apply(lX));apply(cE);refine aI jV rfl ?_;apply(l6);refine jH (j5 N ((⟨p.o,(Y.set z.toNat ⟨x.bG,x.cZ,x.c1,x.eJ,true⟩)⟩:J bS)) (⟨y.bG,y.cZ,y.c1,false,y.bY⟩) rfl rfl rfl rfl cF bR bD bR aW aB aB) ?_;rintro v E G ⟨rfl,rfl⟩;refine aI jV rfl ?_;apply(l6);refine jH (j5 N ((⟨p.o,((Y.set z.toNat ⟨x.bG,x.cZ,x.c1,x.eJ,true⟩).set x.bG.toNat ⟨y.bG,y.cZ,y.c1,false,y.bY⟩)⟩:J bS)) (⟨y.bG,t,y.c1,false,y.bY⟩) rfl rfl rfl rfl cF bR bD bR aW aB aB) ?_;rintro v E G ⟨rfl,rfl⟩;refine aI jV rfl ?_;apply(l6);refine jH (j5 N ((⟨p.o,(((Y.set z.toNat ⟨x.bG,x.cZ,x.c1,x.eJ,true⟩).set x.bG.toNat ⟨y.bG,y.cZ,y.c1,false,y.bY⟩).set x.bG.toNat ⟨y.bG,t,y.c1,false,y.bY⟩)⟩:J bS)) (⟨y.bG,t,0,false,y.bY⟩) rfl rfl rfl rfl cF bR bD bR aW aB aB) ?_;rintro v E G ⟨rfl,rfl⟩;refine aI jV rfl ?_;apply(l6);refine jH (j5 N ((⟨p.o,((((Y.set z.toNat ⟨x.bG,x.cZ,x.c1,x.eJ,true⟩).set x.bG.toNat ⟨y.bG,y.cZ,y.c1,false,y.bY⟩).set x.bG.toNat ⟨y.bG,t,y.c1,false,y.bY⟩).set x.bG.toNat ⟨y.bG,t,0,false,y.bY⟩)⟩:J bS)) (⟨y.bG,t,0,false,false⟩) rfl rfl rfl rfl cF bR bD bR aW aB aB) ?_;rintro v E G ⟨rfl,rfl⟩;refine eZ (a8 (c2 ?_));apply gU∘lX;refine aI jV rfl ?_;apply(l6);refine aI (tK N ((⟨p.o,(((((Y.set z.toNat ⟨x.bG,x.cZ,x.c1,x.eJ,true⟩).set x.bG.toNat ⟨y.bG,y.cZ,y.c1,false,y.bY⟩).set x.bG.toNat ⟨y.bG,t,y.c1,false,y.bY⟩).set x.bG.toNat ⟨y.bG,t,0,false,y.bY⟩).set x.bG.toNat ⟨y.bG,t,0,false,false⟩)⟩:J bS)) rfl rfl rfl cF bR bD bR aB) rfl ?_;apply(GU);rintro v E G ⟨b8E,rfl,rfl,a8t⟩;replace a8t:=a8t.symm;subst a8t;apply(aHV);rintro v E G ⟨b6s,rfl,b4p,rfl,rfl⟩;apply kA∘RD∘Y4;exact hP ⟨(z-1,(⟨aNS,zG.l++[z]⟩,⟨b6s,op.l++[x.bG]⟩),(((((Y.set z.toNat ⟨x.bG,x.cZ,x.c1,x.eJ,true⟩).set x.bG.toNat ⟨y.bG,y.cZ,y.c1,false,y.bY⟩).set x.bG.toNat ⟨y.bG,t,y.c1,false,y.bY⟩).set x.bG.toNat ⟨y.bG,t,0,false,y.bY⟩).set x.bG.toNat ⟨y.bG,t,0,false,false⟩)),by dsimp only;omega,by
    dsimp only;(have b1C:p7 (Y.set z.toNat ⟨x.bG,x.cZ,x.c1,x.eJ,true⟩) x.bG t=(((((Y.set z.toNat ⟨x.bG,x.cZ,x.c1,x.eJ,true⟩).set x.bG.toNat ⟨y.bG,y.cZ,y.c1,false,y.bY⟩).set x.bG.toNat ⟨y.bG,t,y.c1,false,y.bY⟩).set x.bG.toNat ⟨y.bG,t,0,false,y.bY⟩).set x.bG.toNat ⟨y.bG,t,0,false,false⟩):=by rw[p7,<-aS,if_pos dY,xQ,xQ,xQ];rfl);rw[oM,if_pos ⟨hD,by rw[<-aS];exact dY⟩,<-b1C,RF D],aMT,b4p⟩ gW bV bA eN hO
   exact aPj
  replace hD:=bB hD;iterate 9 apply(iU)
  apply(l2);refine MX rfl ?_;exact aPj
 exact aRY
def aXq(f:hJ)(L:aR)(R:aO)(aF:k0 f R):
 aM prog 138 [f.val].toArray L R (λv E G=>v=.int .i64 (UT f.aZ.l f.a2.l f.cB)/\L=E/\R=G):=by
 have jB:=aF.Y;refine b6 42 call138 func138 rfl rfl rfl ?_;apply(dB);intro gL;apply mO∘hH∘PL;refine cD rfl (Kx f _ _ aF) ?_;apply(rR);refine U ?_ ?_<;>intro aQ;·apply(kM);refine cX L R ?_;exact⟨by rw[UT,if_pos aQ],rfl,rfl⟩
 have bH:=xZ (Decidable.not_not.1 aQ);have GL:=bH.A7;have Al:=bH.bX;apply(yZ);refine dS [(1,.pointer _),(3,.int _ _),(4,.int _ _)] bV λfK=>?_;refine gY ([3,4,5]++cN 9 32) (λg:{k:Nat//k<=f.aZ.l.length}=>[(4,.int .i64 ((g.1:Nat):Int)),(3,.int .i64 (Dl f.aZ.l f.cB g.1))]) (λg=>f.aZ.l.length-g.1) (⟨0,by omega⟩) ?_;rintro⟨k,aG⟩ cH;try dsimp only
 apply(q9);refine U ?_ ?_<;>intro bL;·
  have b7:=bJ (l:=f.aZ.l) (k:=k) default D;have W0:=bH.cZ k D;have nX:=aJY (bX:=f.cB) b7;obtain⟨x,K⟩:∃x,x=f.aZ.l.getD k default:=⟨_,rfl⟩;rw[<-K]at b7 W0 nX;have W5:VJ x=true↔((x.eJ=false/\x.c1≠-1)/\x.bY=false):=by rw[VJ];simp
  apply(FY);refine aI pL rfl ?_;apply(SO);intro gQ;apply z8∘JR;apply iR (Z:=[_,_,_]) (j:=3) (a9:=24) rfl rfl aB rfl aY rfl;·exact Cn
  intro h8;apply(dE);apply iR (Z:=[_,_,_]) (j:=8) (a9:=29) rfl rfl aB rfl aY rfl;·intro gH;replace gH:=bB gH;exact(fD) I0
  intro uY;apply(b9);refine U ?_ ?_<;>intro cC;·apply tR∘j0∘k3;refine aI KT rfl ?_;apply dM∘VO;exact hP ⟨k+1,by omega⟩ gW (by dsimp only;rw[nX,Eg,if_pos (W5.2 MG)];exact⟨rfl,rfl,trivial⟩) bA eN hO
  apply(mT);exact hP ⟨k+1,by omega⟩ gW (by dsimp only;rw[nX,Eg,if_neg (λh=>by have:=W5.1 h;simp_all)];exact⟨rfl,rfl,trivial⟩) bA eN hO
 exact aRw
end Go.Proofs.YtchfclmokpbldaaGreat
