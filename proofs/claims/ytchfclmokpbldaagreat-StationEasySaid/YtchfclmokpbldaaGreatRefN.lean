/-
  Merged texts. By an AI agent.
-/
import Derived.Test.YtchfclmokpbldaaGreatRefP
import Derived.Test.YtchfclmokpbldaaGreatCloneS
import Derived.Test.YtchfclmokpbldaaGreatStaG
import Derived.Test.YtchfclmokpbldaaGreatSeqS
import Derived.Test.YtchfclmokpbldaaGreatRefA
import Derived.Test.YtchfclmokpbldaaGreatRefC
import Derived.Test.YtchfclmokpbldaaGreatSiteS
import Derived.Test.YtchfclmokpbldaaGreatCutB
set_option linter.all false
set_option maxHeartbeats 4000000
set_option maxRecDepth 20000
variable{A B:Prop}
namespace Go.Proofs.YtchfclmokpbldaaGreat
open Go.Aw Go Go.Proofs.Tryz
section
attribute [local irreducible] cQ dF dV aM cP eC e5 e1 e2 e6 eX e4 J.L
def SA(h:A->B:=by exact m2 oS rfl rfl rfl rfl):=h
def R9(h:A->B:=by exact m2 mM rfl rfl rfl rfl):=h
def SB(h:A->B:=by exact bE zT rfl rfl rfl):=h
def UX(h:A->B:=by exact fP DT rfl rfl rfl rfl):=h
def Zp(h:A->B:=by exact m2 zS rfl rfl rfl rfl):=h
def Ze(h:A->B:=by exact aI mM rfl):=h
def aF0(h:A->B:=by exact aI q1 rfl):=h
def a5J(s:eA)(c:List b8)(aA:List bC)(r:jP)(f:hJ)(t:Int)(L:aR)(R:aO):oK:=λv E G=>
 ∃(q:jP) (k7 lJ m4:Option Addr) (r3 AK fV jK Ay Ld:Nat) (bX:Int) (eY:J b8) (wS:J bS) (oQ:J Int),v=.tuple #[q.val,.slice k7 r3 AK,.agg #[.slice lJ fV jK,.slice m4 Ay Ld,.int .i64 bX],.int .i64 (qL s c aA r f t)]/\(eY.ok 3 b8.cells/\wS.ok 5 bS.cells/\oQ.ok 1 a1)/\
  (qL s c aA r f t=0->q=x4 s c aA r f t/\Value.slice k7 r3 AK=eY.val/\Value.slice lJ fV jK=wS.val/\Value.slice m4 Ay Ld=oQ.val/\bX=f.cB/\eY.l=AE s c aA r f t/\wS.l=BR s c aA r f t/\oQ.l=f.a2.l)/\eY.L 71 b8.cells++(oQ.L 3 a1++(wS.L 76 bS.cells++L))=E/\R=G
def a5J.AM{s:eA}{c:List b8}{aA:List bC}{r:jP}{f:hJ}{t e:Int}{L:aR}{R:aO}{q:jP}{k7 lJ m4:Option Addr}{r3 AK fV jK Ay Ld:Nat}{bX:Int}(h:qL s c aA r f t=e)(W:e≠0):a5J s c aA r f t L R (.tuple #[q.val,.slice k7 r3 AK,.agg #[.slice lJ fV jK,.slice m4 Ay Ld,.int .i64 bX],.int .i64 e]) L R:=
 ⟨q,k7,lJ,m4,r3,AK,fV,jK,Ay,Ld,bX,.nil,.nil,.nil,by rw[h],⟨J.iJ,J.iJ,J.iJ⟩,λk=>by omega,by rw[mE,mE,mE];rfl,rfl⟩
def a00{s:eA}{c:List b8}{aA:List bC}{r:jP}{f:hJ}{t e:Int}(h:mP s c aA r f t=e)(W:e≠0):qL s c aA r f t=e:=by rw[qL,if_pos D,h]
def aYj(s:eA)(c:a4 b8)(aA:a4 bC)(r:jP)(f:hJ)(t:Int)(L:aR)(R:aO)(h:FJ s c aA R)(aF:k0 f R)(gA:∀x∈aA.l,-4611686018427387904<=x.bW)(M:0<=r.time)(b1:c.l.length<=1000):
 aM prog 223 [s.val,c.val,aA.val,r.val,f.val,.int .i64 t].toArray L R (a5J s c.l aA.l r f t L R):=by
 have AN:=h.aV;have jB:=aF.Y;have o4:=aF.cI;refine b6 132 call223 func223 rfl rfl rfl ?_;apply(dB);intro i1;apply(iV);intro jR;apply(iV);intro i0;apply(dZ);intro n3;apply kA∘dZ;intro rU;apply hH∘aF0∘P0;refine cD rfl (a6x s c aA t _ _ h) ?_;apply(j7);refine U ?_ ?_<;>intro aQ;·
  refine bK ?_;refine iS N [32,33,34] [0,1,2,3] [4,5,6,7] ([bN.mk rU _ _,bN.mk n3 _ _,bN.mk i0 _ _,bN.mk jR _ _]) _ dO bI bA KR ?_;apply UX∘SA∘R9∘Zp∘oX∘SB∘v0;refine g5 (a8 (iY (gB ?_)));refine bQ L R KW ?_;have W:mP s c.l aA.l r f t=sT s c.l.length aA.l.length t:=by rw[mP,if_pos aQ]
  exact .AM (q:=r) (a00 W aQ) aQ
 obtain⟨bH,j1,fH⟩:=Dj (s:=s) (T2:=c.l.length) (KE:=aA.l.length) (t:=t) D;apply D5∘sG;apply cA (Z:=[_,_,_]) (j:=3) (a9:=38) rfl rfl aB rfl aY rfl;·exact Cn
 intro h8;apply(b9);refine U ?_ ?_<;>intro bL;·
  refine bK ?_;refine iS N [44,45] [0,1,2] [3,4,5,6] ([bN.mk rU _ _,bN.mk n3 _ _,bN.mk i0 _ _,bN.mk jR _ _]) _ dO bI bA KR ?_;apply UX∘SA∘R9∘oX∘SB∘v0;refine g5 (a8 (iY (gB ?_)));refine bQ L R KW ?_;have W:mP s c.l aA.l r f t=10:=by rw[mP,if_neg aQ,if_pos D]
  exact a3e
 apply(hN);refine aI DT rfl ?_;apply(cE);refine cD rfl (aEJ r t _ _ M fH) ?_;apply(nK);refine U ?_ ?_<;>intro cC;·
  refine bK ?_;refine iS N [51,52] [0,1,2] [3,4,5,6] ([bN.mk rU _ _,bN.mk n3 _ _,bN.mk i0 _ _,bN.mk jR _ _]) _ dO bI bA KR ?_;apply UX∘SA∘R9∘oX∘SB∘v0;refine g5 (a8 (iY (gB ?_)));refine bQ L R KW ?_;have W:mP s c.l aA.l r f t=8:=by rw[mP,if_neg aQ,if_neg D,if_pos MG]
  exact a3e
 have i3:¬NL r t:=by simpa using cC
 apply hN∘aF0∘gU∘gU∘gK;refine cD rfl (a6w s c aA r.dN t _ _ h bH j1 fH gA) ?_;apply(j7);refine U ?_ ?_<;>intro dX;·
  refine bK ?_;refine iS N [63,64,65] [0,1,2,3] [4,5,6,7] ([bN.mk rU _ _,bN.mk n3 _ _,bN.mk i0 _ _,bN.mk jR _ _]) _ dO bI bA KR ?_;apply UX∘SA∘R9∘Zp∘oX∘SB∘v0;refine g5 (a8 (iY (gB ?_)));refine bQ L R KW ?_;have W:mP s c.l aA.l r f t=qW s c.l aA.l r.dN t:=by rw[mP,if_neg aQ,if_neg D,if_neg i3,if_pos dX]
  exact .AM (q:=r) (a00 W dX) dX
 apply hN∘Ze;refine cD rfl (Kx f _ _ aF) ?_;apply(j7);refine U ?_ ?_<;>intro dY;·
  refine bK ?_;refine iS N [71,72,73] [0,1,2,3] [4,5,6,7] ([bN.mk rU _ _,bN.mk n3 _ _,bN.mk i0 _ _,bN.mk jR _ _]) _ dO bI bA KR ?_;apply UX∘SA∘R9∘Zp∘oX∘SB∘v0;refine g5 (a8 (iY (gB ?_)));refine bQ L R KW ?_;have W:mP s c.l aA.l r f t=jS f.aZ.l f.a2.l f.cB:=by rw[mP,if_neg aQ,if_neg D,if_neg i3,if_neg dX,if_pos dY]
  exact .AM (q:=r) (a00 W dY) dY
 apply hN∘kD∘pR∘rR;refine U ?_ ?_<;>intro h1;·
  refine bK ?_;refine iS N [81,82] [0,1,2] [3,4,5,6] ([bN.mk rU _ _,bN.mk n3 _ _,bN.mk i0 _ _,bN.mk jR _ _]) _ dO bI bA KR ?_;apply UX∘SA∘R9∘oX∘SB∘v0;refine g5 (a8 (iY (gB ?_)));refine bQ L R KW ?_;have W:mP s c.l aA.l r f t=17:=by rw[mP,if_neg aQ,if_neg D,if_neg i3,if_neg dX,if_neg dY,if_pos D]
  exact a3e
 have aM7:=Yd (s:=s) (c:=c.l) (aA:=aA.l) (k:=r.dN) (t:=t) D;have i2:jS f.aZ.l f.a2.l f.cB=0:=Decidable.not_not.1 dY;have b3B:=xZ i2;have A0:=b3B.X5 r.dN.toNat D;have qG:=bJ (l:=f.a2.l) (k:=r.dN.toNat) 0 D;have pX:=bJ (l:=c.l) (k:=r.dN.toNat) default D;obtain⟨x,K⟩:∃x,x=c.l.getD r.dN.toNat default:=⟨_,rfl⟩;rw[<-K]at pX;obtain⟨a,bT⟩:∃a,a=v5 f r.dN:=⟨_,rfl⟩;have a9f:PG f.aZ.l (vU f.aZ.l f.a2.l f.cB (f.a2.l.getD r.dN.toNat 0))=a:=by rw[bT,v5]
 apply e0∘j0;refine aI aDk rfl ?_;apply VU∘Ze∘cE;refine cD rfl (aIv f (f.a2.l.getD r.dN.toNat 0) _ _ aF i2 D) ?_;apply(P1);rw[a9f];apply BL∘Ze∘gK;refine cD rfl (aUR c f r.dN a _ _ AN aF i2 D) ?_;apply(b9);refine U ?_ ?_<;>intro h2;·
  refine bK ?_;refine iS N [99,100] [0,1,2] [3,4,5,6] ([bN.mk rU _ _,bN.mk n3 _ _,bN.mk i0 _ _,bN.mk jR _ _]) _ dO bI bA KR ?_;apply UX∘SA∘R9∘oX∘SB∘v0;refine g5 (a8 (iY (gB ?_)));refine bQ L R KW ?_;have W:mP s c.l aA.l r f t=20:=by rw[mP,if_neg aQ,if_neg D,if_neg i3,if_neg dX,if_neg dY,if_neg D,if_pos (by rw[<-bT];simpa using h2)]
  exact a3e
 have o2:mP s c.l aA.l r f t=0:=by rw[mP,if_neg aQ,if_neg D,if_neg i3,if_neg dX,if_neg dY,if_neg D,if_neg (by rw[<-bT];simpa using h2)]
 have W:(qL s c.l aA.l r f t)=y3 f.aZ.l f.a2.l f.cB a t:=by rw[qL,if_neg D,<-bT]
 apply e0∘Ze∘lD;refine dT rfl (aWj f a t _ _ aF) rfl ?_;rintro v E G ⟨p,q,bX,rfl,⟨iF,gR⟩,kK,rfl,rfl⟩;refine aI iL rfl ?_;apply(CS);intro y4;apply jZ∘PT;refine U ?_ ?_<;>intro n8;·refine bK ?_;refine iS N [111,112,113] [0,1,2,3] [4,5,6,7] ([bN.mk y4 _ _,bN.mk rU _ _,bN.mk n3 _ _,bN.mk i0 _ _,bN.mk jR _ _]) _ dO bI bA KR ?_;apply UX∘SA∘R9∘Zp∘oX∘SB∘v0;refine g5 (a8 (iY (gB ?_)));refine bQ L R KW ?_;exact .AM (q:=r) W n8
 have mQ:y3 f.aZ.l f.a2.l f.cB a t=0:=by omega
 obtain⟨eI,fT,rfl⟩:=kK mQ;have Ll:¬(qL s c.l aA.l r f t)≠0:=by omega
 have a2m:M3 f r↔a=f.a2.l.getD r.dN.toNat 0:=by rw[M3,<-bT]
 apply(D9);refine hT aQy rfl ?_;rintro v E G ⟨Q5,rfl,aMM,rfl,rfl⟩;apply v1∘lD∘rR;refine U ?_ ?_<;>intro EM;·apply HO∘vZ∘j2;refine iS N [122,123] [0,1,2] [3,4,5,6] ([bN.mk y4 _ _,bN.mk rU _ _,bN.mk n3 _ _,bN.mk i0 _ _,bN.mk jR _ _]) _ dO bI bA KR ?_;apply UX∘SA∘R9∘oX∘SB∘v0;refine g5 (a8 (iY (gB ?_)));refine bQ ((⟨Q5,c.l⟩:J b8).L 71 b8.cells++(q.L 3 a1++(p.L 76 bS.cells++L))) R KW ?_;exact⟨⟨r.dN,r.first,r.Hq,r.step,t⟩,Q5.pS,p.o.pS,q.o.pS,c.l.length,Q5.cap,p.l.length,p.o.cap,q.l.length,q.o.cap,f.cB,⟨Q5,c.l⟩,p,q,by rw[W,mQ];rfl,⟨aMM,iF,gR⟩,λ_=>⟨by rw[x4,if_neg Ll,if_neg (by rw[a2m];omega)],rfl,rfl,rfl,rfl,by rw[AE,if_neg Ll,if_neg (by rw[a2m];omega)],by rw[BR,if_neg Ll,eI,bT],fT⟩,rfl,rfl⟩
 apply e0∘yY;refine aI (jA N ((⟨Q5,c.l⟩:J b8)) _ rfl rfl rfl rfl bR (i:=r.dN.toNat) dA jC) rfl ?_;apply(l6);refine jH (j5 N ((⟨Q5,c.l⟩:J b8)) (⟨false,x.clear,x.i4⟩) rfl rfl rfl rfl cF bR bD bR aW aB aB) ?_;rintro v E G ⟨rfl,rfl⟩;apply(j2);have aAu:=J.qX (f:=b8.cells) (aN:=3) (p:=⟨Q5,c.l⟩) (i:=r.dN.toNat) (x:=⟨false,x.clear,x.i4⟩) bD aMM;refine iS N [130,131] [1,2,0] [3,4,5,6] ([bN.mk y4 _ _,bN.mk rU _ _,bN.mk n3 _ _,bN.mk i0 _ _,bN.mk jR _ _]) _ dO bI bA KR ?_;apply SA∘R9;refine rQ rfl (aDv _ _) rfl rfl ?_;rintro v E G ⟨rfl,rfl,rfl⟩;refine⟨bA,iQ,?_⟩;apply oX∘SB∘v0;refine g5 (a8 (iY ?_));refine bQ ((⟨Q5,c.l.set r.dN.toNat ⟨false,x.clear,x.i4⟩⟩:J b8).L 71 b8.cells++(q.L 3 a1++(p.L 76 bS.cells++L))) R KW ?_;exact⟨xK,Q5.pS,p.o.pS,q.o.pS,c.l.length,Q5.cap,p.l.length,p.o.cap,q.l.length,q.o.cap,f.cB,⟨Q5,c.l.set r.dN.toNat ⟨false,x.clear,x.i4⟩⟩,p,q,by rw[W,mQ];rfl,⟨aAu,iF,gR⟩,λ_=>⟨by rw[x4,if_neg Ll,if_pos (by rw[a2m];omega)],by simp only[J.val,q0],rfl,rfl,rfl,by rw[AE,if_neg Ll,if_pos (by rw[a2m];omega),<-K],by rw[BR,if_neg Ll,eI,bT],fT⟩,rfl,rfl⟩
end
def aUg{s:gP}{m:eE}{t:Int}(a3:v2 m):-1125899906842624<=(v6 s m t).bW:=by
 rw[v2]at a3;rw[v6];split;·show(-1125899906842624:Int)<=1125899906842624;decide
 rename_i h;have a5:=(a1k h).2;split;·exact a3.2.2.1
 split;·dsimp only;omega
 ·rw[a04];dsimp only;omega
def YA(l:List bC):Prop:=∀k:Nat,-1125899906842624<=(l.getD k default).bW
def YA.set{l:List bC}(h:YA l)(k:Nat){x:bC}(K:-1125899906842624<=x.bW):YA (l.set k x):=λj=>by
 rw[m8,IW]
 split
 ·split
  ·exact K
  ·show(-1125899906842624:Int)<=0;decide
 ·have:=h j
  rwa[m8]at this
def aU7{n:Nat}{t:Int}{l:List gP}{hZ:PH}{x:eE}(h:YA hZ.dD)(K:v2 x):YA (E8 n 3 kH t l hZ x).dD:=by
 rw[E8];split;·exact h
 split;·refine h.set _ ?_;rw[Kb,yM];have O:=h (l.getD x.k5.toNat default).target.toNat;have X:=aUg (s:=l.getD x.k5.toNat default) (t:=t) K;dsimp only;omega
 ·exact h.set _ (by show(-1125899906842624:Int)<=1125899906842624;decide)
def aIc{n:Nat}{t:Int}{l:List gP}: ∀(m:List eE) {hZ:PH},(∀x∈m,v2 x)->YA hZ.dD->YA (m.foldl (E8 n 3 kH t l) hZ).dD
 |[],_,_,h=>h
 |x::m,_,a3,h=>aIc m (λy aS=>a3 y (.tail _ aS)) (aU7 h (a3 x (.head _)))
def a6N{g:hL}{p:bZ}(h:Inv g p):∀x∈e9 g p,-4611686018427387904<=x.bW:=λx K=>by
 have O:YA (e9 g p):=by
  rw[e9,HL,M2,NM]
  refine aIc _ (λy aS=>h.IK y (Wf aS)) ?_
  exact λk=>(aVo h.b0 (a69 _ _) h.xA k).2.1
 obtain⟨j,a6,rfl⟩:=Hy K
 have:=O j
 rw[m8,DN a6]at this
 have e:(some (e9 g p)[j]).getD default=(e9 g p)[j]:=rfl
 rw[e]at this
 omega
end Go.Proofs.YtchfclmokpbldaaGreat
namespace Go.Proofs.YtchfclmokpbldaaGreat
open Go.Aw Go Go.Proofs.Tryz
set_option maxRecDepth 20000
attribute [local irreducible] cQ dF dV aM cP eC e5 e1 e2 e6 eX e4 J.L
def a47(h:B:=by exact⟨.nil,.nil,by rw[W];rfl,⟨J.iJ,J.iJ⟩,by rw[o1,if_pos D],by rw[x6,if_pos D],by rw[mE,mE];rfl,rfl⟩):=h
def a5z(h:A->B:=by exact aI aSk rfl):=h
def aGU(h:A->B:=by exact aI (jA N ((⟨wF,cs.set k ⟨h7.off,-1,h7.i4⟩⟩:J b8)) _ rfl rfl ((show _=Value.slice _ _ _ from rfl).trans (by simp only[J.val,q0,tX])) rfl bR (i:=k) dA jC) rfl):=h
def aZN(s:eA)(u:a4 Int)(c:a4 b8)(t:Int)(L:aR)(R:aO)(aH:zY s R)(cY:aL (dU u) R)(cG:aL (sE c) R):
 aM prog 264 [s.val,u.val,c.val,.int .i64 t].toArray L R
  (λz E G=>∃(p:J b8) (q:J Int),z=.tuple #[p.val,q.val,.int .i64 (pU s u.l c.l t)]/\(p.ok 3 b8.cells/\q.ok 1 a1)/\p.l=o1 s u.l c.l t/\q.l=x6 s u.l c.l t/\q.L 3 a1++(p.L 71 b8.cells++L)=E/\R=G):=by
 have o4:=aH.a2;refine b6 95 call264 func264 rfl rfl rfl ?_;apply(dB);intro eD;apply wI∘hH;refine aI q1 rfl ?_;refine cD rfl (a5c s _ _ aH) ?_;apply(j7);refine U ?_ ?_<;>intro aQ;·
  apply HO∘JS;refine bQ L R E3 ?_;have W:pU s u.l c.l t=nO s:=by rw[pU,if_pos aQ]
  exact a47
 have xH:=JT (s:=s) D;have m6:=xH.len;apply VR∘kD∘p9;apply cA (Z:=[_,_,_,_,_,_]) (j:=6) (a9:=27) rfl rfl aB rfl aY rfl;·exact a3Z
 intro IJ;apply(b9);refine U ?_ ?_<;>intro bL;·
  apply dC∘JS;refine bQ L R E3 ?_;have W:pU s u.l c.l t=11:=by rw[pU,if_neg D,if_pos D]
  exact a47
 apply(LC);apply cA (Z:=[_,_]) (j:=2) (a9:=37) rfl rfl aB rfl aY rfl;·exact G3
 intro mK;apply(b9);refine U ?_ ?_<;>intro cC;·
  apply dC∘JS;refine bQ L R E3 ?_;have W:pU s u.l c.l t=8:=by rw[pU,if_neg D,if_neg D,if_pos D]
  exact a47
 have W:pU s u.l c.l t=0:=by rw[pU,if_neg D,if_neg D,if_neg D]
 apply(D9);refine hT aQI rfl ?_;rintro v E G ⟨b6z,rfl,aMQ,rfl,rfl⟩;apply(BK);obtain⟨wF,a8o⟩:∃wF,wF=b6z:=⟨_,rfl⟩;rw[<-a8o]at aMQ|-;apply eB∘v1∘nP;refine dS [(1,.slice _ _ _),(3,.int _ _),(4,.pointer _),(12,.slice _ _ _),(13,.slice _ _ _),(14,.int _ _)] bV λfK=>?_;refine qK ([13,14,15]++cN 43 50) ((⟨λg=>[(14,.int .i64 ((g.1.1:Nat):Int)),(13,g.1.2.2.val)],λg=>g.1.2.2.L 3 a1++((⟨wF,g.1.2.1⟩:J b8).L 71 b8.cells++(⟨eD,s.cells,38⟩::L)),λ_=>R,λg=>c.l.length-g.1.1⟩:fB {g:Nat×List b8×J Int//g.1<=c.l.length/\K9 c.l (H3 s u.l c.l t) g.1 g.2.1/\g.2.2.ok 1 a1/\g.2.2.l=yU s u.l c.l g.1})) (⟨(0,c.l,J.nil),by dsimp only;omega,.zero,J.iJ,rfl⟩) bV X2 eN ?_;rintro⟨⟨k,cs,q⟩,aG,qC,gR,fT⟩ cH;try dsimp only
 dsimp only at aG qC gR fT;have tX:=qC.len;have x8:(⟨wF,cs⟩:J b8).ok 3 b8.cells:=J.o6 bD aMQ tX;have sO:q.l.length<=k:=by rw[fT];exact a5r k
 apply(uM);refine U ?_ ?_<;>intro dX;·
  have qG:=bJ (l:=s.a2.l) (k:=k) default D;have Fq:=bJ (l:=c.l) (k:=k) default D;have qD:=qC.pZ k (iK _);rw[Fq]at qD;have TC:=λ(x:b8)=>qC.next (x:=x) D;have a12:=qC.EX (i:=k);have Ae:=aJQ (s:=s) (v:=u.l) (c:=c.l) (k:=k);obtain⟨z,eW⟩:∃z,z=s.a2.l.getD k default:=⟨_,rfl⟩;obtain⟨h7,Fr⟩:∃h7,h7=c.l.getD k default:=⟨_,rfl⟩;obtain⟨R3,IC⟩:∃R3,R3=tL z.jN.l u.l:=⟨_,rfl⟩;have N2:H3 s u.l c.l t k=R0 R3 h7 t:=by rw[H3,IC,eW,Fr]
  rw[<-eW]at qG;rw[<-Fr]at qD Fq;rw[<-eW,<-Fr,<-IC]at Ae;rw[N2]at TC;rw[N2,Fq]at a12;apply(FY);refine aI pL rfl ?_;apply sH∘gU;refine cD rfl (aGW z.jN u _ _ (aL.jN o4 qG) cY) ?_;rw[<-IC];apply Y3∘nJ;refine U ?_ ?_<;>intro dY;·
   apply tD∘h9∘a5z∘l6;refine aI aRk rfl ?_;apply(nJ);refine U ?_ ?_<;>intro h1;·apply wJ∘cE∘a5z∘l6;refine jH aR2 ?_;rintro v E G ⟨rfl,rfl⟩;refine eZ (a8 (mD (mF (mB (a8 (c2 ?_))))));exact(M8) aRS
   refine eP (a8 (mD (mF (mB (a8 (c2 ?_))))));exact(M8) aQr
  apply NC∘a5z∘l6;refine jH aRX ?_;rintro v E G ⟨rfl,rfl⟩;apply(j2);have a9t:=J.qX (f:=b8.cells) (aN:=3) (p:=(⟨wF,cs⟩:J b8)) (i:=k) (x:=⟨h7.off,-1,h7.i4⟩) bD x8;have a9s:(cs.set k ⟨h7.off,-1,h7.i4⟩)[k]?=some ⟨h7.off,-1,h7.i4⟩:=tJ D;apply wJ∘aGU∘l6;refine aI aR8 rfl ?_;apply(nK);refine U ?_ ?_<;>intro h2;·have b25:=J.qX (f:=b8.cells) (aN:=3) (p:=(⟨wF,cs.set k ⟨h7.off,-1,h7.i4⟩⟩:J b8)) (i:=k) (x:=⟨true,-1,h7.i4⟩) bD a9t;have b22:((cs.set k ⟨h7.off,-1,h7.i4⟩).set k ⟨true,-1,h7.i4⟩)[k]?=some ⟨true,-1,h7.i4⟩:=tJ Xd;apply SN∘h9∘cE∘aGU∘l6;refine jH aRA ?_;rintro v E G ⟨rfl,rfl⟩;refine aI (jA N ((⟨wF,(cs.set k ⟨h7.off,-1,h7.i4⟩).set k ⟨true,-1,h7.i4⟩⟩:J b8)) _ rfl rfl ((show _=Value.slice _ _ _ from rfl).trans (by simp only[J.val,q0,tX])) rfl bR (i:=k) dA jC) rfl ?_;apply(l6);refine jH aQ4 ?_;rintro v E G ⟨rfl,rfl⟩;refine eZ (a8 (c2 ?_));apply(SU);rintro v E G ⟨b8T,rfl,rfl,a80⟩;replace a80:=a80.symm;subst a80;refine hT aSQ rfl ?_;rintro v E G ⟨a2O,rfl,b4K,rfl,rfl⟩;apply(JQ);exact eO ⟨(k+1,((cs.set k ⟨h7.off,-1,h7.i4⟩).set k ⟨true,-1,h7.i4⟩).set k ⟨true,-1,R3⟩,(⟨a2O,_⟩:J Int)),by dsimp only;omega,by dsimp only;rw[xQ,xQ];exact TC _ (by rw[R0,if_neg dY,if_neg Oh]),b4K,by dsimp only;rw[Ae,if_pos ⟨dY,by simpa using h2⟩,fT]⟩
  exact(mT) aRB
 exact aR4
end Go.Proofs.YtchfclmokpbldaaGreat
namespace Go.Proofs.YtchfclmokpbldaaGreat
open Go.Aw Go Go.Proofs.Tryz
def Rh(h:A->B:=by exact aI aDi rfl):=h
def Ym(h:A->B:=by exact aI pL rfl):=h
def a4u(h:A->B:=by exact bE oS rfl rfl rfl):=h
def aF9(h:A->B:=by exact hT (pO (f:=a1) (p:=q) (a:=n) N rfl rfl rfl rfl (gR) cF p2 rfl qI) rfl):=h
def aXi{b:Nat}{x y:bC}{T:TypeId}:(⟨.own b 2 [],[x,y]⟩:J bC).L T bC.cells=[(⟨b,[.int .i64 x.bU,.int .i64 x.bW,.int .i64 y.bU,.int .i64 y.bW],T⟩:bN)]:=rfl
set_option maxRecDepth 20000
attribute [local irreducible] cQ dF dV aM cP eC e5 e1 e2 e6 eX e4 J.L
def aXu(x z:bC)(p:a4 bC)(L:aR)(R:aO)(aP:aL (sU p) R)(W:p.l=[x,z]):
 aM prog 211 [p.val].toArray L R (λv E G=>v=.tuple #[(JA x z).val,.bool (decide ((yM x z).bU<=(yM x z).bW))]/\L=E/\R=G):=by
 have eI:p.l.length=2:=by rw[W];rfl
 have gM:p.l[0]?=some x:=by rw[W];rfl
 refine b6 44 call211 func211 rfl rfl rfl ?_;apply dC∘dZ;intro eH;apply F1∘pR∘nJ;refine U ?_ ?_<;>intro aQ;·apply(dC);refine cD rfl G5 ?_;apply jZ∘nG∘A3;refine bQ L R a3M ?_;exact absurd aQ D
 apply D9∘Bk∘LI;intro eD;apply rT∘nP;refine dS [(0,.slice _ _ _),(2,.pointer _),(4,.pointer _),(5,.int _ _)] bV λfK=>?_;have AS:=aWz gM;refine qK ([5]++cN 13 24) ((⟨λg=>[(5,.int .i64 ((g.1:Nat):Int))],λg=>⟨eD,(PA p.l x g.1).cells,90⟩::⟨eH,[.int .i64 0,.int .i64 0],90⟩::L,λ_=>R,λg=>p.l.length-g.1⟩:fB {g:Nat//1<=g/\g<=p.l.length})) (⟨1,by omega,by omega⟩) bV (by dsimp only;rw[AS];exact rH _) eN ?_;rintro⟨k,hE,aG⟩ cH;try dsimp only
 apply(uM);refine U ?_ ?_<;>intro bL;·have O:=bJ (l:=p.l) (k:=k) default D;have J7:=a58 (z:=x) O;refine eP (a8 (bK (fR ?_)));refine iS N [29,30,31,32,33,34] [0,1,2,3,4,5,6,7,8,9,10,11,12,13,14,15,16] [17,18,19] (_) _ dO bI bA Ch ?_;apply mH∘EA;refine fP pL rfl rfl rfl rfl ?_;apply CC∘tE;refine fP E1 rfl rfl rfl rfl ?_;apply(mH);refine m2 oS rfl rfl rfl rfl ?_;refine m2 zS rfl rfl rfl rfl ?_;refine m2 Wv rfl rfl rfl rfl ?_;refine m2 Ou rfl rfl rfl rfl ?_;refine m2 Cj rfl rfl rfl rfl ?_;refine m2 KT rfl rfl rfl rfl ?_;apply VS∘lA∘Be∘JN;exact hP ⟨k+1,by omega,by omega⟩ gW bV (by dsimp only;rw[J7];exact Cp _) eN hO
 obtain rfl:k=p.l.length:=by omega
 have Tw:PA p.l x p.l.length=yM x z:=by rw[eI,W];exact aEO
 rw[Tw];apply xN∘j0∘HS;refine U ?_ ?_<;>intro cC;·apply(dC);refine cD rfl G5 ?_;exact aTp
 exact aSL
def b0x{A:aR}{R:aO}{b:Nat}{x y:bC}{T:TypeId}(kG:(⟨b,[.int .i64 x.bU,.int .i64 x.bW,.int .i64 y.bU,.int .i64 y.bW],T⟩:bN)∈A):
 aM prog 211 [.slice (some ⟨b,0,none⟩) 2 2].toArray A R (λv E G=>v=.tuple #[(JA x y).val,.bool (decide ((yM x y).bU<=(yM x y).bW))]/\A=E/\R=G):=
 Go.Proofs.YtchfclmokpbldaaGreat.aM.a2J (S:=[sU (⟨.own b 2 [],[x,y]⟩:J bC).V]) (λw Z b4 s aH=>by
  rw[List.mem_singleton.1 aH]
  exact VF (T:=T) b4 (λe W=>by
   rw[aXi]at W
   rw[List.mem_singleton.1 W];exact kG) aJ5 bD aW e8) (aXu x y (⟨.own b 2 [],[x,y]⟩:J bC).V [] _ mA rfl)
def aXb(l:a4 Int)(n:Int)(L:aR)(R:aO)(aX:aL (dU l) R)(b1:l.l.length<=100000):
 aM prog 213 [l.val,.int .i64 n].toArray L R (λv E G=>∃q:a4 Int,v=q.val/\aL (dU q) G/\q.l.length<=l.l.length+1/\(∀r∈R,aL r G)/\L=E):=by
 refine b6 49 call213 func213 rfl rfl rfl ?_;apply dC∘vD∘vD∘F1∘nP;refine dS [(0,.slice _ _ _),(1,.int _ _),(5,.slice _ _ _),(6,.bool _),(7,.int _ _)] bV λfK=>?_;refine qK (cN 4 38) ((⟨λg=>[(7,.int .i64 ((g.1.1:Nat):Int)),(5,g.1.2.1.val),(6,.bool g.1.2.2)],λg=>g.1.2.1.L 3 a1++L,λ_=>R,λg=>l.l.length-g.1.1⟩:fB {g:Nat×J Int×Bool//g.1<=l.l.length/\g.2.1.ok 1 a1/\g.2.1.l.length=g.1+(if g.2.2=true then 1 else 0)})) (⟨(0,J.nil,false),by dsimp only;omega,J.iJ,rfl⟩) bV X2 eN ?_;rintro⟨⟨k,q,a72⟩,aG,gR,sO⟩ cH;try dsimp only
 dsimp only at aG gR sO;have b93:q.l.length<=k+1:=by rw[sO];split<;>omega
 apply(uM);refine U ?_ ?_<;>intro aQ;·
  have b7:=bJ (l:=l.l) (k:=k) 0 D;refine eP (a8 (bK (fR (bK (bK (c2 ?_))))));apply h9∘Ym∘jG∘cE∘nJ;refine U ?_ ?_<;>intro bL;·apply dC∘gU∘kA∘Bg;refine bQ L R w2 ?_;exact⟨l,rfl,aX,by omega,λr M=>aT M,rfl⟩
  apply hN∘h9∘Ym∘jG∘Ds∘dE;apply iR (Z:=[_,_]) (j:=6) (a9:=27) rfl rfl aB rfl aY rfl;·intro kF;replace kF:=bB kF;exact(dE) I0
  intro IJ;apply(b9);refine F3 [5,6,31,32,33,34] ((⟨λg=>[(5,g.1.1.val),(6,.bool g.1.2)],λg=>g.1.1.L 3 a1++L,λ_=>R,λ_=>0⟩:fB {g:J Int×Bool//g.1.ok 1 a1/\g.1.l.length=k+(if g.2=true then 1 else 0)})) ?_ ?_;·
   skip
   refine U ?_ ?_<;>intro cC;·
    apply wJ∘GU;rintro v E G ⟨b8L,rfl,rfl,a8G⟩;replace a8G:=a8G.symm;subst a8G;apply(aF9);rintro v E G ⟨OK,rfl,aAd,rfl,rfl⟩;apply kA∘nG∘DI;exact Df ⟨(⟨OK,q.l++[n]⟩,true),aAd,by
    (have bM:a72=false:=by simpa using cC.2);dsimp only;rw[l9,sO,bM];simp⟩ gW bV bA eN
   refine eP ?_;exact wU ⟨(q,a72),gR,sO⟩
  rintro⟨⟨fW,d2⟩,IG,aAM⟩ cH;try dsimp only
  dsimp only at IG aAM;have b91:fW.l.length<=k+1:=by rw[aAM];split<;>omega
  apply BL∘h9∘Ym∘jG∘GU;rintro v E G ⟨aLs,rfl,rfl,S8⟩;replace S8:=S8.symm;subst S8;refine hT (pO (f:=a1) (p:=fW) (a:=l.l.getD k 0) N rfl rfl rfl rfl (IG) cF p2 rfl qI) rfl ?_;rintro v E G ⟨Q7,rfl,Lz,rfl,rfl⟩;apply(JQ);exact eO ⟨(k+1,⟨Q7,fW.l++[l.l.getD k 0]⟩,d2),by dsimp only;omega,Lz,by dsimp only;rw[l9,aAM,OW];split<;>omega⟩
 obtain rfl:k=l.l.length:=by omega
 have b5f:q.l.length<=l.l.length+1:=by rw[sO];split<;>omega
 apply xN∘SK;refine F3 [5,44,45,46,47] ((⟨λg=>[(5,g.1.val)],λg=>g.1.L 3 a1++L,λ_=>R,λ_=>0⟩:fB {g:J Int//g.ok 1 a1/\g.l.length<=l.l.length+1})) ?_ ?_;·
  skip
  refine U ?_ ?_<;>intro dX;·
   apply wJ∘GU;rintro v E G ⟨b1j,rfl,rfl,Fg⟩;replace Fg:=Fg.symm;subst Fg;apply(aF9);rintro v E G ⟨aBD,rfl,aAh,rfl,rfl⟩;apply kA∘DI;exact Df ⟨⟨aBD,q.l++[n]⟩,aAh,by
   (have bM:a72=false:=by simpa using dX);dsimp only;rw[l9,sO,bM];simp⟩ gW bV bA eN
  refine eP ?_;exact wU ⟨q,gR,b5f⟩
 rintro⟨jU,b5a,b5b⟩ cH;try dsimp only
 refine hB (T:=3) (f:=a1) (aN:=1) jU [] cF bD aW b5a e8 ?_;refine eM gD ?_;apply dC∘gU∘SH;refine bQ L (dU jU.V::R) w2 ?_;exact⟨jU.V,rfl,aT (.head _),b5b,λr M=>aT (.tail _ M),rfl⟩
def aWm(aA:a4 bC)(l:a4 gP)(m:a4 eE)(t:Int)(L:aR)(R:aO)(gA:aL (sU aA) R)(aX:aL (CI l) R)(a3:aL (gT m) R)
 (AP:aA.l.length<=1000) (j1:l.l.length<=1000) (QQ:m.l.length<=1000) (bH:∀x∈m.l,v2 x) (fH:0<=t/\t<=2147483648):
 aM prog 131 [aA.val,l.val,m.val,.int .i64 t].toArray L R
  (λw E G=>∃(p:J bC) (q:a4 Int),w=.tuple #[p.val,q.val]/\p.ok 2 bC.cells/\p.l=(M2 aA.l kH 3 l.l m.l t).dD/\p.L 90 bC.cells++L=E/\∀r∈R,aL r G):=by
 refine b6 116 call131 func131 rfl rfl rfl ?_;apply dC∘wI∘LF;refine hT aQt rfl ?_;rintro v E G ⟨OJ,rfl,Ua,rfl,rfl⟩;apply(BK);have b3z:(⟨OJ,aA.l⟩:J bC).l.length<=1000:=AP;apply eB∘pR∘GS;rintro v E G ⟨V6,rfl,rfl,Ez⟩;replace Ez:=Ez.symm;subst Ez;apply(BK);refine eM Ib ?_;apply eB∘HR;refine Qu 1 ?_;apply(NE);refine dS [(0,.slice _ _ _),(1,.slice _ _ _),(2,.slice _ _ _),(3,.int _ _),(10,.slice _ _ _),(11,.slice _ _ _),(12,.slice _ _ _),(13,.int _ _)] bV λfK=>?_;refine k2 (cN 12 6++cN 23 91) ((⟨λg=>[(13,.int .i64 ((g.1.1:Nat):Int)),(12,g.1.2.2.1.val)],λg=>(⟨.own V6 aA.l.length [],g.1.2.1.S6⟩:J Bool).L 4 jJ++((⟨OJ,g.1.2.1.dD⟩:J bC).L 90 bC.cells++L),λg=>g.1.2.2.2,λg=>m.l.length-g.1.1⟩:fB {g:Nat×PH×a4 Int×aO//g.1<=m.l.length/\g.2.1=NM aA.l kH 3 l.l m.l t g.1/\aL (dU g.2.2.1) g.2.2.2/\g.2.2.1.l.length<=g.1/\∀r∈R,aL r g.2.2.2})) (⟨(0,⟨aA.l,List.replicate aA.l.length false,List.replicate l.l.length false⟩,⟨none,0,[]⟩,_),by dsimp only;omega,rfl,aT (.head _),iK _,λr M=>aT (.tail _ M)⟩) ?_;rintro⟨⟨k,⟨pC,Z,B⟩,AJ,S⟩,rG,fO,ZX,a9l,eL⟩ cH;try dsimp only
 dsimp only at rG fO ZX a9l eL;obtain⟨k6,iX,OX⟩:=a6b (aA:=aA.l) (lost:=kH) (kind:=3) (l:=l.l) (m:=m.l) (t:=t) (k:=k);rw[<-fO]at k6 iX OX;dsimp only at k6 iX OX;have a9Q:(⟨OJ,pC⟩:J bC).ok 2 bC.cells:=J.o6 bD Ua k6;have b3U:(⟨.own V6 aA.l.length [],Z⟩:J Bool).ok 1 jJ:=by have:=ED (f:=jJ) (aN:=1) (b:=V6) (n:=aA.l.length) (x:=false) BP DP;exact J.o6 BP this (by simp;exact iX)
 have b9K:=aX.mono eL;have b9P:=a3.mono eL;apply(uM);refine U ?_ ?_<;>intro aQ;·
  have B6:=bJ (l:=m.l) (k:=k) default D;have Ha:=bH _ (hV B6);have oM:=aKh (aA:=aA.l) (lost:=kH) (kind:=3) (l:=l.l) (t:=t) B6;rw[<-fO]at oM;obtain⟨x,K⟩:∃x,x=m.l.getD k default:=⟨_,rfl⟩;rw[<-K]at B6 Ha oM;apply j9∘h9∘Ym∘sH∘SL;apply cA (Z:=[_,_,_,_]) (j:=2) (a9:=36) rfl rfl aB rfl aY rfl;·exact Xo
  intro mK;apply(dE);apply cA (Z:=[_,_,_,_,_,_]) (j:=8) (a9:=42) rfl rfl aB rfl aY rfl;·intro gH;replace gH:=bB gH;have wA:=bJ (l:=l.l) (k:=x.k5.toNat) default D;exact(h9∘Rh∘Ke) g4
  intro uY;apply(dE);apply cA (Z:=[_,_,_,_,_,_]) (j:=16) (a9:=50) rfl rfl aB rfl aY rfl;·intro yA;replace yA:=bB yA;have wA:=bJ (l:=l.l) (k:=x.k5.toNat) default (by(try simp[-List.getD_eq_getElem?_getD]at yA);omega);exact(h9∘Rh∘sH) DU
  intro a2H;apply(dE);apply cA (Z:=[_,_,_,_,_,_,_,_]) (j:=24) (a9:=58) rfl rfl aB rfl aY rfl;·intro N3;replace N3:=bB N3;have wA:=bJ (l:=l.l) (k:=x.k5.toNat) default (by(try simp[-List.getD_eq_getElem?_getD]at N3);omega);exact(h9∘Rh∘sH∘VQ) g4
  intro aBs;apply(dE);apply cA (Z:=[_,_,_,_,_,_,_,_]) (j:=34) (a9:=68) rfl rfl aB rfl aY rfl;·intro a2c;replace a2c:=bB a2c;have wA:=bJ (l:=l.l) (k:=x.k5.toNat) default (by(try simp[-List.getD_eq_getElem?_getD]at a2c);omega);have a8k:=bJ (l:=Z) (k:=(l.l.getD x.k5.toNat default).target.toNat) false (by(try simp[-List.getD_eq_getElem?_getD]at a2c);omega);apply P0∘Rh∘sH;refine aI (jA N ((⟨.own V6 aA.l.length [],Z⟩:J Bool)) _ rfl rfl ((show _=Value.slice _ _ _ from rfl).trans (w6 iX)) rfl bR (i:=(l.l.getD x.k5.toNat default).target.toNat) dA jC) rfl ?_;refine aI (tK N ((⟨.own V6 aA.l.length [],Z⟩:J Bool)) rfl rfl rfl cF bR bD bR aB) rfl ?_;exact g4
  intro bAu;apply(b9);refine U ?_ ?_<;>intro bL;·
   refine mD (mF (mB (a8 (c2 ?_))));apply(M8);exact hP ⟨(k+1,⟨pC,Z,B⟩,AJ,S),by dsimp only;omega,by rw[oM,E8,if_pos (λh=>by
   have O:=h.1.1;have X:=h.1.2;have aU:=h.2;dsimp only at aU;rw[aU]at bL;simp[-List.getD_eq_getElem?_getD]at bL;omega)],ZX,by dsimp only;omega,eL⟩ gW bV bA eN hO
  obtain⟨s,aH⟩:∃s,s=l.l.getD x.k5.toNat default:=⟨_,rfl⟩;rw[<-aH]at bL;have ES:(0<=x.k5/\x.k5<l.l.length)/\s.kind=3/\0<=s.target/\s.target<aA.l.length/\Z.getD s.target.toNat false=false:=by simp[-List.getD_eq_getElem?_getD]at bL;have:=bL.2;refine⟨by omega,by omega,by omega,by omega,by simpa using this⟩
  have wA:=bJ (l:=l.l) (k:=x.k5.toNat) default D;rw[<-aH]at wA;have b2g:=bJ (l:=pC) (k:=s.target.toNat) default D;have a8k:=bJ (l:=Z) (k:=s.target.toNat) false D;rw[E8,Kb,<-aH]at oM;dsimp only at oM;have QT:Qc aA.l.length 3 l.l x:=⟨ES.1,by rw[<-aH];exact ES.2.1,by rw[<-aH];exact ES.2.2.1,by rw[<-aH];exact ES.2.2.2.1⟩;rw[if_neg (λh=>h ⟨QT,ES.2.2.2.2⟩)]at oM;apply NC∘Rh∘sH∘x2;refine gZ N [0,1,2,3,4,5,6,7,8,9,10,11,12,13,14,15,16,17,18,19,20,21] (((⟨.own V6 aA.l.length [],Z⟩:J Bool).L 4 jJ++((⟨OJ,pC⟩:J bC).L 90 bC.cells++[]))) dO bI bA ?_;apply a4u∘hK;refine bE aSu rfl rfl rfl ?_;refine bE (a57 (row:=[_,_]) N ((⟨OJ,pC⟩:J bC)) rfl rfl rfl cF bR bD bR aB aB) rfl rfl rfl ?_;apply a4u∘hK;refine bE aDi rfl rfl rfl ?_;refine bE Ck rfl rfl rfl ?_;apply a4u∘JO∘Bj∘hK;refine lW rfl (aHZ s x t _ _ Ha fH) ?_;refine uN aCJ rfl rfl rfl ?_;rintro v E G ⟨b8V,rfl,rfl,a82⟩;replace a82:=a82.symm;subst a82;apply(gJ);refine lW rfl (b0x (x:=pC.getD s.target.toNat default) (y:=v6 s x t) (.head _)) ?_;refine bE iL rfl rfl rfl ?_;refine bE q2 rfl rfl rfl ?_;refine bE q2 rfl rfl rfl ?_;apply(qH);intro NT;apply(uC);refine bE (FB aY) rfl rfl rfl ?_;refine g5 (a8 (bK (c2 ?_)));apply h9∘nZ;refine aI aSu rfl ?_;refine jH (R2 N ((⟨OJ,pC⟩:J bC)) (JA (pC.getD s.target.toNat default) (v6 s x t)) rfl rfl rfl rfl cF bR bD bR (KO rfl) aB aB) ?_;rintro v E G ⟨rfl,rfl⟩;apply j8∘SK;refine U ?_ ?_<;>intro cC;·
   apply(SN);refine aI (jA N ((⟨.own V6 aA.l.length [],Z⟩:J Bool)) _ rfl rfl ((show _=Value.slice _ _ _ from rfl).trans (w6 iX)) rfl bR (i:=s.target.toNat) dA jC) rfl ?_;refine jH (j5 N ((⟨.own V6 aA.l.length [],Z⟩:J Bool)) (true) rfl rfl rfl rfl cF bR bD bR aW aB aB) ?_;rintro v E G ⟨rfl,rfl⟩;refine eZ (a8 (c2 ?_));apply(h9);refine dT rfl (aXb AJ x.k5 _ _ ZX D) rfl ?_;rintro v E G ⟨b1o,rfl,b2G,b9r,tA,rfl⟩;apply(JQ);exact hP ⟨(k+1,⟨pC.set s.target.toNat (JA (pC.getD s.target.toNat default) (v6 s x t)),Z.set s.target.toNat true,B.set x.k5.toNat true⟩,b1o,_),by dsimp only;omega,by
   (have i3:¬(yM (pC.getD s.target.toNat default) (v6 s x t)).bU<=(yM (pC.getD s.target.toNat default) (v6 s x t)).bW:=by simpa using cC);rw[oM,if_neg i3,JA,if_pos D],b2G,by dsimp only;omega,λr M=>(eL r M).mono tA⟩ gW bV bA eN hO
  apply(mT);exact hP ⟨(k+1,⟨pC.set s.target.toNat (JA (pC.getD s.target.toNat default) (v6 s x t)),Z,B⟩,AJ,S),by dsimp only;omega,by
  have i3:(yM (pC.getD s.target.toNat default) (v6 s x t)).bU<=(yM (pC.getD s.target.toNat default) (v6 s x t)).bW:=by simpa using cC
  rw[oM,if_pos i3,JA,if_neg D],ZX,by dsimp only;omega,eL⟩ gW bV bA eN hO
 obtain rfl:k=m.l.length:=by omega
 apply M9∘gU∘wI∘DH;refine bQ ((⟨OJ,pC⟩:J bC).L 90 bC.cells++L) S (yK rfl IZ IZ) ?_;exact⟨(⟨OJ,pC⟩:J bC),AJ,by rw[J.val,k6];try rfl,a9Q,by rw[M2,<-fO],rfl,eL⟩
end Go.Proofs.YtchfclmokpbldaaGreat
