--By an AI agent.
import Derived.Test.YtchfclmokpbldaaGreatSolveR
import Derived.Test.YtchfclmokpbldaaGreatFits
import Derived.Test.YtchfclmokpbldaaGreatFlows
set_option maxRecDepth 9999
set_option linter.all false
set_option maxHeartbeats 0
variable{A B:Prop}
namespace Go.Proofs.YtchfclmokpbldaaGreat
open Go.Aw Go Go.Proofs.Tryz
section
attribute [local irreducible] cH c6 dP aI cJ eD e9 e0 e1 e5 eS e8 J.L
def aQi(h:A->B:=by exact(aG Xy ·)):=h
def aMN(h:A->B:=by exact(aG R8 ·)):=h
def aJm(h:B:=by exact⟨J.nil,sQ n.mO::rI n.kW::(S++fP),by rw[HL];rfl,J.g6,by rw[HL],by rw[lT,m0],by rw[D8];simp⟩):=h
def aMt(h:A->B:=by exact(aG (h4 O ((⟨NA,m⟩:J Int)) _ rfl rfl ((show _=Value.slice _ _ _ from rfl).trans a2T) rfl bC (i:=i) cW iC) ·)):=h
def b8h(a:bR)(s:cE)(ps:a0 Int)(A:List Bool)(L:aP)(R:aJ)(hm:nT a R)(hs:o2 s R)(nG:aH (cZ ps) R)(gI:hO a=0->lS a.Y A):
 aI prog 277 [a.val,s.val,ps.val].toArray L R (λv E G=>∃S:aJ,v=.int .i64 (xD a s ps.l A)/\L=E/\S++R=G):=by
 have EB:=hm.places;refine nN call277 nG λl5=>?_;refine nN call277 EB λaFt=>?_;refine bW 70 call277 func277 ?_;apply(c8);intro dG;apply(iU);intro cT;apply g7∘sD;refine cC rfl (a4x a _ _ hm) ?_;apply(kB);apply(W)<;>intro aO;·apply(S8);refine dC L R ?_;exact⟨[],by rw[xD,if_pos aO],rfl,rfl⟩
 have bQ:hO a=0:=by omega
 have hok:=zE bQ;have yP:=gI bQ;have UI:=hok.Y.places;apply iK∘wW;refine cC rfl (aBU a s _ _ hm hs) ?_;apply(oW);apply(W)<;>intro bF;·apply(m1);refine dC L R ?_;exact⟨[],by rw[xD,if_neg aO,if_pos PO],rfl,rfl⟩
 have vN:lL a s=true:=by simpa using bF
 have C9:¬lL a s=false:=by rw[vN];decide
 apply Z0∘z3∘qP;apply(W)<;>intro b2;·apply(m1);refine dC L R ?_;exact⟨[],by rw[xD,if_neg aO,if_neg C9,if_pos D],rfl,rfl⟩
 have kD:ps.l.length=a.Y.places.l.length:=by omega
 apply iK∘D2;refine c7 [(2,.slice _ _ _),(3,.pointer _),(29,.slice _ _ _),(30,.int _ _),(31,.int _ _)] bP λeZ=>?_;refine gP ([6,9]++b4 31 11) (λg:FS (rK) (ps.l)=>[(31,.int .i64 ((g.1:Nat):Int))]) (λg=>(ps.l).length-g.1) ⟨0,BL _ _⟩ ?_;rintro⟨fM,yR,g0⟩ bZ;try dsimp only
 apply(h2);apply(W)<;>intro dZ;·
  obtain⟨y,aN⟩:=mP ps.l fM;apply(j7);refine aG R6 ?_;apply jI∘pQ∘CI;apply cB (aC:=[_,_]) (j:=2) (a7:=37) rfl rfl aE rfl aW rfl;·exact GG
  intro mY;apply(b3);apply(W)<;>intro dX;·apply(xE);refine dC L R ?_;have Hm:=A6 g0 aN (show rK y=some 1 from if_pos D);exact⟨[],by rw[xD,if_neg aO,if_neg C9,if_neg D,if_pos (by rw[Hm];rfl)],rfl,rfl⟩
  apply(n6);exact dU ⟨fM+1,CO g0 aN (if_neg D)⟩
 have mX:=BC g0 D;apply oD∘CM;refine cK (a4n a.Y _ _ hm.YB hok.Y (a6d bQ)) ?_;rintro v E G ⟨p,NT,S,rfl,iB,uF,eB,rfl,rfl⟩;obtain rfl:A=NT:=yP.Iu uF;have a1v:p.l.length=a.Y.places.l.length:=by rw[eB,uQ];exact yP.length
 have bJX:aH (cZ ps) (S++R):=nG.mono λr h=>aM (by simp[h]);have aTf:aH (O8 a.Y.places) (S++R):=EB.mono λr h=>aM (by simp[h]);have AK:xD a s ps.l A=((List.range a.Y.places.l.length).findSome? (FJ a ps.l A)).getD 0:=by rw[xD,if_neg aO,if_neg C9,if_neg D,if_neg (by rw[mX];simp)]
 apply z5∘eP∘r9;refine c7 [(2,.slice _ _ _),(10,.slice _ _ _),(47,.slice _ _ _),(48,.int _ _),(49,.int _ _)] bP λnS=>?_;refine gP ([6,11,12]++b4 49 21) (λg:H0 (FJ a ps.l A) (a.Y.places.l.length)=>[(49,.int .i64 ((g.1:Nat):Int))]) (λg=>(a.Y.places.l.length)-g.1) ⟨0,G9 _ _⟩ ?_;rintro⟨eU,e6,kE⟩ bZ;try dsimp only
 apply(h2);apply(W)<;>intro h3;·
  have xR:=bJ a.Y.places.l eU default;have BT:p.l[eU]?=some (!(A.getD eU false)):=by have:=yP.length;rw[eB,pF,bJ A eU false];rfl
  have xS:=bJ ps.l eU 0;apply pR∘aQi∘OI;intro lN;apply dE∘CL∘c9;apply cB (aC:=[_,_,_,_]) (j:=2) (a7:=56) rfl rfl aE rfl aW rfl;·intro fD;replace fD:=a8 fD;apply(h7);refine aG (h4 O (p) _ rfl rfl rfl rfl bC (i:=eU) cW iC) ?_;exact(aMN) hL
  intro mY;apply(c9);apply iZ (aC:=[_,_,_,_,_]) (j:=8) (a7:=62) rfl rfl aE rfl aW rfl;·intro gM;replace gM:=a8 gM;exact(h7∘aQi∘jI) HW
  intro wJ;apply(b3);apply(W)<;>intro hW;·have DD:FJ a ps.l A eU=some 12:=if_pos ⟨by obtain⟨N|N,_⟩:=hW;rw[wD,N,Wu];rw[wD,N];rfl,hW.2⟩;apply(xE);refine dC L (S++R) ?_;exact⟨S,by rw[AK,zC kE D DD];rfl,rfl,rfl⟩
  have DD:FJ a ps.l A eU=none:=if_neg (λ⟨N,V⟩=>by
  rcases hW with⟨aQ,b7⟩|aQ;·rw[wD,aQ,b7]at N;cases N
  ·exact aQ V)
  apply(n6);exact dU ⟨eU+1,KH kE D (DD)⟩
 have s1:=KO kE D;apply(GZ);refine dC L (S++R) ?_;exact⟨S,by rw[AK,s1];rfl,rfl,rfl⟩
def b5A{n:uW}{a:bR}{s:cE}{o:gZ}{l:List Int}{k:Nat}{A:aP}{R:aJ}{DN:Value}(wI:DN=(⟨o,l⟩:J Int).val)(h:VS n a s l k R)(jN:sN ((⟨o,l⟩:J Int).L 3 aL) A)(hok:(⟨o,l⟩:J Int).ok 1 aL):
 aI prog 240 [n.val,DN,.int .i64 (k:Int)].toArray A R (λw E G=>w=Zf (DV a s true l k)/\A=E/\R=G):=by subst wI;refine aI.Ia jN hok ((b6A n a s (⟨o,l⟩:J Int).U k [] _ ⟨h.r0.mono λr M=>aM (.tail _ M),h.a6l.mono λr M=>aM (.tail _ M),h.is,h.ok,h.len,h.bY,h.v⟩ n1).mono ?_);exact aZo
def b4W{n:uW}{a:bR}{s:cE}{o:gZ}{l:List Int}{k:Nat}{A:aP}{R:aJ}{DN:Value}(wI:DN=(⟨o,l⟩:J Int).val)(h:VS n a s l k R)(jN:sN ((⟨o,l⟩:J Int).L 3 aL) A)(hok:(⟨o,l⟩:J Int).ok 1 aL):
 aI prog 239 [n.val,DN,.int .i64 (k:Int)].toArray A R (λw E G=>w=Zf (DV a s false l k)/\A=E/\R=G):=by subst wI;refine aI.Ia jN hok ((b27 n a s (⟨o,l⟩:J Int).U k [] _ ⟨h.r0.mono λr M=>aM (.tail _ M),h.a6l.mono λr M=>aM (.tail _ M),h.is,h.ok,h.len,h.bY,h.v⟩ n1).mono ?_);exact aZg
def aMy:Bool->FuncId
 |true=>240
 |false=>239
def b6F(up:Bool){n:uW}{a:bR}{s:cE}{o:gZ}{l:List Int}{k:Nat}{A:aP}{R:aJ}{DN:Value}(wI:DN=(⟨o,l⟩:J Int).val)(h:VS n a s l k R)(jN:sN ((⟨o,l⟩:J Int).L 3 aL) A)(hok:(⟨o,l⟩:J Int).ok 1 aL):
 aI prog (aMy up) [n.val,DN,.int .i64 (k:Int)].toArray A R (λw E G=>w=Zf (DV a s up l k)/\A=E/\R=G):=by
 cases up with
 |true=>exact b5A wI h jN hok
 |false=>exact b4W wI h jN hok
def aPc(a:bR)(s:cE)(ps:a0 Int)(up:Bool)(A:List Bool)(L:aP)(R:aJ)(hm:nT a R)(hs:o2 s R)(nG:aH (cZ ps) R)(gI:hO a=0->lS a.Y A):
 aI prog 238 [a.val,s.val,ps.val,.func (.func (aMy up)) #[] #[]].toArray L R (λw E G=>∃(p:J Int) (S:aJ),w=.tuple #[p.val,.int .i64 (i5 a s A up ps.l).1]/\p.ok 1 aL/\p.l=(i5 a s A up ps.l).2/\p.L 3 aL++L=E/\S++R=G):=by
 refine bW 80 call238 func238 ?_;apply(c8);intro cT;apply(iU);intro eH;apply jS∘g7∘WU;refine cK (b8h a s ps A _ _ hm hs nG gI) ?_;rintro v E G ⟨fP,rfl,rfl,rfl⟩;apply(kB);apply(W)<;>intro aO;·apply yF∘jS∘z1;refine bN L (fP++R) B8 ?_;exact⟨J.nil,fP,by rw[i5,if_pos aO];rfl,J.g6,by rw[i5,if_pos aO],by rw[lT,m0],rfl⟩
 have xT:=a5c.1 (show xD a s ps.l A=0 by omega);have hok:=zE xT.bQ;have rT:=Ry xT.hf;have yP:=gI xT.bQ;have kD:=xT.hl;have q9:=hok.Y.places;have Ov:i5 a s A up ps.l=match wU a s A up 200 ps.l with
  |none=>(2,[])
  |some l=>(0,l):=by rw[i5,if_neg aO]<;>rfl
 have nF:∀r∈R,aH r (fP++R):=λr h=>aM (by simp[h]);have AQ:=IY hm nF;have Ow:=PV hs nF;apply eR∘CM;refine cK (a4n a.Y _ _ AQ.YB hok.Y (a6d xT.bQ)) ?_;rintro v E G ⟨p,NT,S,rfl,iB,uF,eB,rfl,rfl⟩;obtain rfl:A=NT:=yP.Iu uF;have a1v:p.l.length=a.Y.places.l.length:=by rw[eB,uQ];exact yP.length
 have Ah:=yP.length;have jR:∀r∈fP++R,aH r (S++(fP++R)):=λr h=>aM (by simp only[Ja]at h|-;exact .inr h);apply vG∘wW;refine cK (a9B a s _ _ (IY AQ jR) (PV Ow jR) hok rT) ?_;rintro v E G ⟨n,rfl,hn,rfl,rfl⟩;have FR:∀r∈S++(fP++R),aH r (sQ n.mO::rI n.kW::(S++(fP++R))):=λr h=>aM (by simp only[vC];exact .inr (.inr h));have aTD:aH (cZ ps) (sQ n.mO::rI n.kW::(S++(fP++R))):=((nG.mono nF).mono jR).mono FR;have aTg:aH (O8 a.Y.places) (sQ n.mO::rI n.kW::(S++(fP++R))):=((AQ.places).mono jR).mono FR;have JE:aH (sQ n.mO) (sQ n.mO::rI n.kW::(S++(fP++R))):=aM (.head _);have Am:aH (rI n.kW) (sQ n.mO::rI n.kW::(S++(fP++R))):=aM (.tail _ (.head _));obtain⟨nM,D8⟩:∃nM,nM=sQ n.mO::rI n.kW::(S++(fP++R)):=⟨_,rfl⟩;rw[<-D8]at aTD aTg JE Am|-;apply(dA);intro lN;apply rP∘hM;refine gO (tV (f:=aL) (xs:=ps) O rfl rfl rfl bH rfl rfl (aTD) bI D) rfl ?_;rintro v E G ⟨NA,rfl,a1R,rfl,rfl⟩;apply(WN);refine c7 [(3,_),(4,.pointer _),(11,.slice _ _ _),(12,.pointer _),(13,.slice _ _ _),(14,.int _ _)] bP λeZ=>?_;refine kO ([8,9]++b4 14 6++b4 35 45) ((⟨λq=>[(14,.int .i64 ((q.1.1:Nat):Int))],λq=>(⟨NA,q.1.2⟩:J Int).L 3 aL++(⟨lN,n.cells,221⟩::(p.L 4 jF++(⟨eH,s.cells,80⟩::⟨cT,a.cells,32⟩::L))),λ_=>nM,λq=>200-q.1.1⟩:dV {q:Nat×List Int//q.1<=200/\wU a s A up 200 ps.l=wU a s A up (200-q.1) q.2/\q.2.length=ps.l.length/\qY q.2/\(⟨NA,q.2⟩:J Int).ok 1 aL})) (⟨(0,ps.l),by dsimp only;omega,rfl,rfl,xT.hp,a1R⟩) ?_;rintro⟨⟨sC,l⟩,s4,fT,mZ,NK,ES⟩ bZ;try dsimp only
 dsimp only at s4 fT mZ NK ES;apply A7∘D1;apply(W)<;>intro bF;·
  have aDn:200-sC=(200-(sC+1))+1:=by omega
  rw[aDn]at fT;apply j7∘IQ∘eP∘r9;refine zY ([8,9]++b4 14 6++b4 35 45) AZ [(14,.int _ _),(15,.bool _),(41,.slice _ _ _),(42,.int _ _),(43,.int _ _)] bP λnS=>?_;refine mC ([8,9,15,16,17,18,19]++b4 43 34) ((⟨λq=>[(43,.int .i64 ((q.1.1:Nat):Int)),(15,.bool (decide (q.1.2≠l)))],λq=>(⟨NA,q.1.2⟩:J Int).L 3 aL++(⟨lN,n.cells,221⟩::(p.L 4 jF++(⟨eH,s.cells,80⟩::⟨cT,a.cells,32⟩::L))),λ_=>nM,λq=>a.Y.places.l.length-q.1.1⟩:dV {q:Nat×List Int//q.1<=a.Y.places.l.length/\J5 a s A up l q.1 q.2/\(⟨NA,q.2⟩:J Int).ok 1 aL})) (⟨(0,l),by dsimp only;omega,.zero NK,ES⟩) ⟨rfl,by simp;rfl,trivial⟩ a2 fF ?_;rintro⟨⟨i,m⟩,nK,fB,kF⟩ bZ;try dsimp only
  dsimp only at nK fB kF;have pX:=fB.len;apply(h2);apply(W)<;>intro b2;·
   have bJx:=bJ a.Y.places.l i default;obtain⟨Lt,FY⟩:∃Lt,Lt=A.getD i false:=⟨_,rfl⟩;(have BT:p.l[i]?=some (!Lt):=by rw[eB,pF,bJ A i false,FY];rfl);have xR:=bJ m i 0;apply(pR);refine aG Xz ?_;apply(OI);intro I3;apply dE∘G6∘c9;apply cB (aC:=[_,_,_,_]) (j:=2) (a7:=50) rfl rfl aE rfl aW rfl;·intro fD;replace fD:=a8 fD;apply(h7);refine aG (h4 O (p) _ rfl rfl rfl rfl bC (i:=i) cW iC) ?_;exact(aMN) hL
   intro mY;apply(b3);apply(W)<;>intro dZ;·(have Q9:wD a A i=true:=by rw[wD,<-FY];rcases dZ with h|h;rw[h,Wu];rw[h];rfl);refine lC (lB (lA (aZ (cR ?_))));apply(uX);exact aXN
   (have Q9:¬wD a A i=true:=by rw[wD,<-FY,dZ.1,dZ.2];decide);have a6H:VS n a s m i nM:=⟨JE,Am,hn,hok,by omega,fB.bY,by omega⟩;apply(eR);refine aG iR ?_;apply oC∘h7;refine Y0 (Sc rfl rfl (b6F up (o:=NA) (l:=m) ((show _=Value.slice _ _ _ from rfl).trans a2T) a6H x8 kF)) rfl rfl ?_;rintro v E G ⟨rfl,rfl,rfl⟩;refine aG iR ?_;apply S1∘Lg∘WK;apply(W)<;>intro dX;·(have hv:DV a s up m i=none:=by simpa using dX);(have HL:i5 a s A up ps.l=(2,[]):=by rw[Ov,fT,aNL (fB.fail Q9 hv _ D)]);apply TD∘dE;refine eI (aZ (iT (gD (iS (gD (wS (iS (gD (iS (gD (wS (iS (gD ?_)))))))))))));refine bN L nM B8 ?_;exact aJm
   obtain⟨u,hv⟩:=Option.isSome_iff_exists.1 dX;have fW:=fB.aR4 (k:=i) D u;apply(x2);rw[hv];apply p8∘h7∘aMt;refine aG (qK O ((⟨NA,m⟩:J Int)) rfl rfl rfl c0 bC bI bC aE) ?_;apply(qP);apply(W)<;>intro h3;·apply yH∘b1∘aMt;refine i4 (jL O ((⟨NA,m⟩:J Int)) (u) rfl rfl rfl rfl c0 bC bI bC bH aE aE) ?_;rintro v E G ⟨rfl,rfl⟩;apply uN∘wB;exact oT ⟨(i+1,m.set i u),by dsimp only;omega,fB.next Q9 hv,J.oZ CG kF fX⟩ kG ⟨rfl,by dsimp only;rw[fW,decide_eq_true (show u≠m.getD i 0 from h3),Wu];rfl,trivial⟩ a2 fF k1
   apply(n6);(have F1:m.set i u=m:=by rw[show u=m.getD i 0 by simpa using h3,Kr]);exact dU ⟨(i+1,m),by dsimp only;omega,F1▸fB.next Q9 hv,kF⟩
  obtain rfl:i=a.Y.places.l.length:=by omega
  have HN:=fB.to;apply oD∘WK;apply(W)<;>intro hW;·(have K8:m=l:=by simpa using hW);(have HL:i5 a s A up ps.l=(0,m):=by rw[Ov,fT,K8,aKB (by rw[<-K8]at HN|-;exact HN)]);apply cO∘hM∘jS∘WI;refine bN ((⟨NA,m⟩:J Int).L 3 aL++L) nM B8 ?_;exact⟨⟨NA,m⟩,sQ n.mO::rI n.kW::(S++fP),by rw[HL];simp only[J.val,pX,mZ],kF,by rw[HL],rfl,by rw[D8];simp⟩
  have K8:m≠l:=by simpa using hW
  apply(mD);exact dU ⟨(sC+1,m),by dsimp only;omega,fT.trans (aMl HN K8),pX.trans mZ,fB.bY,kF⟩
 obtain rfl:sC=200:=by omega
 have HL:i5 a s A up ps.l=(2,[]):=by rw[Ov,fT];rfl
 apply oD∘jS∘q3;refine bN L nM B8 ?_;exact aJm
def b5l(a:bR)(s:cE)(ps:a0 Int)(A:List Bool)(L:aP)(R:aJ)(hm:nT a R)(hs:o2 s R)(nG:aH (cZ ps) R)(gI:hO a=0->lS a.Y A):
 aI prog 187 [a.val,s.val,ps.val].toArray L R (λw E G=>∃(p:J Int) (S:aJ),w=.tuple #[p.val,.int .i64 (i5 a s A true ps.l).1]/\p.ok 1 aL/\p.l=(i5 a s A true ps.l).2/\p.L 3 aL++L=E/\S++R=G):=by refine bW 14 call187 func187 ?_;apply(c8);intro dG;apply(iU);intro cT;apply jS∘mL∘WU;refine cK (aPc a s ps true A _ _ hm hs nG gI) ?_;exact aYX
def b5i(a:bR)(s:cE)(ps:a0 Int)(A:List Bool)(L:aP)(R:aJ)(hm:nT a R)(hs:o2 s R)(nG:aH (cZ ps) R)(gI:hO a=0->lS a.Y A):
 aI prog 186 [a.val,s.val,ps.val].toArray L R (λw E G=>∃(p:J Int) (S:aJ),w=.tuple #[p.val,.int .i64 (i5 a s A false ps.l).1]/\p.ok 1 aL/\p.l=(i5 a s A false ps.l).2/\p.L 3 aL++L=E/\S++R=G):=by refine bW 14 call186 func186 ?_;apply(c8);intro dG;apply(iU);intro cT;apply jS∘mL∘WU;refine cK (aPc a s ps false A _ _ hm hs nG gI) ?_;exact aYX
def aCS(h:B:=by exact⟨J.nil,J.nil,by rw[xU];rfl,J.g6,J.g6,by rw[xU],by rw[xU],by rw[lT,m0,m0],rfl⟩):=h
def b6e(a:bR)(s:cE)(ps:a0 Int)(A:List Bool)(L:aP)(R:aJ)(hm:nT a R)(hs:o2 s R)(nG:aH (cZ ps) R)(gI:hO a=0->lS a.Y A):
 aI prog 187 [a.val,s.val,ps.val].toArray L R (λw E G=>∃p:J Int,w=.tuple #[p.val,.int .i64 (i5 a s A true ps.l).1]/\p.ok 1 aL/\p.l=(i5 a s A true ps.l).2/\p.L 3 aL++L=E/\R=G):=
 aI.turn (b5l a s ps A L R hm hs nG gI) λv E G ⟨p,S,j5,kK,lV,q5,AC⟩=>⟨E,R,YN _,λr h=>aM (by rw[<-AC];simp[h]),p,j5,kK,lV,q5,rfl⟩
def b7E(a:bR)(s:cE)(ps:a0 Int)(A:List Bool)(L:aP)(R:aJ)(hm:nT a R)(hs:o2 s R)(nG:aH (cZ ps) R)(gI:hO a=0->lS a.Y A):
 aI prog 186 [a.val,s.val,ps.val].toArray L R (λw E G=>∃p:J Int,w=.tuple #[p.val,.int .i64 (i5 a s A false ps.l).1]/\p.ok 1 aL/\p.l=(i5 a s A false ps.l).2/\p.L 3 aL++L=E/\R=G):=
 aI.turn (b5i a s ps A L R hm hs nG gI) λv E G ⟨p,S,j5,kK,lV,q5,AC⟩=>⟨E,R,YN _,λr h=>aM (by rw[<-AC];simp[h]),p,j5,kK,lV,q5,rfl⟩
def aM5{a:bR}{s:cE}{q:J Int}{A:List Bool}{L:aP}{R:aJ}{DN:Value}(wI:DN=q.val)(hm:nT a R)(hs:o2 s R)(gI:hO a=0->lS a.Y A)(jN:sN (q.L 3 aL) L)(hok:q.ok 1 aL):
 aI prog 186 [a.val,s.val,DN].toArray L R (λw E G=>∃p:J Int,w=.tuple #[p.val,.int .i64 (i5 a s A false q.l).1]/\p.ok 1 aL/\p.l=(i5 a s A false q.l).2/\p.L 3 aL++L=E/\R=G):=by subst wI;have V:=aI.Hz (S:=[cZ q.U]) (Post:=λv E=>∃p:J Int,v=.tuple #[p.val,.int .i64 (i5 a s A false q.l).1]/\p.ok 1 aL/\p.l=(i5 a s A false q.l).2/\p.L 3 aL++[]=E) (y8.aB (L:=L)) (λw aC bX s hs=>by rw[List.mem_singleton.1 hs];exact HA bX jN hok bI bH lQ) ((b7E a s q.U A [] _ (IY hm λr h=>aM (.tail _ h)) (PV hs λr h=>aM (.tail _ h)) n1 gI).mono λv E G ⟨p,j5,kK,lV,q5,AC⟩=>⟨⟨p,j5,kK,lV,q5⟩,AC⟩);exact b02
def b6c(a:bR)(s:cE)(A:List Bool)(L:aP)(R:aJ)(hm:nT a R)(hs:o2 s R)(gI:hO a=0->lS a.Y A)(q9:a.Y.places.l.length<=64):
 aI prog 111 [a.val,s.val].toArray L R (λw E G=>∃b6 aA:J Int,w=.tuple #[.agg #[b6.val,aA.val],.int .i64 (sX a s A).1]/\b6.ok 1 aL/\aA.ok 1 aL/\b6.l=(sX a s A).2.1/\aA.l=(sX a s A).2.2/\b6.L 3 aL++(aA.L 3 aL++L)=E/\R=G):=by
 have EB:=hm.places;have aGW:∀b,(⟨.own b a.Y.places.l.length [],List.replicate a.Y.places.l.length 0⟩:J Int).ok 1 aL:=λb=>Sy bI Qn;refine bW 49 call111 func111 ?_;apply(c8);intro cS;apply(iU);intro dG;apply(dA);intro cT;apply(zG);refine gJ O [0,1,2,3,4,5,6,7,8,9,10,11,12] ([a5.mk dG _ _,a5.mk cS _ _]) cX bE a2 ?_;apply ND∘YF∘OE;refine a4 vZ ?_;refine o4 a3o rfl rfl rfl ?_;rintro v E G ⟨I2,rfl,rfl,Mg⟩;replace Mg:=Mg.symm;subst Mg;apply(fS);refine q1 rfl (aM5 (q:=⟨.own I2 a.Y.places.l.length [],List.replicate a.Y.places.l.length 0⟩) (aA8 (aV:=Int)).symm hm hs gI (aPD (f:=aL) (x:=0) rfl) (aGW I2)) rfl rfl ?_;rintro v E G ⟨p,rfl,iB,eB,rfl,rfl⟩;refine⟨a2,gN,?_⟩;replace eB:p.l=(i5 a s A false (List.replicate a.Y.places.l.length 0)).2:=eB;refine a4 iR ?_;refine a4 sL ?_;refine a4 sL ?_;refine a4 A0 ?_;apply(qD);refine gS (aZ (a6 (a6 ?_)));refine vF (A:=[]) (aR:=1) [] bI bH iB lQ ?_;refine mJ a3y ?_;have AQ:nT a (cZ p.U::R):=IY hm λr h=>aM (.tail _ h);have Ow:o2 s (cZ p.U::R):=PV hs λr h=>aM (.tail _ h);obtain⟨x,K⟩:∃x,x=i5 a s A false (List.replicate a.Y.places.l.length 0):=⟨_,rfl⟩;rw[<-K]at eB|-;apply(WS);apply(W)<;>intro aO;·
  apply ZX∘tZ;refine lJ (E:=L) (G:=R) Jp ?hp ?c2 ?bD;case hp=>(have xU:sX a s A=(x.1,[],[]):=by rw[sX];dsimp only;rw[<-K,if_pos aO]);exact aCS
  case c2=>exact a2
  case bD=>exact λr h=>aM (by simp[h])
 apply eR∘WU;refine cK (b6e a s p.U A _ _ AQ Ow n1 gI) ?_;rintro v E G ⟨q,rfl,gG,gB,rfl,rfl⟩;replace gB:q.l=(i5 a s A true p.l).2:=gB;obtain⟨y,aN⟩:∃y,y=i5 a s A true p.l:=⟨_,rfl⟩;rw[<-aN]at gB|-;have UT:y=i5 a s A true x.2:=by rw[aN,eB]
 refine aG iR ?_;apply Fe∘TJ;apply(W)<;>intro bF;·
  apply ZX∘tZ;refine lJ (E:=L) (G:=R) Jp ?hp ?c2 ?bD;case hp=>(have xU:sX a s A=(y.1,[],[]):=by rw[sX];dsimp only;rw[<-K,if_neg aO,<-UT,if_pos bF]);exact aCS
  case c2=>exact a2
  case bD=>exact λr h=>aM (by simp[h])
 apply eR∘WU;refine cK (aM5 (q:=q) rfl AQ Ow gI x8 gG) ?_;rintro v E G ⟨u,rfl,aTW,Vh,rfl,rfl⟩;obtain⟨z,eC⟩:∃z,z=i5 a s A false q.l:=⟨_,rfl⟩;rw[<-eC]at Vh|-;have X6:z=i5 a s A false y.2:=by rw[eC,gB]
 refine aG iR ?_;apply Fe∘TJ;apply(W)<;>intro b2;·
  apply ZX∘tZ;refine lJ (E:=L) (G:=R) Jp ?hp ?c2 ?bD;case hp=>(have xU:sX a s A=(z.1,[],[]):=by rw[sX];dsimp only;rw[<-K,if_neg aO,<-UT,if_neg bF,<-X6,if_pos b2]);exact aCS
  case c2=>exact a2
  case bD=>exact λr h=>aM (by simp[h])
 apply G1∘hM;refine aG a9s ?_;apply(pI);refine lJ (E:=u.L 3 aL++(q.L 3 aL++L)) (G:=R) Jp ?hp ?c2 ?bD;case hp=>exact b0m
 case c2=>exact a2
 case bD=>exact λr h=>aM (by simp[h])
end
structure YY(a:bR)(s:cE)(b:sV)(A:List Bool)(n:uW)(k:Nat)(l:List a9):Prop where
 len:l.length=a.Y.aD.l.length
 TX:∀(j:Nat) (p:mK),j<k->n.mO.l[j]?=some p->l[p.rC.toNat]?=some (s9 a s b A p.rC.toNat)
 YE:∀i:Nat,i<a.Y.aD.l.length->(∀(j:Nat) (p:mK),j<k->n.mO.l[j]?=some p->p.rC.toNat≠i)->l[i]?=some ⟨0,0⟩
def YY.zero(a:bR)(s:cE)(b:sV)(A:List Bool)(n:uW):YY a s b A n 0 (List.replicate a.Y.aD.l.length ⟨0,0⟩):=
 ⟨by simp,λj p aY=>by omega,λi aA _=>by rw[R1,if_pos aA]⟩
def YY.next{a:bR}{s:cE}{b:sV}{A:List Bool}{n:uW}{k:Nat}{l:List a9}(h:YY a s b A n k l){p:mK}(hp:n.mO.l[k]?=some p)(M:p.rC.toNat<a.Y.aD.l.length){x:a9}(K:x=s9 a s b A p.rC.toNat):YY a s b A n (k+1) (l.set p.rC.toNat x):=by
 have hl:=h.len;subst K;refine⟨by simp[hl],λj q aY hq=>?_,λi aA hn=>?_⟩;·
  rw[EU];split;·rename_i e;rw[if_pos D,e]
  ·
   rename_i e;rcases gY j k with N|N;·exact h.TX j q N hq
   ·(obtain rfl:j=k:=by omega);rw[hp]at hq;cases hq;exact absurd rfl e
 ·rw[JR (hn k p D hp)];exact h.YE i aA λj q aY hq=>hn j q D hq
def YY.done{a:bR}{s:cE}{b:sV}{A:List Bool}{n:uW}{l:List a9}(h:YY a s b A n n.mO.l.length l)(hn:N2 a s n):l=(List.range a.Y.aD.l.length).map (s9 a s b A):=by
 have hl:=h.len;refine R2 λi=>?_;rcases gY i a.Y.aD.l.length with aA|aA;·
  rw[pF,LN aA];show _=some (s9 a s b A i);cases hc:(a.Y.aD.l.getD i default).dM with
  |true=>rw[s9,if_pos hc];refine h.YE i aA λj p aY hp e=>?_;have:=(hn.open (gU hp)).2;rw[e,hc]at this;cases this
  |false=>obtain⟨j,p,aY,hp⟩:=hn.find (r:=(i:Int)) D (by rw[vY];exact hc);have:=h.TX j p (List.getElem?_eq_some_iff.1 aY).1 aY;rw[hp,vY]at this;exact this
 ·rw[sJ D,sJ B6]
section
attribute [local irreducible] cH c6 dP aI cJ eD e9 e0 e1 e5 eS e8 J.L
def aNY(h:A->B:=by exact(eO (yB (row:=[_,_,_,_,_,_,_,_,_,_,_,_]) O rfl rfl rfl o0 aE aE) ·)):=h
def aNl(h:A->B:=by exact(eO (by first|exact j9 O rfl rfl rfl rfl jC (i:=P.b9.bK.toNat) cW D|exact i9 O rfl rfl rfl rfl (i:=P.b9.bK.toNat) cW D) ·)):=h
def aKq(h:A->B:=by exact(eO (by first|exact j9 O rfl rfl rfl rfl jC (i:=P.b9.to.toNat) cW D|exact i9 O rfl rfl rfl rfl (i:=P.b9.to.toNat) cW D) ·)):=h
def b6x(a:bR)(s:cE)(b:sV)(A:List Bool)(L:aP)(R:aJ)(hm:nT a R)(hs:o2 s R)(hb:Rd b R)(gI:hO a=0->lS a.Y A):
 aI prog 112 [a.val,s.val,b.val].toArray L R (λv E G=>∃(p:J a9) (S:aJ),v=p.val/\p.ok 2 a9.cells/\p.l=GR a s b A/\p.L 90 a9.cells++L=E/\S++R=G):=by
 have UJ:=hm.aD;have FT:=hb.bG;have Ap:=hb.bO;refine bW 85 call112 func112 ?_;apply(c8);intro dG;apply(iU);intro cT;apply(iU);intro eH;apply z5∘wW∘oC;refine cK (b9W a s b A _ _ hm hs hb gI) ?_;rintro v E G ⟨r5,rfl,rfl,rfl⟩;have AQ:nT a (r5++R):=⟨hm.places.mono λr h=>aM (by simp[h]),hm.aD.mono λr h=>aM (by simp[h]),hm.a3.mono λr h=>aM (by simp[h]),hm.aX.mono λr h=>aM (by simp[h])⟩;have bJJ:=AQ.aD;apply(qP);apply(W)<;>intro aO;·apply TD∘AU;refine bN L (r5++R) vD ?_;exact⟨J.nil,r5,rfl,J.g6,by rw[GR,if_neg aO],by rw[lT,m0],rfl⟩
 have AK:uB a s b A=0:=by omega
 have zJ:=aBn AK;have hok:=zE zJ.bQ;have rT:=Ry zJ.hf;have yP:=gI zJ.bQ;have OX:=hok.Y.aD;have kD:=zJ.hl;have a1z:=zJ.bX;apply eR∘z3∘EL;rintro v E G ⟨C0,rfl,rfl,KZ⟩;replace KZ:=KZ.symm;subst KZ;apply(FG);refine mJ (XA (f:=a9.cells) (x:=⟨0,0⟩) rfl _) ?_;apply eK∘CM;refine cK (a4n a.Y _ _ AQ.YB hok.Y (a6d zJ.bQ)) ?_;rintro v E G ⟨p,NT,e2,rfl,iB,uF,eB,rfl,rfl⟩;obtain rfl:A=NT:=yP.Iu uF;have bJR:p.l.length=a.Y.places.l.length:=by rw[eB,uQ];exact yP.length
 have JD:nT a (e2++(r5++R)):=⟨AQ.places.mono λr h=>aM a85,AQ.aD.mono λr h=>aM a85,AQ.a3.mono λr h=>aM a85,AQ.aX.mono λr h=>aM a85⟩;have RJ:o2 s (e2++(r5++R)):=⟨hs.a3.mono λr h=>aM (by simp[h]),hs.aX.mono λr h=>aM (by simp[h])⟩;apply z5∘wW;refine cK (a9B a s _ _ JD RJ hok rT) ?_;rintro v E G ⟨n,rfl,hn,rfl,rfl⟩;have JE:aH (sQ n.mO) (sQ n.mO::rI n.kW::(e2++(r5++R))):=aM (.head _);have aSF:aH (cZ b.bG) (sQ n.mO::rI n.kW::(e2++(r5++R))):=FT.mono λr h=>aM (by simp[h]);have aSE:aH (cZ b.bO) (sQ n.mO::rI n.kW::(e2++(r5++R))):=Ap.mono λr h=>aM (by simp[h]);have Ba:=hn.length;refine aG (aON (e:=218) O rfl bE rfl rfl rfl rfl rfl) ?_;apply vV∘ZT;refine c7 [(5,.pointer _),(7,.slice _ _ _),(8,.slice _ _ _),(27,.slice _ _ _),(28,.int _ _),(29,.int _ _)] bP λeZ=>?_;refine kO ([10]++b4 29 55) ((⟨λq=>[(29,.int .i64 ((q.1.1:Nat):Int))],λq=>p.L 4 jF++((⟨.own C0 a.Y.aD.l.length [],q.1.2⟩:J a9).L 90 a9.cells++(⟨eH,b.cells,214⟩::⟨cT,s.cells,80⟩::⟨dG,a.cells,32⟩::L)),λ_=>sQ n.mO::rI n.kW::(e2++(r5++R)),λq=>n.mO.l.length-q.1.1⟩:dV {q:Nat×List a9//q.1<=n.mO.l.length/\YY a s b A n q.1 q.2})) (⟨(0,List.replicate a.Y.aD.l.length ⟨0,0⟩),by dsimp only;omega,YY.zero a s b A n⟩) ?_;rintro⟨⟨k,l⟩,s4,fT⟩ bZ;try dsimp only
 dsimp only at s4 fT;have pK:=fT.len;have a1I:(⟨.own C0 a.Y.aD.l.length [],l⟩:J a9).ok 2 a9.cells:=by have:=JL a9.cells 2 C0 a.Y.aD.l.length ⟨0,0⟩ bI;exact J.oZ bI this a22
 apply(h2);apply(W)<;>intro bF;·
  obtain⟨P,i0⟩:=mP n.mO.l k;have aSn:=aH.U4 JE i0;obtain⟨aSp,aSq⟩:=hn.open (gU i0);have a6J:=hn.U4 P (gU i0);have aSo:=aPY hok aSp a6J;have OU:KB P=lU a s ((P.rC.toNat:Nat):Int):=funext λq=>by rw[aL1 a6J q,VF aSp.1]
  have kX:=hok.Y.b9 P.rC.toNat _ YS;have RI:=kX.bK;have X2:=kX.to;have XQ:P.b9.bK=(a.Y.aD.l.getD P.rC.toNat default).bK:=by rw[a6J.b9]
  have Nu:P.b9.to=(a.Y.aD.l.getD P.rC.toNat default).to:=by rw[a6J.b9]
  have Ah:=yP.length;have BT:p.l[P.b9.bK.toNat]?=some (!(A.getD P.b9.bK.toNat false)):=by rw[eB,pF,bJ A P.b9.bK.toNat false];rfl
  have u1:=bJ b.bG.l P.b9.bK.toNat 0;have q7:=bJ b.bG.l P.b9.to.toNat 0;have KW:=bJ b.bO.l P.b9.bK.toNat 0;have OM:=bJ b.bO.l P.b9.to.toNat 0;have dY:=zJ.bS.get P.b9.bK.toNat;have eY:=zJ.bS.get P.b9.to.toNat;have nV:=zJ.yW.get P.b9.bK.toNat;have AE:=zJ.yW.get P.b9.to.toNat;have xQ:=bJ l P.rC.toNat default;apply(j7);refine aG qH ?_;apply aHv∘dA;intro jE;apply rQ∘hM∘FE;refine aG (h4 O (p) _ rfl rfl rfl rfl bC (i:=P.b9.bK.toNat) cW iC) ?_;refine aG R8 ?_;apply(b3);apply(W)<;>intro b2;·(have Ho:kY=s9 a s b A P.rC.toNat:=by rw[s9,if_neg (by rw[aSq];decide),<-XQ,if_neg PN]);apply cO∘BB∘y0;refine aG b05 ?_;refine i4 (SV O ((⟨.own C0 a.Y.aD.l.length [],l⟩:J a9)) (kY) rfl rfl rfl rfl c0 bC bI bC (LM rfl) aE aE) ?_;rintro v E G ⟨rfl,rfl⟩;refine eI (aZ (lC (lB (lA (aZ (cR ?_))))));apply(uX);exact aXp
  have Ho:(⟨tB (KB P) (b.bG.l.getD P.b9.bK.toNat 0-b.bO.l.getD P.b9.to.toNat 0),s8 (KB P) (b.bO.l.getD P.b9.bK.toNat 0-b.bG.l.getD P.b9.to.toNat 0)⟩:a9)=s9 a s b A P.rC.toNat:=by rw[s9,if_neg (by rw[aSq];decide),<-XQ,<-Nu,if_pos PN,OU]
  refine dK (aZ ?_);refine hF O [] [0,1,2,3,4,5,6,7,8,9,10,11,12,13,14,15,16,17,18,20,21,22,23,24,25,26,27,28,29,30,31,32,33,34,35,19,36,37,38] [39] ([a5.mk jE _ _,a5.mk eH _ _]) _ cX bE a2 g3 ?_;apply QP∘aNY∘l1∘wL∘l1∘aNl∘vA∘l1∘wL∘l1∘aKq∘vA∘NE∘aNY∘l1∘wL∘l1∘aNl∘vA∘l1∘wL∘l1∘aKq∘vA∘NE;refine k2 rfl (aM9 P (b.bG.l.getD P.b9.bK.toNat 0-b.bO.l.getD P.b9.to.toNat 0) _ _ aSn aSo) rfl rfl ?_;rintro v E G ⟨rfl,rfl,rfl⟩;refine⟨a2,gN,?_⟩;refine k2 rfl (aKn P (b.bO.l.getD P.b9.bK.toNat 0-b.bG.l.getD P.b9.to.toNat 0) _ _ aSn aSo) rfl rfl ?_;rintro v E G ⟨rfl,rfl,rfl⟩;refine⟨a2,gN,?_⟩;apply(Cn);refine eO b05 ?_;apply(x1);refine GO (SV O ((⟨.own C0 a.Y.aD.l.length [],l⟩:J a9)) (⟨tB (KB P) (b.bG.l.getD P.b9.bK.toNat 0-b.bO.l.getD P.b9.to.toNat 0),s8 (KB P) (b.bO.l.getD P.b9.bK.toNat 0-b.bG.l.getD P.b9.to.toNat 0)⟩) rfl rfl rfl rfl c0 bC bI bC (LM rfl) aE aE) rfl rfl ?_;rintro v E G ⟨rfl,rfl⟩;apply fS∘TL;exact aXp
 obtain rfl:k=n.mO.l.length:=by omega
 apply(TG);refine bN ((⟨.own C0 a.Y.aD.l.length [],l⟩:J a9).L 90 a9.cells++L) (sQ n.mO::rI n.kW::(e2++(r5++R))) vD ?_;exact⟨(⟨.own C0 a.Y.aD.l.length [],l⟩:J a9),sQ n.mO::rI n.kW::(e2++r5),v4 pK,a1I,by rw[GR,if_pos AK];exact fT.done hn,rfl,by simp[mQ]⟩
def b4n(h:B:=by exact⟨J.nil,by rw[tA,if_pos aO];rfl,J.g6,by rw[tA,if_pos aO],by rw[lT,m0],rfl⟩):=h
def aJg(h:A->B:=by exact(aG qH ·)):=h
def b8B(h:A->B:=by exact gO Qy rfl):=h
def b6U(h:A->B:=by exact gO aY5 rfl):=h
def b2e{a:bR}{s:cE}{b Aa:sV}{A:List Bool}(N:b.bG.l=Aa.bG.l)(V:b.bO.l=Aa.bO.l):GR a s b A=GR a s Aa A:=by
 have dY:uU a s b A=uU a s Aa A:=funext λi=>by rw[uU,uU,N,V]
 have eY:uB a s b A=uB a s Aa A:=by rw[uB,uB,N,V,dY]
 have nV:s9 a s b A=s9 a s Aa A:=funext λi=>by rw[s9,s9,N,V]
 rw[GR,GR,eY,nV]
def ZG(a:bR)(s:cE)(A:List Bool):sV:=⟨⟨none,0,(sX a s A).2.1⟩,⟨none,0,(sX a s A).2.2⟩⟩
def vI(a:bR)(k:Nat):a9:=if(a.Y.aD.l.getD k default).dM=true then⟨0,0⟩else kY
def tA(a:bR)(s:cE)(A:List Bool):Int×List a9:=
 if hO a≠0 then(hO a,[])else if lL a s=false then(21,[])else if(sX a s A).1=0 then(0,GR a s (ZG a s A) A)
 else(0,(List.range a.Y.aD.l.length).map (vI a))
def SS(L:aP)(R:aJ):
 aI prog 96 [].toArray L R (λv E G=>v=kY.val/\L=E/\R=G):=by refine bW 2 call96 func96 ?_;apply(IV);intro a0L;exact(lP∘y0∘wA) a9t
structure YU(a:bR)(i:Nat)(l:List a9):Prop where
 len:l.length=a.Y.aD.l.length
 TX:∀j:Nat,j<i->l[j]?=some (vI a j)
 YE:∀j:Nat,i<=j->j<a.Y.aD.l.length->l[j]?=some ⟨0,0⟩
def YU.next{a:bR}{i:Nat}{l:List a9}(h:YU a i l)(aA:i<a.Y.aD.l.length){x:a9}(K:x=vI a i):YU a (i+1) (l.set i x):=by exact aVs
def YU.EQ{a:bR}{i:Nat}{l:List a9}(h:YU a i l)(aA:i<a.Y.aD.l.length)(K:(⟨0,0⟩:a9)=vI a i):YU a (i+1) l:=by exact aWB
def YU.done{a:bR}{l:List a9}(h:YU a a.Y.aD.l.length l):l=(List.range a.Y.aD.l.length).map (vI a):=by
 have hl:=h.len;refine R2 λj=>?_;rcases gY j a.Y.aD.l.length with aY|aY;·rw[h.TX j aY,pF,LN aY];rfl
 ·rw[sJ D,sJ B6]
def b28(a:bR)(s:cE)(A:List Bool)(L:aP)(R:aJ)(hm:nT a R)(hs:o2 s R)(gI:hO a=0->lS a.Y A):
 aI prog 40 [a.val,s.val].toArray L R (λw E G=>∃p:J a9,w=.tuple #[p.val,.int .i64 (tA a s A).1]/\p.ok 2 a9.cells/\p.l=(tA a s A).2/\p.L 90 a9.cells++L=E/\R=G):=by
 have UJ:=hm.aD;refine bW 56 call40 func40 ?_;apply(c8);intro cS;apply(iU);intro dG;apply jS∘g7∘sD;refine cC rfl (a4x a _ _ hm) ?_;apply(kB);apply(W)<;>intro aO;·exact aX2
 have bQ:hO a=0:=by omega
 have hok:=zE bQ;have q9:=hok.Y.places;have OX:=hok.Y.aD;apply iK∘wW;refine cC rfl (aBU a s _ _ hm hs) ?_;apply(oW);apply(W)<;>intro bF;·apply TD∘z1;refine bN L R B8 ?_;exact⟨J.nil,by rw[tA,if_neg aO,if_pos PO];rfl,J.g6,by rw[tA,if_neg aO,if_pos PO],by rw[lT,m0],rfl⟩
 have vN:lL a s=true:=by simpa using bF
 have C9:¬lL a s=false:=by rw[vN];decide
 apply iK∘wW;refine cK (b6c a s A _ _ hm hs gI D) ?_;rintro v E G ⟨b6,aA,rfl,N,V,aQ,b7,rfl,rfl⟩;refine aG iR ?_;apply(G7);intro kL;apply i3∘zG;refine vF (A:=[_]) (aR:=1) [] bI bH N lQ ?_;apply(HR);refine vF (A:=[_]) (aR:=1) [] bI bH V lQ ?_;apply(HR);have jR:∀r∈R,aH r (cZ aA.U::cZ b6.U::R):=λr M=>aM EZ;have aDE:Rd ⟨b6.U,aA.U⟩ (cZ aA.U::cZ b6.U::R):=⟨aM (.tail _ (.head _)),aM (.head _)⟩;have aTh:=UJ.mono jR;apply p8∘mT;apply(W)<;>intro b2;·
  apply cO∘wW∘oC;refine cK (b6x a s ⟨b6.U,aA.U⟩ A _ _ (IY hm jR) (PV hs jR) aDE gI) ?_;rintro v E G ⟨p,S,rfl,iB,eB,rfl,rfl⟩;apply jS∘z1;refine lJ (E:=p.L 90 a9.cells++L) (G:=R) B8 ?hp ?c2 ?bD;case hp=>exact aYK
  case c2=>exact a2
  case bD=>exact λr h=>aM (by simp[h])
 apply eR∘z3∘EL;rintro v E G ⟨QZ,rfl,rfl,K2⟩;replace K2:=K2.symm;subst K2;apply(KJ);refine mJ (XA (f:=a9.cells) (x:=⟨0,0⟩) rfl _) ?_;apply eK∘eP∘r9;refine c7 [(9,.slice _ _ _),(40,.slice _ _ _),(41,.int _ _),(42,.int _ _)] bP λeZ=>?_;refine kO ([10,11]++b4 42 13) ((⟨λg=>[(42,.int .i64 ((g.1.1:Nat):Int))],λg=>(⟨.own QZ a.Y.aD.l.length [],g.1.2⟩:J a9).L 90 a9.cells++(⟨kL,[b6.val,aA.val],214⟩::⟨dG,s.cells,80⟩::⟨cS,a.cells,32⟩::L),λ_=>cZ aA.U::cZ b6.U::R,λg=>a.Y.aD.l.length-g.1.1⟩:dV {g:Nat×List a9//g.1<=a.Y.aD.l.length/\YU a g.1 g.2})) (⟨(0,List.replicate a.Y.aD.l.length ⟨0,0⟩),by dsimp only;omega,⟨by simp,λj aY=>by omega,λj _ aY=>by rw[R1,if_pos aY]⟩⟩) ?_;rintro⟨⟨k,l⟩,s4,fT⟩ bZ;try dsimp only
 dsimp only at s4 fT;have pK:=fT.len;have a1I:(⟨.own QZ a.Y.aD.l.length [],l⟩:J a9).ok 2 a9.cells:=by have:=JL a9.cells 2 QZ a.Y.aD.l.length ⟨0,0⟩ bI;exact J.oZ bI this a22
 apply(h2);apply(W)<;>intro dZ;·
  have UP:=bJ a.Y.aD.l k default;have xQ:=fT.YE k (g4 _) D;apply pR∘aJg∘WQ;intro FL;apply dE∘CL∘oW;apply(W)<;>intro dX;·(have I9:kY=vI a k:=by rw[vI,if_neg Qp]);apply(yH);refine cC rfl (SS _ _) ?_;refine aG (h4 O ((⟨.own QZ a.Y.aD.l.length [],l⟩:J a9)) _ rfl rfl ((show _=Value.slice _ _ _ from rfl).trans (v4 pK)) rfl bC (i:=k) cW iC) ?_;refine i4 (SV O ((⟨.own QZ a.Y.aD.l.length [],l⟩:J a9)) (kY) rfl rfl rfl rfl c0 bC bI bC (LM rfl) aE aE) ?_;rintro v E G ⟨rfl,rfl⟩;apply(wB);exact dU ⟨(k+1,l.set k kY),by dsimp only;omega,fT.next D I9⟩
  have I9:(⟨0,0⟩:a9)=vI a k:=by rw[vI,if_pos Qp]
  apply(n6);exact dU ⟨(k+1,l),by dsimp only;omega,fT.EQ D I9⟩
 obtain rfl:k=a.Y.aD.l.length:=by omega
 apply S5∘jS∘q3;refine lJ (E:=(⟨.own QZ a.Y.aD.l.length [],l⟩:J a9).L 90 a9.cells++L) (G:=R) B8 ?hp ?c2 ?bD;case hp=>
  have ha:tA a s A=(0,(List.range a.Y.aD.l.length).map (vI a)):=by rw[tA,if_neg aO,if_neg C9,if_neg b2]
  exact⟨(⟨.own QZ a.Y.aD.l.length [],l⟩:J a9),by rw[ha];simp only[J.val,gZ.oM,gZ.cap,pK],a1I,by rw[ha];exact fT.done,rfl,rfl⟩
 case c2=>exact a2
 case bD=>exact λr h=>aM (by simp[h])
def b7j(a:bR)(s:cE)(A:List Bool)(L:aP)(R:aJ)(hm:nT a R)(hs:o2 s R)(gI:hO a=0->lS a.Y A):
 aI prog 130 [a.val,s.val].toArray L R (λw E G=>∃p:J a9,w=.tuple #[p.val,.int .i64 (tA a s A).1]/\p.ok 2 a9.cells/\p.l=(tA a s A).2/\p.L 90 a9.cells++L=E/\R=G):=by
 have UJ:=hm.aD;refine bW 56 call130 func130 ?_;apply(c8);intro cS;apply(iU);intro dG;apply jS∘g7∘sD;refine cC rfl (Yu a _ _ hm) ?_;apply(kB);apply(W)<;>intro aO;·exact aX2
 have bQ:hO a=0:=by omega
 have hok:=zE bQ;have q9:=hok.Y.places;have OX:=hok.Y.aD;apply iK∘wW;refine cC rfl (aBJ a s _ _ hm hs) ?_;apply(oW);apply(W)<;>intro bF;·
  apply TD∘z1;refine bN L R B8 ?_;have w4:lL a s=false:=by simpa[SB,bQ]using bF
  exact⟨J.nil,by rw[tA,if_neg aO,if_pos w4];rfl,J.g6,by rw[tA,if_neg aO,if_pos w4],by rw[lT,m0],rfl⟩
 have vN:lL a s=true:=by simpa[SB,bQ]using bF
 have C9:¬lL a s=false:=by rw[vN];decide
 apply eR∘wW;refine cK (b8u a s A _ _ hm hs gI D) ?_;rintro v E G ⟨b6,aA,rfl,N,V,aQ,b7,rfl,rfl⟩;refine aG iR ?_;apply(G7);intro kL;apply i3∘OD;refine vF (A:=[_]) (aR:=1) [] bI bH N lQ ?_;apply(HR);refine vF (A:=[_]) (aR:=1) [] bI bH V lQ ?_;apply(HR);have jR:∀r∈R,aH r (cZ aA.U::cZ b6.U::R):=λr M=>aM EZ;have aDE:Rd ⟨b6.U,aA.U⟩ (cZ aA.U::cZ b6.U::R):=⟨aM (.tail _ (.head _)),aM (.head _)⟩;have aTh:=UJ.mono jR;apply p8∘mT;apply(W)<;>intro b2;·
  apply cO∘wW∘oC;refine cK (b9N a s ⟨b6.U,aA.U⟩ A _ _ (IY hm jR) (PV hs jR) aDE gI) ?_;rintro v E G ⟨p,rfl,iB,eB,rfl,rfl⟩;apply jS∘z1;refine lJ (E:=p.L 90 a9.cells++L) (G:=R) B8 ?hp ?c2 ?bD;case hp=>exact aYK
  case c2=>exact a2
  case bD=>exact λr h=>aM (by simp[h])
 apply eR∘WN;refine c7 [(2,.pointer _),(9,.slice _ _ _),(10,.int _ _)] bP λeZ=>?_;refine mC ([9,10,11]++b4 33 22) ((⟨λg=>[(10,.int .i64 ((g.1.1:Nat):Int)),(9,g.1.2.val)],λg=>g.1.2.L 90 a9.cells++(⟨kL,[b6.val,aA.val],214⟩::⟨dG,s.cells,80⟩::⟨cS,a.cells,32⟩::L),λ_=>cZ aA.U::cZ b6.U::R,λg=>a.Y.aD.l.length-g.1.1⟩:dV {g:Nat×J a9//g.1<=a.Y.aD.l.length/\g.2.ok 2 a9.cells/\g.2.l=(List.range g.1).map (vI a)})) (⟨(0,J.nil),by dsimp only;omega,J.g6,rfl⟩) bP DP fF ?_;rintro⟨⟨k,q⟩,s4,fT,mZ⟩ bZ;try dsimp only
 dsimp only at s4 fT mZ;have gB:q.l.length=k:=by rw[mZ];simp
 apply A7∘eP∘Ey;apply(W)<;>intro dZ;·
  have UP:=bJ a.Y.aD.l k default;apply j7∘a78∘dA;intro FL;apply rQ∘FD∘aJg∘sW∘oW;apply(W)<;>intro dX;·(have I9:vI a k=kY:=by rw[vI,if_neg Qp]);apply(eK);refine cC rfl JV ?_;apply(i3);refine eI (aZ (cR ?_));exact aYd
  have I9:vI a k=⟨0,0⟩:=by rw[vI,if_pos Qp]
  refine dK (aZ (cR ?_));exact aYd
 obtain rfl:k=a.Y.aD.l.length:=by omega
 apply S5∘jS∘q3;refine lJ (E:=q.L 90 a9.cells++L) (G:=R) B8 ?hp ?c2 ?bD;case hp=>
  have ha:tA a s A=(0,(List.range a.Y.aD.l.length).map (vI a)):=by rw[tA,if_neg aO,if_neg C9,if_neg b2]
  exact⟨q,by rw[ha];rfl,fT,by rw[ha];exact mZ,rfl,rfl⟩
 case c2=>exact a2
 case bD=>exact λr h=>aM (by simp[h])
def IZ(x:a9):Int:=if x.bO<x.bG then 0 else if 0<x.bG then 1 else if x.bO<0 then -1 else 0
def b4Z(x:a9)(L:aP)(R:aJ):
 aI prog 48 [x.val].toArray L R (λv E G=>v=.int .i64 (IZ x)/\L=E/\R=G):=by
 refine bW 17 call48 func48 ?_;apply(c8);intro gK;apply(dE);refine eI (aZ (a6 (e3 (a6 (cR ?_)))));apply kJ∘F6∘zF;apply(W)<;>intro aO;·apply(A8);exact aXP
 apply cO∘Lc∘zF;apply(W)<;>intro bF;·apply(A8);exact aXc
 apply cO∘aOG∘zF;apply(W)<;>intro b2;·apply(A8);exact aXt
 refine dK (gV (aZ (a6 (cR ?_))));apply(q3);exact aXv
def b2p(x:a9)(L:aP)(R:aJ):
 aI prog 302 [x.val].toArray L R (λv E G=>v=.int .i64 (IZ x)/\L=E/\R=G):=by
 refine bW 14 call302 func302 ?_;apply(c8);intro gK;apply g7∘kJ∘BA;apply(W)<;>intro aO;·apply(m1);exact aXP
 apply iK∘Lc∘b3;apply(W)<;>intro bF;·apply(m1);exact aXc
 apply GW∘D1;apply(W)<;>intro b2;·apply(m1);exact aXt
 apply(S3);exact aXv
end
section
variable{a:bR}{s:cE}{A:List Bool}{l m:List Int}{k:Nat}{v:Int}
def aKH(bQ:qY l)(h:DV a s true l k=some v):l.getD k 0<=v/\0<=BH a s (l.set k v) (k:Int)/\∀w,l.getD k 0<=w->w<v->BH a s (l.set k w) (k:Int)<0:=by
 obtain⟨d,XC,d1,aDm,a0T,a0U⟩:=(aBC (Zt (bQ.get k)).1 h).DO rfl;have e:∀x,ZL a s true l (k:Int) x=H7 a s l (k:Int) x:=λx=>by rw[ZL,if_pos rfl]
 rw[e,decide_eq_true_eq,vY]at a0T;have FP:m7 true=1:=rfl;rw[FP]at aDm a0U;refine⟨by omega,a0T,λw s4 fT=>?_⟩;have:=a0U (w-l.getD k 0) D D;rw[show l.getD k 0+1*(w-l.getD k 0)=w by omega,e,decide_eq_false_iff_not,vY]at this;omega
def aQE(bQ:qY l)(h:DV a s false l k=some v):v<=l.getD k 0/\BD a s (l.set k v) (k:Int)<=0/\∀w,w<=l.getD k 0->v<w->0<BD a s (l.set k w) (k:Int):=by
 obtain⟨d,XC,d1,aDm,a0T,a0U⟩:=(aBC (Zt (bQ.get k)).1 h).DO rfl;have e:∀x,ZL a s false l (k:Int) x=II a s l (k:Int) x:=λx=>by rw[ZL,if_neg bH]
 rw[e,decide_eq_true_eq,vY]at a0T;have FP:m7 false= -1:=rfl;rw[FP]at aDm a0U;refine⟨by omega,a0T,λw s4 fT=>?_⟩;have:=a0U (l.getD k 0-w) D D;rw[show l.getD k 0+ -1*(l.getD k 0-w)=w by omega,e,decide_eq_false_iff_not,vY]at this;omega
end
def aCe{a:bR}{s:cE}{A:List Bool}{up:Bool}{l:List Int}: ∀{n:Nat} {m:List Int},wY a s A up l n=some m->∀k,k<=n->∃mk,wY a s A up l k=some mk/\∀j:Nat,j<k->m[j]? =mk[j]?
 |0,m,h,k,hk=>by
  obtain rfl:k=0:=by omega
  exact⟨m,h,λj aY=>by omega⟩
 |n+1,m,h,k,hk=>by
  rcases gY n k with N|N
  ·obtain rfl:k=n+1:=by omega
   exact⟨m,h,λ_ _=>rfl⟩
  ·have cN:=h
   rw[wY,a2J]at cN
   obtain⟨RR,dY,eY⟩:=cN
   obtain⟨mk,iA,iN⟩:=aCe dY k N
   refine⟨mk,iA,λj aY=>?_⟩
   rw[<-iN j aY]
   split at eY
   ·cases eY;rfl
   ·obtain⟨v,_,rfl⟩:=Option.map_eq_some_iff.1 eY
    rw[JR D]
def b4R{a:bR}{s:cE}{A:List Bool}{up:Bool}{l:List Int}(hl:qY l)(hn:l.length=a.Y.places.l.length)(h:wY a s A up l a.Y.places.l.length=some l){k:Nat}(hk:k<a.Y.places.l.length)(hf:¬wD a A k=true):DV a s up l k=some (l.getD k 0):=by
 obtain⟨RR,dY,eY⟩:=aCe h (k+1) D;have a6t:=dY;rw[wY,a2J]at a6t;obtain⟨xZ,iA,iN⟩:=a6t;obtain⟨bKD,u1,q7⟩:=aCe h k D;rw[iA]at u1;cases u1;have dW:=Yq hl iA;have em:xZ=l:=R2 λj=>by
  rcases gY j k with N|N;·exact(q7 j N).symm
  ·exact dW.aB j N
 subst em;rw[if_neg hf]at iN;obtain⟨v,hv,rfl⟩:=Option.map_eq_some_iff.1 iN;have:=eY k D;rw[tQ D,bJ xZ k 0]at this;rw[hv,y2 this]
structure Ef(a:bR)(A:List Bool)(up:Bool)(l m:List Int):Prop where
 len:m.length=l.length
 le:∀j:Nat,if up=true then l.getD j 0<=m.getD j 0 else m.getD j 0<=l.getD j 0
 fix:∀j:Nat,wD a A j=true->m.getD j 0=l.getD j 0
def Ef.refl{a:bR}{A:List Bool}{up:Bool}{l:List Int}:Ef a A up l l:=⟨rfl,λj=>by split<;>exact oE _,λ_ _=>rfl⟩
def Ef.trans{a:bR}{A:List Bool}{up:Bool}{l m n:List Int}(h:Ef a A up l m)(k:Ef a A up m n):Ef a A up l n:=by
 refine⟨k.len.trans h.len,λj=>?_,λj aY=>(k.fix j aY).trans (h.fix j aY)⟩;have N:=h.le j;have V:=k.le j;split at N;·rename_i e;rw[if_pos e]at V;rw[if_pos e];omega
 ·rename_i e;rw[if_neg e]at V;rw[if_neg e];omega
def aKz{a:bR}{s:cE}{A:List Bool}{up:Bool}{l:List Int}(hl:qY l): ∀{n:Nat} {m:List Int},n<=l.length->wY a s A up l n=some m->Ef a A up l m
 |0,m,_,h=>by cases h;exact .refl
 |n+1,m,hn,h=>by
  have cN:=h
  rw[wY,a2J]at cN
  obtain⟨xZ,dY,eY⟩:=cN
  have cM:=aKz hl D dY
  have dW:=Yq hl dY
  have rU:=dW.len
  split at eY
  ·cases eY;exact cM
  ·rename_i hf
   obtain⟨v,hv,rfl⟩:=Option.map_eq_some_iff.1 eY
   refine cM.trans ⟨by simp,λj=>?_,λj aY=>?_⟩
   ·rw[Sr D]
    cases up with
    |true=>
     have:=(aKH dW.bY hv).1
     simp only[if_true]
     split
     ·rename_i e;subst e;exact this
     ·exact oE _
    |false=>
     have:=(aQE dW.bY hv).1
     simp only[Bool.false_eq_true,if_false]
     split
     ·rename_i e;subst e;exact this
     ·exact oE _
   ·rw[Sr D,if_neg (λe=>hf (by rw[<-e];exact aY))]
def a9Z{a:bR}{s:cE}{A:List Bool}{up:Bool}: ∀{n:Nat} {l m:List Int},qY l->l.length=a.Y.places.l.length->wU a s A up n l=some m->Ef a A up l m
 |0,l,m,_,_,h=>by cases h
 |n+1,l,m,hl,hn,h=>by
  rw[wU]at h
  split at h
  ·cases h
  ·rename_i RR N
   have hs:=Yq hl N
   have hm:=aKz hl D N
   split at h
   ·cases h;exact hm
   ·exact hm.trans (a9Z hs.bY (hs.len.trans hn) h)
def aKi{a:bR}{s:cE}{A:List Bool}{n:Nat}{l m:List Int}{up:Bool}(hl:qY l)(hn:l.length=a.Y.places.l.length)(h:wU a s A up n l=some m){k:Nat}(hk:k<a.Y.places.l.length)(hf:¬wD a A k=true):
 if up=true then 0<=BH a s m (k:Int)else BD a s m (k:Int)<=0:=by
 obtain⟨N,V,aQ⟩:=aAq hl h;have K:=b4R V (N.trans hn) aQ hk hf;cases up with
 |true=>have:=(aKH V K).2.1;rw[Kr]at this;exact NI
 |false=>have:=(aQE V K).2.1;rw[Kr]at this;exact NI
def aAs{a:bR}{s:cE}{A:List Bool}{up:Bool}{ps:List Int}(h:ZF a s ps A):(i5 a s A up ps).1=0\/(i5 a s A up ps).1=2:=by rw[i5,if_neg (by rw[a5c.2 h];decide)];exact aHT
def ZF.aG5{a:bR}{s:cE}{A:List Bool}{up:Bool}{l:List Int}(h:ZF a s l A){n:Nat}{m:List Int}(hm:wU a s A up n l=some m):ZF a s m A:=by obtain⟨N,V,_⟩:=aAq h.hp hm;have aQ:=a9Z h.hp h.hl hm;exact⟨h.bQ,h.hf,N.trans h.hl,V,λi aA hf=>(aQ.fix i hf).trans (h.fix i aA hf)⟩
def b9w{a:bR}{s:cE}{A:List Bool}(bQ:hO a=0)(hf:lL a s=true):ZF a s (List.replicate a.Y.places.l.length 0) A:=by
 refine⟨bQ,hf,by simp,λp hp=>?_,λi aA _=>?_⟩;·rw[(List.mem_replicate.1 hp).2];decide
 ·rw[iW,R1];split<;>rfl
structure aAH(a:bR)(s:cE)(A:List Bool)(b6 aA:List Int):Prop where
 a2n:ZF a s b6 A
 hok:ZF a s aA A
 le:∀i:Nat,b6.getD i 0<=aA.getD i 0
 bG:∀i:Nat,i<a.Y.places.l.length->¬wD a A i=true->BD a s b6 (i:Int)<=0
 bO:∀i:Nat,i<a.Y.places.l.length->¬wD a A i=true->0<=BH a s aA (i:Int)
def b2l{a:bR}{s:cE}{A:List Bool}(bQ:hO a=0)(hf:lL a s=true):((sX a s A).1=0/\aAH a s A (sX a s A).2.1 (sX a s A).2.2)\/(sX a s A).1=2:=by
 have aVi:=b9w (A:=A) bQ hf;rw[sX];dsimp only;rcases aAs (up:=false) aVi with dY|dY;·
  rw[if_neg D];obtain⟨_,k8⟩:=aB1 dY;have a8c:=aVi.aG5 k8;rcases aAs (up:=true) a8c with eY|eY;·
   rw[if_neg D];obtain⟨_,lH⟩:=aB1 eY;have Pv:=a8c.aG5 lH;rcases aAs (up:=false) Pv with nV|nV;·
    rw[if_neg D];obtain⟨_,rE⟩:=aB1 nV;have bGF:=Pv.aG5 rE;left;refine⟨rfl,bGF,Pv,λi=>?_,λi aA hn=>?_,λi aA hn=>?_⟩;·have:=(a9Z Pv.hp Pv.hl rE).le i;exact NI
    ·have:=aKi Pv.hp Pv.hl rE aA hn;exact NI
    ·have:=aKi a8c.hp a8c.hl lH aA hn;exact NI
   ·rw[if_pos D];exact .inr nV
  ·rw[if_pos D];exact .inr eY
 ·rw[if_pos D];exact .inr dY
def aAH.b95{a:bR}{s:cE}{A:List Bool}{b6 aA:List Int}(h:aAH a s A b6 aA){b:sV}(dY:b.bG.l=b6)(eY:b.bO.l=aA):a3A a s b A:=by
 refine⟨⟨h.a2n.bQ,h.a2n.hf,by rw[dY];exact h.a2n.hl,by rw[eY];exact h.hok.hl,by rw[dY];exact h.a2n.hp,by rw[eY];exact h.hok.hp⟩,λi K7 hf=>?_,λi K7 hf=>?_⟩;·rw[dY,eY];exact⟨h.a2n.fix i K7 hf,h.hok.fix i K7 hf⟩
 ·rw[dY,eY];exact⟨h.bO i K7 hf,h.bG i K7 hf⟩
def b1Q(l:List a9):Prop:=∀k:Nat,(-1125899906842624<=(l.getD k default).bG/\(l.getD k default).bG<=1125899906842624)/\(-1125899906842624<=(l.getD k default).bO/\(l.getD k default).bO<=1125899906842624)
def b6w{a:bR}{s:cE}{b:sV}{A:List Bool}(ha:rH a){k:Nat}(hk:k<a.Y.aD.l.length):
 (-1125899906842624<=(s9 a s b A k).bG/\(s9 a s b A k).bG<=1125899906842624)/\(-1125899906842624<=(s9 a s b A k).bO/\(s9 a s b A k).bO<=1125899906842624):=by
 rw[s9];split;·exact NJ
 split;·
  have N:=λp=>(ZQ (s:=s) ha).vK k hk p;have V:=λp=>(Y5 (s:=s) ha).vK k hk p;dsimp only;exact⟨⟨by have:=N (b.bG.l.getD (a.Y.aD.l.getD k default).bK.toNat 0-b.bO.l.getD (a.Y.aD.l.getD k default).to.toNat 0);omega,by have:=N (b.bG.l.getD (a.Y.aD.l.getD k default).bK.toNat 0-b.bO.l.getD (a.Y.aD.l.getD k default).to.toNat 0);omega⟩,
   ⟨by have:=V (b.bO.l.getD (a.Y.aD.l.getD k default).bK.toNat 0-b.bG.l.getD (a.Y.aD.l.getD k default).to.toNat 0);omega,by have:=V (b.bO.l.getD (a.Y.aD.l.getD k default).bK.toNat 0-b.bG.l.getD (a.Y.aD.l.getD k default).to.toNat 0);omega⟩⟩
 ·simp only[kY];omega
def b6Z(a:bR)(k:Nat):vI a k=⟨0,0⟩\/vI a k=kY:=by
 rw[vI];split;·exact .inl rfl
 ·exact .inr rfl
def a9y{a:bR}{s:cE}{A:List Bool}(bQ:hO a=0)(hf:lL a s=true)(gI:lS a.Y A):
 (tA a s A).1=0/\((a3A a s (ZG a s A) A/\(∀i:Nat,(ZG a s A).bG.l.getD i 0<=(ZG a s A).bO.l.getD i 0)/\(tA a s A).2=(List.range a.Y.aD.l.length).map (s9 a s (ZG a s A) A))\/(tA a s A).2=(List.range a.Y.aD.l.length).map (vI a)):=by
 have BP:¬lL a s=false:=by rw[hf];decide
 rw[tA,if_neg (by rw[bQ];decide),if_neg BP];rcases b2l (A:=A) bQ hf with h|h;·have a6P:a3A a s (ZG a s A) A:=h.2.b95 rfl rfl;rw[if_pos h.1,GR,if_pos (b9i.2 a6P)];exact⟨rfl,.inl ⟨a6P,h.2.le,rfl⟩⟩
 ·rw[if_neg (by rw[h];decide)];exact⟨rfl,.inr rfl⟩
def a4s{a:bR}{s:cE}{A:List Bool}(bQ:hO a=0)(hf:lL a s=true)(gI:lS a.Y A):(tA a s A).2.length=a.Y.aD.l.length:=by rcases(a9y bQ hf gI).2 with⟨_,_,e⟩|e<;>rw[e]<;>simp
def b9a{a:bR}{s:cE}{A:List Bool}(bQ:hO a=0)(hf:lL a s=true)(gI:lS a.Y A):b1Q (tA a s A).2:=λk=>by
 have hl:=a4s bQ hf gI
 have ha:=zE bQ
 rcases gY k a.Y.aD.l.length with hk|hk
 ·rcases(a9y bQ hf gI).2 with⟨_,_,e⟩|e
  ·rw[e,iW,pF,LN hk]
   exact b6w ha hk
  ·rw[e,iW,pF,LN hk]
   show(-1125899906842624<=(vI a k).bG/\(vI a k).bG<=1125899906842624)/\(-1125899906842624<=(vI a k).bO/\(vI a k).bO<=1125899906842624)
   rcases b6Z a k with e|e<;>rw[e]<;>simp[kY]
 ·rw[iW,sJ D]
  exact⟨⟨by decide,by decide⟩,by decide,by decide⟩
section
attribute [local irreducible] cH c6 dP aI cJ eD e9 e0 e1 e5 eS e8 J.L
abbrev s3(x:a0 a9):fG:=x.fI 2 a9.cells []
def b36(x y:a0 a9)(L:aP)(R:aJ)(K:aH (s3 x) R)(aN:aH (s3 y) R)(X:x.l=y.l):
 aI prog 57 [x.val,y.val].toArray L R (λv E G=>v=.bool true/\L=E/\R=G):=by
 have HJ:x.l.length=y.l.length:=by rw[X]
 refine nN call57 K λOZ=>?_;refine bW 26 call57 func57 ?_;apply TM∘nO∘nO∘qP;apply(W)<;>intro aO;·apply(OA);refine lG L R ?_;exact absurd aO D
 apply(zH);refine c7 [(0,.slice _ _ _),(1,.slice _ _ _),(5,.int _ _)] bP λeZ=>?_;refine gP ([4,5]++b4 11 15) (λg:{k:Nat//k<=x.l.length}=>[(5,.int .i64 ((g.1:Nat):Int))]) (λg=>x.l.length-g.1) (⟨0,by omega⟩) ?_;rintro⟨k,hk⟩ bZ;try dsimp only
 apply(uA);apply(W)<;>intro bF;·
  have N:=bJ x.l k default;have V:=bJ y.l k default;rw[<-X]at V;rw[X]at V;refine dK (aZ (a6 (e3 (a6 ?_))));refine gJ O [0,1,2,3,4,5,6,7,8] _ cX bE g3 ?_;refine a4 oG ?_;apply FF∘YH;refine a4 oG ?_;apply FF∘YH;refine a4 (aBQ Kx rfl rfl) ?_;apply(vW);apply(W)<;>intro b2;·apply(FC);refine lG L R ?_;exact absurd b2 (by rw[X];simp)
  exact a8Z
 exact Jt
def Sm(h:A->B:=by exact gO (j2 (f:=aL) (a:=_) O rfl rfl rfl rfl (fT) c0 j8 rfl kH) rfl):=h
def aCL(h:A->B:=by exact(a4 oG ·)):=h
def aLZ(h:A->B:=by exact(aG qH ·)):=h
def aKS(h:A->B:=by exact(a4 aI1 ·)):=h
structure IL where
 b9:Int
 BZ:Int
 deriving Inhabited
def IL.cells(s:IL):List Value:=[.int .i64 s.b9,.int .i64 s.BZ]
abbrev a9z(x:a0 IL):fG:=x.fI 2 IL.cells []
structure QM{aV:Type}(n:Nat)(z:aV)(g:Nat->aV)(i:Nat)(l:List aV):Prop where
 len:l.length=n
 TX:∀j:Nat,j<i->l[j]?=some (g j)
 YE:∀j:Nat,i<=j->j<n->l[j]?=some z
def QM.zero{aV:Type}{n:Nat}{z:aV}{g:Nat->aV}:QM n z g 0 (List.replicate n z):=⟨by simp,λj aY=>by omega,λj _ aY=>by rw[R1,if_pos aY]⟩
def QM.next{aV:Type}{n:Nat}{z:aV}{g:Nat->aV}{i:Nat}{l:List aV}(h:QM n z g i l)(aA:i<n){x:aV}(K:x=g i):QM n z g (i+1) (l.set i x):=by exact aVs
def QM.EQ{aV:Type}{n:Nat}{z:aV}{g:Nat->aV}{i:Nat}{l:List aV}(h:QM n z g i l)(aA:i<n)(K:z=g i):QM n z g (i+1) l:=by exact aWB
def QM.done{aV:Type}{n:Nat}{z:aV}{g:Nat->aV}{l:List aV}(h:QM n z g n l):l=(List.range n).map g:=by
 have hl:=h.len;refine R2 λj=>?_;rcases gY j n with aY|aY;·rw[h.TX j aY,pF,LN aY];rfl
 ·rw[sJ D,sJ B6]
def HB(x:a9)(BZ:Int):Int:=
 if x.bO<x.bG then 0 else if(BZ<=0\/BZ<=x.bG)\/x.bO<= -BZ then 1 else if -BZ<x.bG/\x.bO<BZ then -1 else 0
def rJ(Z:List a9)(f:IL):Int:=if 0<=f.b9/\f.b9<Z.length then HB (Z.getD f.b9.toNat default) f.BZ else 0
def a9D(Z:List a9)(nE:List IL):List Int:=(List.range nE.length).map λk=>rJ Z (nE.getD k default)
def aMK(nE:List IL):Prop:=∀f∈nE,-4611686018427387904<=f.BZ/\f.BZ<=4611686018427387904
def b5k(x:a9)(BZ:Int)(L:aP)(R:aJ)(hn:-4611686018427387904<=BZ/\BZ<=4611686018427387904):
 aI prog 275 [x.val,.int .i64 BZ].toArray L R (λv E G=>v=.int .i64 (HB x BZ)/\L=E/\R=G):=by
 refine bW 39 call275 func275 ?_;apply(c8);intro cS;apply(dE);refine eI (aZ (a6 (e3 (a6 (cR ?_)))));apply kJ∘F6∘zF;apply(W)<;>intro aO;·apply(A8);refine dC L R ?_;exact⟨by rw[HB,if_pos aO],rfl,rfl⟩
 apply yF∘Cl∘c9;apply cB (aC:=[_,_,_,_]) (j:=2) (a7:=14) rfl rfl aE rfl aW rfl;·intro fD;replace fD:=a8 fD;exact(gE) PP
 intro mY;apply(c9);apply cB (aC:=[_,_,_,_,_]) (j:=8) (a7:=20) rfl rfl aE rfl aW rfl;·intro gM;replace gM:=a8 gM;exact(gE∘x3) VP
 intro wJ;apply(zF);apply(W)<;>intro bF;·apply(A8);refine dC L R ?_;exact⟨by rw[HB,if_neg D,if_pos D],rfl,rfl⟩
 apply cO∘gE∘x3∘F6∘c9;apply iZ (aC:=[_,_,_,_]) (j:=5) (a7:=33) rfl rfl aE rfl aW rfl;·intro k5;replace k5:=a8 k5;exact(gE) GD
 intro Ce;apply(zF);apply(W)<;>intro b2;·apply(A8);refine dC L R ?_;exact⟨by rw[HB,if_neg D,if_neg D,if_pos D],rfl,rfl⟩
 refine dK (gV (aZ (a6 (cR ?_))));apply(q3);refine dC L R ?_;exact⟨by rw[HB,if_neg D,if_neg D,if_neg D],rfl,rfl⟩
def b7S(Z:a0 a9)(nE:a0 IL)(L:aP)(R:aJ)(fW:aH (s3 Z) R)(a6W:aH (a9z nE) R)(hn:aMK nE.l)(rU:nE.l.length<=1000)(aE0:Z.l.length<=1000):
 aI prog 232 [Z.val,nE.val].toArray L R (λw E G=>∃p:J Int,w=p.val/\p.ok 1 aL/\p.l=a9D Z.l nE.l/\p.L 3 aL++L=E/\R=G):=by
 refine bW 41 call232 func232 ?_;apply cO∘vG∘nO∘EL;rintro v E G ⟨jE,rfl,rfl,T4⟩;replace T4:=T4.symm;subst T4;apply(KJ);refine mJ (XA (f:=aL) (x:=0) rfl _) ?_;apply eK∘D2;refine c7 [(0,.slice _ _ _),(5,.slice _ _ _),(11,.slice _ _ _),(12,.int _ _),(13,.int _ _)] bP λeZ=>?_;refine kO ([6,7]++b4 13 27) ((⟨λg=>[(13,.int .i64 ((g.1.1:Nat):Int))],λg=>(⟨.own jE nE.l.length [],g.1.2⟩:J Int).L 3 aL++L,λ_=>R,λg=>nE.l.length-g.1.1⟩:dV {g:Nat×List Int//g.1<=nE.l.length/\QM nE.l.length 0 (λk=>rJ Z.l (nE.l.getD k default)) g.1 g.2})) (⟨(0,List.replicate nE.l.length 0),by dsimp only;omega,.zero⟩) ?_;rintro⟨⟨k,l⟩,s4,fT⟩ bZ;try dsimp only
 dsimp only at s4 fT;have pK:=fT.len;have a1I:(⟨.own jE nE.l.length [],l⟩:J Int).ok 1 aL:=by have:=JL aL 1 jE nE.l.length 0 CG;exact J.oZ CG this a22
 apply(h2);apply(W)<;>intro aO;·
  have OV:=bJ nE.l k default;have xQ:=fT.YE k (g4 _) D;have u5:=hn _ (gU OV);obtain⟨f,hf⟩:∃f,f=nE.l.getD k default:=⟨_,rfl⟩;rw[<-hf]at OV u5;apply pR∘aLZ∘OI;intro kL;apply dE∘CL∘DL∘c9;apply iZ (aC:=[_,_,_,_,_]) (j:=3) (a7:=21) rfl rfl aE rfl aW rfl;·intro eN;replace eN:=a8 eN;exact(fH∘nO) GD
  intro iG;apply(b3);apply(W)<;>intro bF;·have xS:=bJ Z.l f.b9.toNat default;(have aE3:HB (Z.l.getD f.b9.toNat default) f.BZ=(λk=>rJ Z.l (nE.l.getD k default)) k:=by dsimp only;rw[<-hf,rJ,if_pos D]);refine hF O [] [0,1,2,3,4,5,6,7,8,9,10] [11] ([a5.mk kL _ _]) _ cX bE a2 dT ?_;apply G2∘QP;refine eO aI1 ?_;apply aHr∘l1;refine k2 rfl (b5k (Z.l.getD f.b9.toNat default) f.BZ _ _ u5) rfl rfl ?_;rintro v E G ⟨rfl,rfl,rfl⟩;refine⟨a2,gN,?_⟩;refine eO (h4 O ((⟨.own jE nE.l.length [],l⟩:J Int)) _ rfl rfl ((show _=Value.slice _ _ _ from rfl).trans (v4 pK)) rfl bC (i:=k) cW iC) ?_;apply(x1);refine GO (jL O ((⟨.own jE nE.l.length [],l⟩:J Int)) (HB (Z.l.getD f.b9.toNat default) f.BZ) rfl rfl rfl rfl c0 bC bI bC bH aE aE) rfl rfl ?_;rintro v E G ⟨rfl,rfl⟩;apply fS∘TL;exact dU ⟨(k+1,l.set k (HB (Z.l.getD f.b9.toNat default) f.BZ)),by dsimp only;omega,fT.next D aE3⟩
  have aE3:(0:Int)=(λk=>rJ Z.l (nE.l.getD k default)) k:=by dsimp only;rw[<-hf,rJ,if_neg D]
  apply(n6);exact dU ⟨(k+1,l),by dsimp only;omega,fT.EQ D aE3⟩
 obtain rfl:k=nE.l.length:=by omega
 apply(TG);refine bN ((⟨.own jE nE.l.length [],l⟩:J Int).L 3 aL++L) R vD ?_;exact⟨(⟨.own jE nE.l.length [],l⟩:J Int),by simp only[J.val,gZ.oM,gZ.cap,pK],a1I,fT.done,rfl,rfl⟩
def b43(Z:a0 a9)(nE:a0 IL)(L:aP)(R:aJ)(fW:aH (s3 Z) R)(a6W:aH (a9z nE) R)(hn:aMK nE.l)(rU:nE.l.length<=1000)(aE0:Z.l.length<=1000):
 aI prog 298 [Z.val,nE.val].toArray L R (λw E G=>∃p:J Int,w=p.val/\p.ok 1 aL/\p.l=a9D Z.l nE.l/\p.L 3 aL++L=E/\R=G):=by
 refine bW 86 call298 func298 ?_;apply cO∘vG∘WN;refine c7 [(0,.slice _ _ _),(1,.slice _ _ _),(5,.slice _ _ _),(6,.int _ _)] bP λeZ=>?_;refine mC (b4 5 80) ((⟨λg=>[(6,.int .i64 ((g.1.1:Nat):Int)),(5,g.1.2.val)],λg=>g.1.2.L 3 aL++L,λ_=>R,λg=>nE.l.length-g.1.1⟩:dV {g:Nat×J Int//g.1<=nE.l.length/\g.2.ok 1 aL/\g.2.l=(List.range g.1).map (λk=>rJ Z.l (nE.l.getD k default))})) (⟨(0,J.nil),by dsimp only;omega,J.g6,rfl⟩) bP DP fF ?_;rintro⟨⟨k,q⟩,s4,fT,mZ⟩ bZ;try dsimp only
 dsimp only at s4 fT mZ;have gB:q.l.length=k:=by rw[mZ];simp
 apply(uA);apply(W)<;>intro aO;·
  have OV:=bJ nE.l k default;have u5:=hn _ (gU OV);obtain⟨f,hf⟩:∃f,f=nE.l.getD k default:=⟨_,rfl⟩;rw[<-hf]at OV u5;apply j7∘h7∘aLZ∘OI;intro kL;apply rP∘OD;refine gJ O [0,1,2,3,4,5,6,7,8,9,10,11,12,13,14,15,16,17,18,19,20,21,22,23,24] ([a5.mk kL _ _]) cX bE a2 ?_;apply(iI);refine a4 JU ?_;apply(tN);refine l0 (k:=23) aW (λfD=>?_) (λfD=>?_);·
   replace fD:=a8 fD;apply iI∘aCL;refine a4 vZ ?_;refine a4 HY ?_;apply(mU);refine l0 (k:=30) aW (λnY=>?_) (λnY=>?_);·
    replace nY:=a8 nY;have xS:=bJ Z.l f.b9.toNat default;apply aCL∘iI∘aKS∘CJ∘aCL∘iI∘aKS∘CJ;refine a4 (a0K rfl rfl) ?_;apply(m2);apply(W)<;>intro bF;·
     apply cO∘BB;refine aG aI1 ?_;apply(OI);intro h8;apply CL∘Cl∘c9;apply cB (aC:=[_,_,_,_,_]) (j:=3) (a7:=53) rfl rfl aE rfl aW rfl;·intro eN;replace eN:=a8 eN;exact(kJ) PP
     intro iG;apply(c9);apply cB (aC:=[_,_,_,_,_,_]) (j:=10) (a7:=60) rfl rfl aE rfl aW rfl;·intro qS;replace qS:=a8 qS;exact(kJ∘x3) VP
     intro a7G;apply(b3);apply(W)<;>intro b2;·
      apply eK∘dE;refine eI (aZ (cR ?_));apply(WT);rintro v E G ⟨a0N,rfl,rfl,zK⟩;replace zK:=zK.symm;subst zK;apply(Sm);rintro v E G ⟨U1,rfl,UL,rfl,rfl⟩;apply(TB);exact oQ ⟨(k+1,(⟨U1,_⟩:J Int)),by dsimp only;omega,UL,by
      dsimp only;rw[LO,wP,mZ];refine congrArg (λz=>_++[z]) ?_;show _=rJ Z.l (nE.l.getD k default);rw[<-hf];simp only[rJ,HB];(repeat' split);all_goals omega⟩
     apply cO∘kJ∘x3∘F6∘c9;apply iZ (aC:=[_,_,_,_,_]) (j:=6) (a7:=74) rfl rfl aE rfl aW rfl;·intro kC;replace kC:=a8 kC;exact(kJ) GD
     intro JG;apply(b3);apply(W)<;>intro dZ;·
      apply eK∘dE;refine eI (aZ (cR ?_));apply(WT);rintro v E G ⟨a0N,rfl,rfl,zK⟩;replace zK:=zK.symm;subst zK;apply(Sm);rintro v E G ⟨U1,rfl,UL,rfl,rfl⟩;apply(TB);exact oQ ⟨(k+1,(⟨U1,_⟩:J Int)),by dsimp only;omega,UL,by
      dsimp only;rw[LO,wP,mZ];refine congrArg (λz=>_++[z]) ?_;show _=rJ Z.l (nE.l.getD k default);rw[<-hf];simp only[rJ,HB];(repeat' split);all_goals omega⟩
     refine dK (aZ (cR ?_));apply(WT);rintro v E G ⟨a0N,rfl,rfl,zK⟩;replace zK:=zK.symm;subst zK;apply(Sm);rintro v E G ⟨U1,rfl,UL,rfl,rfl⟩;apply(TB);exact oQ ⟨(k+1,(⟨U1,_⟩:J Int)),by dsimp only;omega,UL,by
     dsimp only;rw[LO,wP,mZ];refine congrArg (λz=>_++[z]) ?_;show _=rJ Z.l (nE.l.getD k default);rw[<-hf];simp only[rJ,HB];(repeat' split);all_goals omega⟩
    refine dK (aZ (cR ?_));apply(WT);rintro v E G ⟨a0N,rfl,rfl,zK⟩;replace zK:=zK.symm;subst zK;apply(Sm);rintro v E G ⟨U1,rfl,UL,rfl,rfl⟩;apply(TB);exact oQ ⟨(k+1,(⟨U1,_⟩:J Int)),by dsimp only;omega,UL,by
    dsimp only;rw[LO,wP,mZ];refine congrArg (λz=>_++[z]) ?_;show _=rJ Z.l (nE.l.getD k default);rw[<-hf];simp only[rJ,HB];(repeat' split);all_goals omega⟩
   replace nY:=a8 nY;(iterate 13 apply(kQ));apply(m2);refine QK rfl ?_;refine dK (aZ (cR ?_));apply(WT);rintro v E G ⟨a0N,rfl,rfl,zK⟩;replace zK:=zK.symm;subst zK;apply(Sm);rintro v E G ⟨U1,rfl,UL,rfl,rfl⟩;apply(TB);exact oQ ⟨(k+1,(⟨U1,_⟩:J Int)),by dsimp only;omega,UL,by
   dsimp only;rw[LO,wP,mZ];refine congrArg (λz=>_++[z]) ?_;show _=rJ Z.l (nE.l.getD k default);rw[<-hf];simp only[rJ,HB];(repeat' split);all_goals omega⟩
  replace fD:=a8 fD;iterate 5 apply(kQ)
  apply(mU);iterate 13 apply(kQ)
  apply(m2);refine QK rfl ?_;refine dK (aZ (cR ?_));apply(WT);rintro v E G ⟨a0N,rfl,rfl,zK⟩;replace zK:=zK.symm;subst zK;apply(Sm);rintro v E G ⟨U1,rfl,UL,rfl,rfl⟩;apply(TB);exact oQ ⟨(k+1,(⟨U1,_⟩:J Int)),by dsimp only;omega,UL,by
  dsimp only;rw[LO,wP,mZ];refine congrArg (λz=>_++[z]) ?_;show _=rJ Z.l (nE.l.getD k default);rw[<-hf];simp only[rJ,HB];repeat' split
  all_goals omega⟩
 obtain rfl:k=nE.l.length:=by omega
 apply(TG);refine bN (q.L 3 aL++L) R vD ?_;exact⟨q,rfl,fT,mZ,rfl,rfl⟩
end
abbrev Zp:=List Int×List Int
def Ib(s:Zp):cE:=⟨⟨none,0,s.1⟩,⟨none,0,s.2⟩⟩
abbrev WW(s:cE):Zp:=(s.a3.l,s.aX.l)
def Gf(a:bR)(A:List Bool)(s:Zp):List a9:=(tA a (Ib s) A).2
def Fg(f:hY):hY:=⟨f.b9,f.nB,f.Tn,⟨none,0,f.hJ.l⟩⟩
def IG(d:g9):g9:=⟨d.b9,d.yV,⟨none,0,d.hH.l⟩⟩
def Fj(m:hZ):hZ:=⟨⟨none,0,m.places.l⟩,⟨none,0,m.aD.l⟩⟩
def sP(a:bR):bR:=⟨Fj a.Y,⟨none,0,a.a3.l.map Fg⟩,⟨none,0,a.aX.l.map IG⟩⟩
abbrev Fs(s:cE):cE:=Ib (WW s)
def a4o{aV r4:Type}{f:aV->r4}{l:List aV}{k:Nat}{d:aV}{e:r4}(h:f d=e):(l.map f).getD k e=f (l.getD k d):=by
 rw[iW,iW,pF];cases l[k]? with
 |none=>exact h.symm
 |some x=>rfl
def b8o(a:bR)(k:Nat):(sP a).a3.l.getD k default=Fg (a.a3.l.getD k default):=a4o rfl
def aAN(a:bR)(k:Nat):(sP a).aX.l.getD k default=IG (a.aX.l.getD k default):=a4o rfl
def aNZ(a:bR)(s:cE)(r:Int): ∀k,m8 (sP a) (Fs s) r k=m8 a s r k
 |0=>rfl
 |k+1=>by rw[m8,m8,aNZ a s r k,aAN];rfl
def aJz(a:bR)(s:cE)(r q:Int): ∀k,oP (sP a) (Fs s) r q k=oP a s r q k
 |0=>by rw[oP,oP,aNZ,show(sP a).aX.l.length=a.aX.l.length from uQ _];rfl
 |k+1=>by rw[oP,oP,aJz a s r q k,b8o];rfl
def b9D(a:bR)(s:cE):lU (sP a) (Fs s)=lU a s:=by funext r q;rw[lU,lU,aJz,show(sP a).a3.l.length=a.a3.l.length from uQ _]
def b6Q(l:List g9):L1 (l.map IG)=L1 l:=by
 funext i;rw[L1,L1,pF];cases l[i]? with
 |none=>rfl
 |some d=>
  have hp:Tb (l.map IG) i (IG d)↔Tb l i d:=by unfold Tb;simp only[uQ,a4o (f:=IG) (l:=l) (d:=default) (e:=default) rfl];exact Iff.rfl
  simp only[Jc,hp];rfl
def b3T(l:List g9):FH (l.map IG)=FH l:=by rw[FH,FH,b6Q,uQ]
def aK3(a:bR):hO (sP a)=hO a:=by have N:(sP a).a3.l=a.a3.l.map Fg:=rfl;have V:(sP a).aX.l=a.aX.l.map IG:=rfl;have aQ:(sP a).Y=Fj a.Y:=rfl;have b7:q0 (Fj a.Y)=q0 a.Y:=rfl;rw[hO,hO,N,V,aQ,b7,b3T,uQ,aH7,aH7];rfl
def b3s(a:bR)(s:cE):lL (sP a) (Fs s)=lL a s:=by
 have N:(sP a).a3.l.length=a.a3.l.length:=uQ _;have V:(sP a).aX.l.length=a.aX.l.length:=uQ _;have aQ:SF (sP a).aX.l (Fs s).aX.l=SF a.aX.l s.aX.l:=by funext i;show SF (a.aX.l.map IG) s.aX.l i=_;rw[SF,SF,pF];cases s.aX.l[i]? <;>cases a.aX.l[i]? <;>rfl
 rw[lL,lL,N,V,aQ];rfl
section
variable{a fE:bR}{s s':cE}
structure qX(a fE:bR)(s s':cE):Prop where
 Y:a.Y.places.l=fE.Y.places.l/\a.Y.aD.l=fE.Y.aD.l
 a2j:lU a s=lU fE s'
 pT:hO a=hO fE
 C4:lL a s=lL fE s'
variable(h:qX a fE s s')
include h
def qX.term(F aC:(Int->a9)->Int->Int):CT F aC a s=CT F aC fE s':=by funext ps v k;rw[CT,CT,tU,tU,h.a2j,h.Y.2]
def qX.sum(F aC:(Int->a9)->Int->Int)(ps:List Int)(v:Int): ∀k,y9 F aC a s ps v k=y9 F aC fE s' ps v k
 |0=>rfl
 |k+1=>by rw[y9,y9,qX.sum F aC ps v k,h.term]
def qX.bG:BH a s=BH fE s':=by funext ps v;rw[BH,BH,h.sum,h.Y.2]
def qX.bO:BD a s=BD fE s':=by funext ps v;rw[BD,BD,h.sum,h.Y.2]
def qX.test(up:Bool)(l:List Int):ZL a s up l=ZL fE s' up l:=by funext v q;rw[ZL,ZL];unfold H7 II;rw[h.bG,h.bO]
def qX.next(up:Bool):DV a s up=DV fE s' up:=by funext l k;rw[DV,DV,h.test]
def qX.fix(A:List Bool):wD a A=wD fE A:=by funext k;rw[wD,wD,h.Y.1]
def qX.aVl(A:List Bool)(up:Bool)(l:List Int): ∀k,wY a s A up l k=wY fE s' A up l k
 |0=>rfl
 |k+1=>by rw[wY,wY,qX.aVl A up l k,h.fix,h.next]
def qX.aVg(A:List Bool)(up:Bool): ∀n l,wU a s A up n l=wU fE s' A up n l
 |0,_=>rfl
 |n+1,l=>by
  rw[wU,wU,h.aVl,h.Y.1]
  cases wY fE s' A up l fE.Y.places.l.length with
  |none=>rfl
  |some m=>dsimp only;rw[qX.aVg A up n m]
def qX.start(ps:List Int)(A:List Bool):xD a s ps A=xD fE s' ps A:=by
 have e:FJ a ps A=FJ fE ps A:=by funext i;rw[FJ,FJ,h.fix]
 rw[xD,xD,h.pT,h.C4,h.Y.1,e]
def qX.bGE(A:List Bool)(up:Bool)(ps:List Int):i5 a s A up ps=i5 fE s' A up ps:=by rw[i5,i5,h.start,h.aVg]
def qX.bGH(A:List Bool):sX a s A=sX fE s' A:=by
 have e:i5 a s A=i5 fE s' A:=by funext up ps;exact h.bGE A up ps
 rw[sX,sX,e,h.Y.1]
def qX.bAw(b:sV)(A:List Bool):uB a s b A=uB fE s' b A:=by
 have e:uU a s b A=uU fE s' b A:=by funext i;rw[uU,uU,h.bG,h.bO,h.Y.1]
 rw[uB,uB,h.pT,h.C4,h.Y.1,e]
def qX.g8(b:sV)(A:List Bool):GR a s b A=GR fE s' b A:=by
 have e:s9 a s b A=s9 fE s' b A:=by funext k;rw[s9,s9,h.a2j,h.Y.2]
 rw[GR,GR,h.bAw,h.Y.2,e]
def qX.aRJ(A:List Bool):tA a s A=tA fE s' A:=by
 have e:vI a=vI fE:=by funext k;rw[vI,vI,h.Y.2]
 rw[tA,tA,h.pT,h.C4,ZG,ZG,h.bGH,h.g8,h.Y.2,e]
end
def qX.aRR(a:bR)(s:cE):qX (sP a) a (Fs s) s:=⟨⟨rfl,rfl⟩,b9D a s,aK3 a,b3s a s⟩
def qX.symm{a fE:bR}{s s':cE}(h:qX a fE s s'):qX fE a s' s:=⟨⟨h.Y.1.symm,h.Y.2.symm⟩,h.a2j.symm,h.pT.symm,h.C4.symm⟩
def qX.trans{a fE aRG:bR}{s s' aVh:cE}(h:qX a fE s s')(k:qX fE aRG s' aVh):qX a aRG s aVh:=⟨⟨h.Y.1.trans k.Y.1,h.Y.2.trans k.Y.2⟩,h.a2j.trans k.a2j,h.pT.trans k.pT,h.C4.trans k.C4⟩
def qX.of{a fE:bR}{s s':cE}(N:sP a=sP fE)(V:WW s=WW s'):qX a fE s s':=by have dY:=(qX.aRR a s).symm;have eY:=qX.aRR fE s';rw[N,show Fs s=Fs s' from congrArg Ib V]at dY;exact dY.trans eY
def b4Y(a:bR){s s':cE}(A:List Bool)(h:WW s=WW s'):tA a s A=tA a s' A:=(qX.of rfl h).aRJ A
def b4e(a:bR){s s':cE}(h:WW s=WW s'):lL a s=lL a s':=(qX.of rfl h).C4
def b80(a:bR)(s:cE)(A:List Bool):Gf a A (WW s)=(tA a s A).2:=by rw[Gf,b4Y a (s:=Ib (WW s)) (s':=s) A rfl]
section
attribute [local irreducible] cH c6 dP aI cJ eD e9 e0 e1 e5 eS e8 J.L
def Kc(h:A->B:=by exact(aG VJ ·)):=h
def a5r(h:A->B:=by exact(kM E1 ·)):=h
def aRA(h:A->B:=by exact(aG qH ·)):=h
structure fA where
 hV:Int
 kind:Int
 target:Int
 offset:Int
 EP:Int
 error:Int
 FO:Int
 X9:Int
 deriving Inhabited
def fA.cells(s:fA):List Value:=[.int .i64 s.hV,.int .i64 s.kind,.int .i64 s.target,.int .i64 s.offset,.int .i64 s.EP,.int .i64 s.error,.int .i64 s.FO,.int .i64 s.X9]
abbrev fA.val(s:fA):Value:=.agg #[.int .i64 s.hV,.int .i64 s.kind,.int .i64 s.target,.int .i64 s.offset,.int .i64 s.EP,.int .i64 s.error,.int .i64 s.FO,.int .i64 s.X9]
structure eA where
 lX:Int
 time:Int
 HS:a9
 deriving Inhabited
def eA.cells(m:eA):List Value:=[.int .i64 m.lX,.int .i64 m.time,.int .i64 m.HS.bG,.int .i64 m.HS.bO]
abbrev eA.val(m:eA):Value:=.agg #[.int .i64 m.lX,.int .i64 m.time,.int .i64 m.HS.bG,.int .i64 m.HS.bO]
abbrev z9(x:a0 fA):fG:=x.fI 8 fA.cells []
abbrev gT(x:a0 eA):fG:=x.fI 4 eA.cells []
def a0B(b6 aA:Int)(x:a0 Int)(L:aP)(R:aJ)(K:aH (cZ x) R)(hn:x.l.length<=100):
 aI prog 174 [.int .i64 b6,.int .i64 aA,x.val].toArray L R (λv E G=>v=.bool (decide (∀n∈x.l,b6<=n/\n<=aA))/\L=E/\R=G):=by
 refine bW 24 call174 func174 ?_;apply TM∘D2;refine c7 [(0,.int _ _),(1,.int _ _),(9,.slice _ _ _),(10,.int _ _),(11,.int _ _)] bP λeZ=>?_;refine gP ([6,8]++b4 11 13) (λg:{k:Nat//k<=x.l.length/\∀n∈x.l.take k,b6<=n/\n<=aA}=>[(11,.int .i64 ((g.1:Nat):Int))]) (λg=>x.l.length-g.1) (⟨0,by omega,by simp⟩) ?_;rintro⟨k,hk,hD⟩ bZ;try dsimp only
 apply(h2);apply(W)<;>intro aO;·
  have N:=bJ x.l k 0;apply j7∘aRA∘jI∘pQ∘WE;apply cB (aC:=[_,_,_]) (j:=3) (a7:=18) rfl rfl aE rfl aW rfl;·intro eN;replace eN:=a8 eN;exact(pS) PQ
  intro iG;apply(b3);apply(W)<;>intro bF;·apply(FC);refine lG L R ?_;exact⟨by rw[decide_eq_false (λh=>by have:=h _ (gU N);omega)],rfl,rfl⟩
  apply(n6);exact oQ (⟨k+1,by omega,λn hn=>by
  rw[PM,N]at hn;simp only[aH6,Ja,aH8]at hn;rcases hn with h|h;·exact hD n h
  ·omega⟩)
 apply(WF);refine lG L R ?_;exact⟨by rw[decide_eq_true (λn hn=>by rw[HV D]at hD;exact hD n hn)],rfl,rfl⟩
def E4(s:fA):Prop:=(0<=s.hV/\s.hV<=255)/\0<=s.target/\(-1000000<=s.offset/\s.offset<=1000000)/\(-1000000<=s.EP/\s.EP<=1000000)/\(0<=s.error/\s.error<=1000000)/\(0<=s.FO/\s.FO<=1000000)/\(1<=s.X9/\s.X9<=1000000)
instance(s:fA):Decidable (E4 s):=by unfold E4;infer_instance
def qM(s:fA):Int:=if¬(1<=s.kind/\s.kind<=6)then 5 else if E4 s then 0 else 1
def a9K(s:fA)(L:aP)(R:aJ):
 aI prog 97 [s.val].toArray L R (λv E G=>v=.int .i64 (qM s)/\L=E/\R=G):=by
 refine bW 44 call97 func97 ?_;apply(c8);intro gK;apply(dE);refine eI (aZ (a6 (e3 (a6 (cR ?_)))));apply fH∘zU;rintro v E G ⟨hP,rfl,rfl,Mx⟩;replace Mx:=Mx.symm;subst Mx;refine JM 1 1 1 [aL s.kind] [] (λr M=>by rw[List.mem_singleton.1 M];rfl) ?_;refine cC rfl (a0B 1 6 ⟨some ⟨hP,0,none⟩,1,[s.kind]⟩ _ _ n1 fX) ?_;apply Cj∘zF;apply(W)<;>intro aO;·
  apply(A8);refine lJ (E:=L) (G:=R) R7 ?hp ?c2 ?bD;case hp=>exact⟨by simp at aO;rw[qM,if_pos D],rfl,rfl⟩
  case c2=>exact a2
  case bD=>exact λr h=>aM (by simp[h])
 apply N9∘zU;rintro v E G ⟨lN,rfl,rfl,Mf⟩;replace Mf:=Mf.symm;subst Mf;refine JM 1 1 1 [aL s.hV] [] (λr M=>by rw[List.mem_singleton.1 M];rfl) ?_;refine cC rfl (a0B 0 255 ⟨some ⟨lN,0,none⟩,1,[s.hV]⟩ _ _ n1 fX) ?_;apply(MF);refine GK (k:=15) aW (λk5=>?_) (λk5=>?_);·
  replace k5:=a8 k5;iterate 3 refine SE rfl rfl ?_
  apply Kc∘c9;·
   skip
   (iterate 7 refine SE rfl rfl ?_);apply Kc∘zF;refine wR rfl ?_;apply(A8);refine lJ (E:=L) (G:=R) R7 ?hp ?c2 ?bD;case hp=>exact⟨by rw[qM,if_neg Xr,if_neg aIG],rfl,rfl⟩
   case c2=>exact a2
   case bD=>exact λr h=>aM (by simp[h])
 replace k5:=a8 k5;refine kM sM ?_;apply(a5r);refine kM HY ?_;apply Kc∘c9;refine GK (k:=20) aW (λqS=>?_) (λqS=>?_);·
  replace qS:=a8 qS;iterate 7 refine SE rfl rfl ?_
  apply Kc∘zF;refine wR rfl ?_;apply(A8);refine lJ (E:=L) (G:=R) R7 ?hp ?c2 ?bD;case hp=>exact⟨by rw[qM,if_neg Xr,if_neg aIG],rfl,rfl⟩
  case c2=>exact a2
  case bD=>exact λr h=>aM (by simp[h])
 replace qS:=a8 qS;refine kM sM ?_;apply(a5r);refine kM sM ?_;apply(a5r);refine Y0 a3s rfl rfl ?_;rintro v E G ⟨Fw,rfl,rfl,Mj⟩;replace Mj:=Mj.symm;subst Mj;refine JM 1 2 2 [aL s.offset,aL s.EP] [] (λr M=>by simp only[vC,x7,or_false]at M;rcases M with rfl|rfl<;>rfl) ?_;refine Lp rfl (a0B (-1000000) 1000000 ⟨some ⟨Fw,0,none⟩,2,[s.offset,s.EP]⟩ _ _ n1 fX) rfl rfl ?_;rintro v E G ⟨rfl,rfl,rfl⟩;refine kM (PX rfl) ?_;apply Kc∘zF;apply(W)<;>intro bF;·
  apply(A8);refine lJ (E:=L) (G:=R) R7 ?hp ?c2 ?bD;case hp=>exact⟨by rw[qM,if_neg Xr,if_neg aIG],rfl,rfl⟩
  case c2=>exact a2
  case bD=>exact λr h=>aM (by simp[h])
 apply cO∘kJ;refine gO a3s rfl ?_;rintro v E G ⟨bAh,rfl,rfl,aD7⟩;replace aD7:=aD7.symm;subst aD7;refine JM 1 2 2 [aL s.error,aL s.FO] [] (λr M=>by simp only[vC,x7,or_false]at M;rcases M with rfl|rfl<;>rfl) ?_;refine cC rfl (a0B 0 1000000 ⟨some ⟨bAh,0,none⟩,2,[s.error,s.FO]⟩ _ _ n1 fX) ?_;apply(MF);refine GK (k:=37) aW (λhX=>?_) (λhX=>?_);·
  replace hX:=a8 hX;iterate 5 refine SE rfl rfl ?_
  apply Kc∘zF;refine wR rfl ?_;apply(A8);refine lJ (E:=L) (G:=R) R7 ?hp ?c2 ?bD;case hp=>exact⟨by rw[qM,if_neg Xr,if_neg aYf],rfl,rfl⟩
  case c2=>exact a2
  case bD=>exact λr h=>aM (by simp[h])
 replace hX:=a8 hX;refine kM sM ?_;apply(a5r);refine Y0 a81 rfl rfl ?_;rintro v E G ⟨aRP,rfl,rfl,Mq⟩;replace Mq:=Mq.symm;subst Mq;refine JM 1 1 1 [aL s.X9] [] (λr M=>by rw[List.mem_singleton.1 M];rfl) ?_;refine Lp rfl (a0B 1 1000000 ⟨some ⟨aRP,0,none⟩,1,[s.X9]⟩ _ _ n1 fX) rfl rfl ?_;rintro v E G ⟨rfl,rfl,rfl⟩;refine kM (PX rfl) ?_;apply Kc∘zF;apply(W)<;>intro b2;·
  apply(A8);refine lJ (E:=L) (G:=R) R7 ?hp ?c2 ?bD;case hp=>exact⟨by rw[qM,if_neg Xr,if_neg aYf],rfl,rfl⟩
  case c2=>exact a2
  case bD=>exact λr h=>aM (by simp[h])
 refine dK (gV (aZ (a6 (cR ?_))));apply(q3);refine lJ (E:=L) (G:=R) R7 ?hp ?c2 ?bD;case hp=>exact⟨by simp at aO k5 bF hX b2;rw[qM,if_neg D,if_pos (by rw[E4];omega)],rfl,rfl⟩
 case c2=>exact a2
 case bD=>exact λr h=>aM (by simp[h])
def b1M(k:Int)(L:aP)(R:aJ):
 aI prog 98 [.int .i64 k].toArray L R (λv E G=>v=.bool (decide (k=4\/k=5\/k=6))/\L=E/\R=G):=by
 refine bW 13 call98 func98 ?_;apply QO∘b1∘tC;apply cB (aC:=[_,_]) (j:=2) (a7:=5) rfl rfl aE rfl aW rfl;·intro fD;replace fD:=a8 fD;exact(b1) LP
 intro mY;apply(c9);apply cB (aC:=[_,_]) (j:=6) (a7:=9) rfl rfl aE rfl aW rfl;·intro kC;replace kC:=a8 kC;exact(b1) LP
 intro JG;apply(v9);refine lG L R ?_;exact⟨by refine congrArg Value.bool ?_;rw[Jb];simp;omega,rfl,rfl⟩
def Ev(s:fA)(m:eA)(t:Int):Int:=(s.FO*(t-m.time)+999).tdiv 1000
def DY(s:fA)(m:eA)(t:Int):Prop:=qM s≠0\/m.lX<0\/m.HS=kY\/t<m.time\/s.X9<t-m.time
instance(s:fA)(m:eA)(t:Int):Decidable (DY s m t):=by unfold DY;infer_instance
def a5s(s:fA)(m:eA)(t:Int):a9:=⟨m.HS.bG-Ev s m t,m.HS.bO+Ev s m t⟩
def xL(s:fA)(m:eA)(t:Int):a9:=
 if DY s m t then kY else if s.kind=4\/s.kind=5\/s.kind=6 then m.HS
 else if s.kind=1\/s.kind=2 then⟨max (a5s s m t).bG 0,max (a5s s m t).bO 0⟩else a5s s m t
def w9(m:eA):Prop:=(0<=m.time/\m.time<=2147483648)/\(-1125899906842624<=m.HS.bG/\m.HS.bG<=1125899906842624)/\(-1125899906842624<=m.HS.bO/\m.HS.bO<=1125899906842624)
def a6e{s:fA}{m:eA}{t:Int}(h:¬DY s m t):(0<=s.FO*(t-m.time)/\s.FO*(t-m.time)<=1000000000000)/\0<=Ev s m t/\Ev s m t<=1000000001:=by
 rw[DY]at h;have X:qM s=0:=by omega
 rw[qM]at X;split at X;·omega
 split at X;·
  rename_i hs;rw[E4]at hs;have N:0<=t-m.time/\t-m.time<=1000000:=by omega
  have V:0<=s.FO/\s.FO<=1000000:=by omega
  have aQ:0<=s.FO*(t-m.time):=y4 V.1 N.1;have b7:s.FO*(t-m.time)<=1000000*1000000:=JS V.2 N.2 N.1 bH;refine⟨⟨aQ,by omega⟩,?_⟩;rw[Ev,JQ D];omega
 ·omega
def W1{a b:a9}:a=b↔a.bG=b.bG/\a.bO=b.bO:=by cases a;cases b;simp
def aLg(s:fA)(m:eA)(t:Int)(L:aP)(R:aJ)(hm:w9 m)(dS:0<=t/\t<=2147483648):
 aI prog 33 [s.val,m.val,.int .i64 t].toArray L R (λv E G=>v=(xL s m t).val/\L=E/\R=G):=by
 rw[w9]at hm;refine bW 83 call33 func33 ?_;apply(c8);intro dG;apply(iU);intro cT;apply(dA);intro hP;apply(lP);refine cC rfl (SS _ _) ?_;apply(dA);intro kL;apply(rQ);refine aG qI ?_;refine cC rfl (a9K s _ _) ?_;apply(rO);apply cB (aC:=[_,_,_]) (j:=3) (a7:=14) rfl rfl aE rfl aW rfl;·exact Ya
 intro iG;apply(c9);apply cB (aC:=[_,_,_,_]) (j:=8) (a7:=19) rfl rfl aE rfl aW rfl;·intro gM;replace gM:=a8 gM;apply CM∘oC;refine aG (a5X Kx rfl rfl) ?_;exact hL
 intro wJ;apply(c9);apply cB (aC:=[_,_,_,_]) (j:=14) (a7:=25) rfl rfl aE rfl aW rfl;·intro qT;replace qT:=a8 qT;exact(b1) R4
 intro UX;apply(c9);apply cB (aC:=[_,_,_,_,_,_,_]) (j:=20) (a7:=31) rfl rfl aE rfl aW rfl;·intro MW;replace MW:=a8 MW;exact(IW∘kP) a9o
 intro a2l;apply(b3);apply(W)<;>intro aO;·
  apply cO∘oC∘FB;refine bN L R mR ?_;have BQ:DY s m t:=by simp[kY]at aO;rw[DY,W1];simp only[kY];omega
  exact Wj
 have BQ:¬DY s m t:=by simp[kY]at aO;rw[DY,W1];simp only[kY];omega
 obtain⟨yQ,AJ⟩:=a6e BQ;rw[Ev]at AJ;apply(GW);refine cC rfl (b1M _ _ _) ?_;apply(b3);apply(W)<;>intro bF;·apply cO∘CM∘FB;refine bN L R mR ?_;exact⟨by rw[xL,if_neg BQ,if_pos PO],rfl,rfl⟩
 apply eR∘gE∘fH∘kP∘RW∘l8∘PB∘mL∘FD∘kP∘FE∘z2∘y0∘dA;intro h8;apply G6∘tC;apply cB (aC:=[_,_,_]) (j:=3) (a7:=69) rfl rfl aE rfl aW rfl;·exact a3w
 intro iG;apply(b3);apply(W)<;>intro b2;·apply(QW);refine aG B9 ?_;apply(fH);refine aG B9 ?_;apply r7∘G3∘S6;refine bN L R mR ?_;exact⟨by rw[xL,if_neg BQ,if_neg PO,if_pos D];try rfl,rfl,rfl⟩
 apply eR∘S6;refine bN L R mR ?_;exact⟨by rw[xL,if_neg BQ,if_neg PO,if_neg D];try rfl,rfl,rfl⟩
def SI(l:List a9)(z:a9)(k:Nat):a9:=(l.take k).foldl (λo x=>⟨max o.bG x.bG,min o.bO x.bO⟩) z
def aB0{l:List a9}{z:a9}{k:Nat}{x:a9}(h:l[k]?=some x):SI l z (k+1)=⟨max (SI l z k).bG x.bG,min (SI l z k).bO x.bO⟩:=by rw[SI,PM,h,Iy];rfl
def BG(x y:a9):a9:=⟨max x.bG y.bG,min x.bO y.bO⟩
def L6(x y:a9):a9:=if(BG x y).bO<(BG x y).bG then kY else BG x y
def aNF{x y:a9}:SI [x,y] x 2=BG x y:=by simp[SI,BG]
def b2r(x y:a9)(p:a0 a9)(L:aP)(R:aJ)(hp:aH (s3 p) R)(X:p.l=[x,y]):
 aI prog 195 [p.val].toArray L R (λv E G=>v=.tuple #[(L6 x y).val,.bool (decide ((BG x y).bG<=(BG x y).bO))]/\L=E/\R=G):=by
 have eB:p.l.length=2:=by rw[X];rfl
 have g0:p.l[0]?=some x:=by rw[X];rfl
 refine bW 40 call195 func195 ?_;apply(IV);intro cS;apply IQ∘nO∘mT;apply(W)<;>intro aO;·apply(cO);refine cC rfl (SS _ _) ?_;exact aWU
 apply G1∘Io∘OI;intro cT;apply rQ∘D2;refine c7 [(2,.pointer _),(4,.pointer _),(14,.slice _ _ _),(15,.int _ _),(16,.int _ _)] bP λeZ=>?_;refine kO ([6]++b4 16 17) ((⟨λg=>[(16,.int .i64 ((g.1:Nat):Int))],λg=>⟨cT,(SI p.l x g.1).cells,90⟩::⟨cS,[.int .i64 0,.int .i64 0],90⟩::L,λ_=>R,λg=>p.l.length-g.1⟩:dV {g:Nat//g<=p.l.length})) (⟨0,by omega⟩) ?_;rintro⟨k,hk⟩ bZ;try dsimp only
 apply(h2);apply(W)<;>intro bF;·have N:=bJ p.l k default;have M0:=aB0 (z:=x) N;apply j7∘aRA∘OI;intro hP;apply i3∘b3;refine hF O [27,28,29] [0,1,2,3,4,5,6,7,8,9,10] [11,12,13] (_) _ cX bE a2 Jm ?_;apply(QV);refine eO B9 ?_;apply l1∘IM;refine m5 NR ?_;apply TA∘kT∘Ik∘TL;exact oT ⟨k+1,by omega⟩ kG bP (by dsimp only;rw[M0];exact LV (NS (LU _))) fF k1
 obtain rfl:k=p.l.length:=by omega
 have Uv:SI p.l x p.l.length=BG x y:=by rw[eB,X];exact aNF
 rw[Uv];apply AV∘kJ∘BA;apply(W)<;>intro b2;·apply(cO);refine cC rfl (SS _ _) ?_;exact aZ4
 exact aZm
end
section
def aPe(h:A->B:=by exact(aG qH ·)):=h
def aI.a7K{P:Program}{f:FuncId}{args:Array Value}{A:aP}{R S:aJ}{u:Value}
 (dW:∀w,∀aC:Nat->Prop,tS (A++[]) aC R w->∀s∈S,tW w (λb=>aC b\/∃e∈A,e.b=b) s)
 (h:aI P f args [] (S++R) (λv E G=>v=u/\[]=E/\S++R=G)):aI P f args A R (λv E G=>v=u/\A=E/\R=G):=by have V:=aI.Hz (S:=S) (Post:=λv E=>v=u/\[]=E) (y8.aB (L:=A)) dW (h.mono λv E G ⟨j5,kK,lV⟩=>⟨⟨j5,kK⟩,lV⟩);exact aYQ
attribute [local irreducible] cH c6 dP aI cJ eD e9 e0 e1 e5 eS e8 J.L
def b5b(x:a0 Int)(a:Int)(L:aP)(R:aJ)(K:aH (cZ x) R):
 aI prog 235 [x.val,.int .i64 a].toArray L R (λv E G=>∃r:Int,v=.int .i64 r/\(0<=r↔a∈x.l)/\L=E/\R=G):=by
 refine J2 call235 K λMS=>?_;refine bW 19 call235 func235 ?_;apply TK∘D2;refine c7 [(0,.slice _ _ _),(1,.int _ _),(7,.int _ _),(8,.int _ _)] bP λeZ=>?_;refine gP ([4,5]++b4 8 11) (λg:{k:Nat//k<=x.l.length/\∀j:Nat,j<k->x.l.getD j 0≠a}=>[(8,.int .i64 ((g.1:Nat):Int))]) (λg=>x.l.length-g.1) (⟨0,by omega,λj aY=>by omega⟩) ?_;rintro⟨k,hk,hD⟩ bZ;try dsimp only
 apply(h2);apply(W)<;>intro aO;·
  have hg:=bJ x.l k 0;apply pR∘pQ∘h7∘aPe∘jI∘mT;apply(W)<;>intro bF;·apply yF∘WI;refine dC L R ?_;exact⟨k,rfl,⟨λ_=>by rw[bF];exact gU hg,λ_=>by omega⟩,rfl,rfl⟩
  apply(n6);exact oQ (⟨k+1,by omega,λj aY=>by
  rcases gY j k with h|h;·exact hD j h
  ·(obtain rfl:j=k:=by omega);exact λh=>bF h.symm⟩)
 apply(GZ);refine dC L R ?_;refine⟨-1,rfl,⟨λh=>by omega,λh=>?_⟩,rfl,rfl⟩;obtain⟨j,aY,rfl⟩:=Qm h;have:=hD j D;rw[iW,ET aY]at this;exact absurd rfl this
def b7i(x:a0 Int)(a:Int)(L:aP)(R:aJ)(K:aH (cZ x) R):
 aI prog 169 [x.val,.int .i64 a].toArray L R (λv E G=>v=.bool (decide (a∈x.l))/\L=E/\R=G):=by refine bW 9 call169 func169 ?_;apply QO∘h7;refine cK (b5b x a _ _ K) ?_;exact aY1
def b5z(l:a0 Int)(n:Int)(L:aP)(R:aJ)(hl:aH (cZ l) R):
 aI prog 50 [l.val,.int .i64 n].toArray L R (λv E G=>v=.bool (decide (n∈l.l))/\L=E/\R=G):=by
 refine nN call50 hl λkD=>?_;refine bW 18 call50 func50 ?_;apply TM∘mM;refine c7 [(0,.slice _ _ _),(1,.int _ _),(5,.int _ _)] bP λeZ=>?_;refine gP (b4 4 14) (λg:{k:Nat//k<=l.l.length/\∀j:Nat,j<k->l.l.getD j 0≠n}=>[(5,.int .i64 ((g.1:Nat):Int))]) (λg=>l.l.length-g.1) (⟨0,by omega,λj aY=>by omega⟩) ?_;rintro⟨k,hk,hD⟩ bZ;try dsimp only
 apply(uA);apply(W)<;>intro aO;·
  have xQ:=bJ l.l k 0;apply j7∘h7∘aPe∘jI∘b1∘mT;apply(W)<;>intro bF;·apply(FC);refine lG L R ?_;exact⟨by rw[decide_eq_true (by rw[<-bF];exact gU xQ)],rfl,rfl⟩
  apply(mD);exact oQ (⟨k+1,by omega,λj aY=>by
  rcases gY j k with h|h;·exact hD j h
  ·(obtain rfl:j=k:=by omega);exact bF⟩)
 apply(WF);refine lG L R ?_;exact⟨by
 rw[decide_eq_false];intro hm;obtain⟨j,aY⟩:=List.mem_iff_getElem?.1 hm;have a66:=(List.getElem?_eq_some_iff.1 aY).1;exact hD j D (getD_some aY),rfl,rfl⟩
end
section
attribute [local irreducible] cH c6 dP aI cJ eD e9 e0 e1 e5 eS e8 J.L
def aJd(m:hZ):∃A,lS m A:=by refine⟨(List.range (J3 m).length).map λi=>@decide (∃j:Nat,j<(J3 m).length/\(J3 m).getD j false=true/\uR m j i) (Classical.propDecidable _),by simp,λi aA=>?_⟩;rw[iW,pF,LN aA];exact⟨λh=>@of_decide_eq_true _ (Classical.propDecidable _) h,λh=>@decide_eq_true _ (Classical.propDecidable _) h⟩
end
section
def aQx(h:A->B:=by exact(aG aYC ·)):=h
def aLe{b:Nat}{x y:a9}:(⟨.own b 2 [],[x,y]⟩:J a9).ok 2 a9.cells:=⟨by simp[a9.cells],by simp,by simp[maxLen],by simp[a9.cells]⟩
def b2C{A:aP}{R:aJ}{b:Nat}{x y:a9}{T:TypeId}(jN:(⟨b,[.int .i64 x.bG,.int .i64 x.bO,.int .i64 y.bG,.int .i64 y.bO],T⟩:a5)∈A):
 aI prog 195 [.slice (some ⟨b,0,none⟩) 2 2].toArray A R (λv E G=>v=.tuple #[(L6 x y).val,.bool (decide ((BG x y).bG<=(BG x y).bO))]/\A=E/\R=G):=
 aI.a7K (S:=[s3 (⟨.own b 2 [],[x,y]⟩:J a9).U]) (λw aC bX s hs=>by
  rw[List.mem_singleton.1 hs]
  exact HA (T:=T) bX (λe X=>by
   have wG:e∈[(⟨b,[.int .i64 x.bG,.int .i64 x.bO,.int .i64 y.bG,.int .i64 y.bO],T⟩:a5)]:=X
   rw[List.mem_singleton.1 wG];exact jN) aLe bI bH lQ) (b2r x y (⟨.own b 2 [],[x,y]⟩:J a9).U [] _ n1 rfl)
attribute [local irreducible] cH c6 dP aI cJ eD e9 e0 e1 e5 eS e8 J.L
structure SM where
 cU:List a9
 XI:List Bool
 C2:List Bool
def Ri(e7:SM)(l:List fA)(t:Int)(x:eA):a9:=BG (e7.cU.getD (l.getD x.lX.toNat default).target.toNat default) (xL (l.getD x.lX.toNat default) x t)
def a0q(n:Nat)(kind:Int)(l:List fA)(x:eA):Prop:=(0<=x.lX/\x.lX<l.length)/\(l.getD x.lX.toNat default).kind=kind/\0<=(l.getD x.lX.toNat default).target/\(l.getD x.lX.toNat default).target<n
instance(n:Nat)(kind:Int)(l:List fA)(x:eA):Decidable (a0q n kind l x):=by unfold a0q;infer_instance
def H5(n:Nat)(kind:Int)(lost:a9)(t:Int)(l:List fA)(e7:SM)(x:eA):SM:=
 if¬(a0q n kind l x/\e7.XI.getD (l.getD x.lX.toNat default).target.toNat false=false)then e7
 else if(Ri e7 l t x).bG<=(Ri e7 l t x).bO then⟨e7.cU.set (l.getD x.lX.toNat default).target.toNat (Ri e7 l t x),e7.XI,e7.C2⟩
 else⟨e7.cU.set (l.getD x.lX.toNat default).target.toNat lost,e7.XI.set (l.getD x.lX.toNat default).target.toNat true,e7.C2.set x.lX.toNat true⟩
def P5(Z:List a9)(lost:a9)(kind:Int)(l:List fA)(m:List eA)(t:Int)(k:Nat):SM:=
 (m.take k).foldl (H5 Z.length kind lost t l) ⟨Z,List.replicate Z.length false,List.replicate l.length false⟩
def b2w{n:Nat}{kind:Int}{lost:a9}{t:Int}{l:List fA}{e7:SM}{x:eA}:
 (H5 n kind lost t l e7 x).cU.length=e7.cU.length/\(H5 n kind lost t l e7 x).XI.length=e7.XI.length/\(H5 n kind lost t l e7 x).C2.length=e7.C2.length:=by
 rw[H5];split;·exact⟨rfl,rfl,rfl⟩
 split<;>simp
def aBD{Z:List a9}{lost:a9}{kind:Int}{l:List fA}{m:List eA}{t:Int}{k:Nat}:
 (P5 Z lost kind l m t k).cU.length=Z.length/\(P5 Z lost kind l m t k).XI.length=Z.length/\(P5 Z lost kind l m t k).C2.length=l.length:=by
 rw[P5];generalize m.take k=F3;have:∀(F3:List eA) (e7:SM),(e7.cU.length=Z.length/\e7.XI.length=Z.length/\e7.C2.length=l.length)->
  ((F3.foldl (H5 Z.length kind lost t l) e7).cU.length=Z.length/\(F3.foldl (H5 Z.length kind lost t l) e7).XI.length=Z.length/\(F3.foldl (H5 Z.length kind lost t l) e7).C2.length=l.length):=by
  intro F3;induction F3 with
  |nil=>intro e7 h;exact h
  |cons x F3 cM=>intro e7 h;exact cM _ (by have:=b2w (n:=Z.length) (kind:=kind) (lost:=lost) (t:=t) (l:=l) (e7:=e7) (x:=x);omega)
 exact this F3 _ fX
def aRC{Z:List a9}{lost:a9}{kind:Int}{l:List fA}{m:List eA}{t:Int}{k:Nat}{x:eA}(h:m[k]?=some x):
 P5 Z lost kind l m t (k+1)=H5 Z.length kind lost t l (P5 Z lost kind l m t k) x:=by rw[P5,PM,h];simp[P5]
def V7(b:List Bool)(k:Nat):List Int:=((List.range k).filter λi=>b.getD i false).map Int.ofNat
def b1v{b:List Bool}{k:Nat}:V7 b (k+1)=if b.getD k false=true then V7 b k++[(k:Int)]else V7 b k:=by
 rw[V7,LO,List.filter_append,wP];split;·rename_i h;simp only[V7,List.filter_cons,List.filter_nil];rw[if_pos h];rfl
 ·rename_i h;simp only[V7,List.filter_cons,List.filter_nil];rw[if_neg h];simp
def P0(Z:List a9)(lost:a9)(kind:Int)(l:List fA)(m:List eA)(t:Int):SM:=P5 Z lost kind l m t m.length
def b8W(Z:a0 a9)(lost:a9)(kind t:Int)(l:a0 fA)(m:a0 eA)(L:aP)(R:aJ)(fW:aH (s3 Z) R)(hl:aH (z9 l) R)(hm:aH (gT m) R)
 (BP:Z.l.length<=1000) (kD:l.l.length<=1000) (UI:m.l.length<=1000) (hok:∀x∈m.l,w9 x) (dS:0<=t/\t<=2147483648):
 aI prog 117 [Z.val,lost.val,.int .i64 kind,l.val,m.val,.int .i64 t].toArray L R
  (λw E G=>∃(p:J a9) (q:J Int),w=.tuple #[p.val,q.val]/\(p.ok 2 a9.cells/\q.ok 1 aL)/\p.l=(P0 Z.l lost kind l.l m.l t).cU/\q.l=V7 (P0 Z.l lost kind l.l m.l t).C2 l.l.length/\q.L 3 aL++(p.L 90 a9.cells++L)=E/\R=G):=by
 refine bW 123 call117 func117 ?_;apply(c8);intro kL;apply yG∘WR;refine gO aZP rfl ?_;rintro v E G ⟨AS,rfl,aFC,rfl,rfl⟩;apply(FG);have bCH:(⟨AS,Z.l⟩:J a9).l.length<=1000:=BP;apply eK∘nO∘EL;rintro v E G ⟨yM,rfl,rfl,k4⟩;replace k4:=k4.symm;subst k4;apply(FG);refine mJ Jj ?_;apply eK∘nO∘EL;rintro v E G ⟨ML,rfl,rfl,K1⟩;replace K1:=K1.symm;subst K1;apply(KJ);refine mJ Jj ?_;apply eK∘D2;refine c7 [(2,.int _ _),(3,.slice _ _ _),(5,.int _ _),(7,.pointer _),(14,.slice _ _ _),(15,.slice _ _ _),(16,.slice _ _ _),(33,.slice _ _ _),(34,.int _ _),(35,.int _ _)] bP λeZ=>?_;refine kO ([18,19,20,21]++b4 35 73) ((⟨λg=>[(35,.int .i64 ((g.1.1:Nat):Int))],λg=>(⟨.own ML l.l.length [],g.1.2.C2⟩:J Bool).L 4 jF++((⟨.own yM Z.l.length [],g.1.2.XI⟩:J Bool).L 4 jF++((⟨AS,g.1.2.cU⟩:J a9).L 90 a9.cells++(⟨kL,lost.cells,90⟩::L))),λ_=>R,λg=>m.l.length-g.1.1⟩:dV {g:Nat×SM//g.1<=m.l.length/\g.2=P5 Z.l lost kind l.l m.l t g.1})) (⟨(0,⟨Z.l,List.replicate Z.l.length false,List.replicate l.l.length false⟩),by dsimp only;omega,rfl⟩) ?_;rintro⟨⟨k,⟨qL,aC,B⟩⟩,s4,fT⟩ bZ;try dsimp only
 dsimp only at s4 fT;obtain⟨lY,iX,R3⟩:=aBD (Z:=Z.l) (lost:=lost) (kind:=kind) (l:=l.l) (m:=m.l) (t:=t) (k:=k);rw[<-fT]at lY iX R3;dsimp only at lY iX R3;have aFb:(⟨AS,qL⟩:J a9).ok 2 a9.cells:=J.oZ bI aFC lY;have bC2:(⟨.own yM Z.l.length [],aC⟩:J Bool).ok 1 jF:=by have:=JL jF 1 yM Z.l.length false BI;exact J.oZ BI this (by simp;exact iX)
 have bJC:(⟨.own ML l.l.length [],B⟩:J Bool).ok 1 jF:=by have:=JL jF 1 ML l.l.length false BI;exact J.oZ BI this (by simp;exact R3)
 apply(h2);apply(W)<;>intro aO;·
  have xR:=bJ m.l k default;have Pf:=hok _ (gU xR);have pY:=aRC (Z:=Z.l) (lost:=lost) (kind:=kind) (l:=l.l) (t:=t) xR;rw[<-fT]at pY;obtain⟨x,K⟩:∃x,x=m.l.getD k default:=⟨_,rfl⟩;rw[<-K]at xR Pf pY;apply(j7);refine aG qH ?_;apply(OH);intro MK;apply rQ∘r8;apply cB (aC:=[_,_,_,_,_]) (j:=3) (a7:=42) rfl rfl aE rfl aW rfl;·intro eN;replace eN:=a8 eN;exact(fH∘Fa) hL
  intro iG;apply(b3);apply(W)<;>intro bF;·refine lC (lB (lA (aZ (cR ?_))));apply(uX);exact dU ⟨(k+1,⟨qL,aC,B⟩),by dsimp only;omega,by rw[pY,H5,if_pos (λh=>by have:=h.1.1;omega)]⟩
  have xQ:=bJ l.l x.lX.toNat default;obtain⟨s,hs⟩:∃s,s=l.l.getD x.lX.toNat default:=⟨_,rfl⟩;rw[<-hs]at xQ;have RG:a0q Z.l.length kind l.l x↔((0<=x.lX/\x.lX<l.l.length)/\s.kind=kind/\0<=s.target/\s.target<Z.l.length):=by rw[hs];exact Iff.rfl
  rw[H5,Ri,<-hs]at pY;dsimp only at pY;apply eR∘BB;refine aG aIY ?_;refine aG Jq ?_;apply(dA);intro KQ;apply rQ∘gE∘rO;apply cB (aC:=[_,_,_]) (j:=4) (a7:=58) rfl rfl aE rfl aW rfl;·intro gW;replace gW:=a8 gW;exact R4
  intro yU;apply(c9);apply cB (aC:=[_,_,_,_,_]) (j:=9) (a7:=63) rfl rfl aE rfl aW rfl;·intro nY;replace nY:=a8 nY;exact(fH∘Fa) hL
  intro Hx;apply(c9);apply cB (aC:=[_,_,_,_,_]) (j:=16) (a7:=70) rfl rfl aE rfl aW rfl;·intro AO;replace AO:=a8 AO;have aDI:=bJ aC s.target.toNat false;apply(BB);refine aG b08 ?_;refine aG (qK O ((⟨.own yM Z.l.length [],aC⟩:J Bool)) rfl rfl rfl c0 bC bI bC aE) ?_;exact hL
  intro a7I;apply(b3);apply(W)<;>intro b2;·refine lC (lB (lA (aZ (cR ?_))));apply(uX);exact dU ⟨(k+1,⟨qL,aC,B⟩),by dsimp only;omega,by rw[pY,if_pos (λh=>by have N:=RG.1 h.1;have V:=h.2;simp only[V]at b2;simp at b2;omega)]⟩
  have bBp:=bJ qL s.target.toNat default;have BQ:aC.getD s.target.toNat false=false:=by simpa using b2.2
  rw[if_neg (λh=>h ⟨RG.2 D,BQ⟩)]at pY;apply(x2);refine gJ O [0,1,2,3,4,5,6,7,8,9,10,11,12,13,14,15,16] _ cX bE g3 ?_;refine a4 oG ?_;apply(iI);refine a4 aYC ?_;refine a4 (a30 (row:=[_,_]) O ((⟨AS,qL⟩:J a9)) rfl rfl rfl c0 bC bI bC aE aE) ?_;refine a4 qI ?_;apply ND∘g1;refine k6 rfl (aLg s x t _ _ Pf dS) ?_;refine o4 aIp rfl rfl rfl ?_;rintro v E G ⟨bIH,rfl,rfl,aEk⟩;replace aEk:=aEk.symm;subst aEk;apply(fS);refine k6 rfl (b2C (x:=qL.getD s.target.toNat default) (y:=xL s x t) (.head _)) ?_;refine a4 iR ?_;refine a4 sL ?_;refine a4 sL ?_;apply(p2);intro C0;apply(sE);refine a4 (GN aW) ?_;apply LI∘WK;apply(W)<;>intro dZ;·have aDI:=bJ aC s.target.toNat false;have bA9:=bJ B x.lX.toNat false;refine hF O [93,94,95,96,97,98] [0,1,2,3,4,5,6] [7,8,9,10,11] ([a5.mk KQ _ _,a5.mk MK _ _,a5.mk kL _ _]) _ cX bE a2 (by(repeat(first|apply List.Sublist.cons (a:=a5.mk C0 _ _)|apply List.Sublist.cons (a:=a5.mk Lq _ _)|apply List.Sublist.cons (a:=a5.mk I2 _ _)|apply List.Sublist.cons_cons));exact oR _) ?_;refine m5 oG ?_;apply(IM);refine m5 oG ?_;apply(IM);refine eO R9 ?_;apply(p7);refine a4 b08 ?_;refine GO (jL O ((⟨.own yM Z.l.length [],aC⟩:J Bool)) (true) rfl rfl rfl rfl c0 bC bI bC bH aE aE) rfl rfl ?_;rintro v E G ⟨rfl,rfl⟩;apply(fS);refine a4 (h4 O ((⟨.own ML l.l.length [],B⟩:J Bool)) _ rfl rfl ((show _=Value.slice _ _ _ from rfl).trans (v4 R3)) rfl bC (i:=x.lX.toNat) cW iC) ?_;refine GO (jL O ((⟨.own ML l.l.length [],B⟩:J Bool)) (true) rfl rfl rfl rfl c0 bC bI bC bH aE aE) rfl rfl ?_;rintro v E G ⟨rfl,rfl⟩;apply(fS);refine gS (aZ (cR ?_));apply BB∘oC∘aQx;refine i4 (SV O ((⟨AS,qL⟩:J a9)) (lost) rfl rfl rfl rfl c0 bC bI bC (LM rfl) aE aE) ?_;rintro v E G ⟨rfl,rfl⟩;apply(wB);exact dU ⟨(k+1,⟨qL.set s.target.toNat lost,aC.set s.target.toNat true,B.set x.lX.toNat true⟩),by dsimp only;omega,by rw[pY,if_neg Jk]⟩
  refine dK (aZ (cR ?_));apply BB∘oC∘aQx;refine i4 (SV O ((⟨AS,qL⟩:J a9)) (L6 (qL.getD s.target.toNat default) (xL s x t)) rfl rfl rfl rfl c0 bC bI bC (LM rfl) aE aE) ?_;rintro v E G ⟨rfl,rfl⟩;apply(wB);exact dU ⟨(k+1,⟨qL.set s.target.toNat (L6 (qL.getD s.target.toNat default) (xL s x t)),aC,B⟩),by dsimp only;omega,by rw[pY,if_pos Jk,L6,if_neg (Int.not_lt.2 Jk)]⟩
 obtain rfl:k=m.l.length:=by omega
 apply oD∘z5∘D2;refine c7 [(14,.slice _ _ _),(22,.slice _ _ _),(108,.slice _ _ _),(109,.int _ _),(110,.int _ _)] bP λnS=>?_;refine mC ([22,23,24]++b4 110 11) ((⟨λg=>[(110,.int .i64 ((g.1.1:Nat):Int)),(22,g.1.2.val)],λg=>g.1.2.L 3 aL++((⟨.own ML l.l.length [],B⟩:J Bool).L 4 jF++((⟨.own yM Z.l.length [],aC⟩:J Bool).L 4 jF++((⟨AS,qL⟩:J a9).L 90 a9.cells++(⟨kL,lost.cells,90⟩::L)))),λ_=>R,λg=>l.l.length-g.1.1⟩:dV {g:Nat×J Int//g.1<=l.l.length/\g.2.ok 1 aL/\g.2.l=V7 B g.1})) (⟨(0,J.nil),by dsimp only;omega,J.g6,rfl⟩) bP DP fF ?_;rintro⟨⟨i,q⟩,nK,fB,kF⟩ bZ;try dsimp only
 dsimp only at nK fB kF;apply(h2);apply(W)<;>intro dX;·
  have bA9:=bJ B i false;have aT0:=b1v (b:=B) (k:=i);have gB:q.l.length<=1000:=by rw[kF,V7,uQ];exact GB (List.length_filter_le _ _) B6
  apply(pR);refine aG (h4 O ((⟨.own ML l.l.length [],B⟩:J Bool)) _ rfl rfl ((show _=Value.slice _ _ _ from rfl).trans (v4 R3)) rfl bC (i:=i) cW iC) ?_;refine aG (qK O ((⟨.own ML l.l.length [],B⟩:J Bool)) rfl rfl rfl c0 bC bI bC aE) ?_;apply GX∘lP∘c9∘b3;apply(W)<;>intro h3;·apply yH∘zU;rintro v E G ⟨bIs,rfl,rfl,aDU⟩;replace aDU:=aDU.symm;subst aDU;refine gO (j2 (f:=aL) (a:=_) O rfl rfl rfl rfl (fB) c0 j8 rfl kH) rfl ?_;rintro v E G ⟨bFX,rfl,bDB,rfl,rfl⟩;apply jS∘wB;exact dU ⟨(i+1,(⟨bFX,_⟩:J Int)),by dsimp only;omega,bDB,by dsimp only;rw[aT0,if_pos a2X,kF]⟩
  apply(n6);exact dU ⟨(i+1,q),by dsimp only;omega,fB,by dsimp only;rw[aT0,if_neg a2X,kF]⟩
 obtain rfl:i=l.l.length:=by omega
 apply S5∘hM∘yG∘F5;refine bN (q.L 3 aL++((⟨AS,qL⟩:J a9).L 90 a9.cells++L)) R (J0 rfl LS LS) ?_;exact⟨(⟨AS,qL⟩:J a9),q,by rw[J.val,J.val,lY];try rfl,⟨aFb,fB⟩,by rw[P0,<-fT],by rw[P0,<-fT];exact kF,rfl,rfl⟩
def b2Q(Z:a0 a9)(l:a0 fA)(m:a0 eA)(t:Int)(L:aP)(R:aJ)(fW:aH (s3 Z) R)(hl:aH (z9 l) R)(hm:aH (gT m) R)
 (BP:Z.l.length<=1000) (kD:l.l.length<=1000) (UI:m.l.length<=1000) (hok:∀x∈m.l,w9 x) (dS:0<=t/\t<=2147483648):
 aI prog 46 [Z.val,l.val,m.val,.int .i64 t].toArray L R
  (λw E G=>∃(p:J a9) (q:J Int),w=.tuple #[p.val,q.val]/\(p.ok 2 a9.cells/\q.ok 1 aL)/\p.l=(P0 Z.l kY 3 l.l m.l t).cU/\q.l=V7 (P0 Z.l kY 3 l.l m.l t).C2 l.l.length/\q.L 3 aL++(p.L 90 a9.cells++L)=E/\R=G):=by refine bW 18 call46 func46 ?_;apply cO∘yG∘WR;refine cC rfl (SS _ _) ?_;apply(TH);refine cK (b8W Z kY 3 t l m _ _ fW hl hm BP kD UI hok dS) ?_;rintro v E G ⟨p,q,rfl,⟨N,V⟩,aQ,b7,rfl,rfl⟩;apply S1∘yG∘F5;refine bN (q.L 3 aL++(p.L 90 a9.cells++L)) R (J0 rfl LS LS) ?_;exact⟨p,q,rfl,⟨N,V⟩,aQ,b7,rfl,rfl⟩
end
structure eX where
 kind:Int
 cond:Int
 left:Int
 right:Int
 deriving Inhabited
def eX.cells(x:eX):List Value:=[.int .i64 x.kind,.int .i64 x.cond,.int .i64 x.left,.int .i64 x.right]
structure wV where
 cut:Int
 clear:Int
 TW:Int
 deriving Inhabited
abbrev wV.val(x:wV):Value:=.agg #[.int .i64 x.cut,.int .i64 x.clear,.int .i64 x.TW]
structure m9 where
 kind:Int
 target:Int
 value:Int
 nI:wV
 deriving Inhabited
def m9.cells(x:m9):List Value:=[.int .i64 x.kind,.int .i64 x.target,.int .i64 x.value,.int .i64 x.nI.cut,.int .i64 x.nI.clear,.int .i64 x.nI.TW]
abbrev m9.val(x:m9):Value:=.agg #[.int .i64 x.kind,.int .i64 x.target,.int .i64 x.value,.int .i64 x.nI.cut,.int .i64 x.nI.clear,.int .i64 x.nI.TW]
structure jU where
 jQ:a0 eX
 hold:Int
 aD:a0 Int
 tG:Int
 deriving Inhabited
def jU.cells(x:jU):List Value:=[x.jQ.val,.int .i64 x.hold,x.aD.val,.int .i64 x.tG]
abbrev jU.val(x:jU):Value:=.agg #[x.jQ.val,.int .i64 x.hold,x.aD.val,.int .i64 x.tG]
structure fR where
 over:Bool
 cQ:Int
 xY:Int
 deriving Inhabited,DecidableEq
def fR.cells(x:fR):List Value:=[.bool x.over,.int .i64 x.cQ,.int .i64 x.xY]
abbrev fR.val(x:fR):Value:=.agg #[.bool x.over,.int .i64 x.cQ,.int .i64 x.xY]
structure b8 where
 off:Bool
 clear:Int
 jJ:Int
 deriving Inhabited,DecidableEq
def b8.cells(x:b8):List Value:=[.bool x.off,.int .i64 x.clear,.int .i64 x.jJ]
structure dQ where
 bU:bR
 cD:a0 fA
 dD:a0 m9
 aU:a0 jU
 mF:a0 Int
def dQ.cells(x:dQ):List Value:=[x.bU.Y.places.val,x.bU.Y.aD.val,x.bU.a3.val,x.bU.aX.val,x.cD.val,x.dD.val,x.aU.val,x.mF.val]
abbrev dQ.val(x:dQ):Value:=.agg #[x.bU.Y.places.val,x.bU.Y.aD.val,x.bU.a3.val,x.bU.aX.val,x.cD.val,x.dD.val,x.aU.val,x.mF.val]
abbrev DT(x:a0 eX):fG:=x.fI 4 eX.cells []
abbrev Dv(x:a0 m9):fG:=x.fI 6 m9.cells []
abbrev jU.eQ(z:jU):aJ:=[DT z.jQ,cZ z.aD]
abbrev SO(x:a0 jU):fG:=x.fI 4 jU.cells (x.l.flatMap jU.eQ)
abbrev CY(x:a0 fR):fG:=x.fI 3 fR.cells []
abbrev sS(x:a0 b8):fG:=x.fI 3 b8.cells []
def aH.jQ{x:a0 jU}{R:aJ}(h:aH (SO x) R){i:Nat}{z:jU}(aA:x.l[i]?=some z):aH (DT z.jQ) R:=
 h.sub (.XE (List.mem_flatMap.2 ⟨z,gU aA,Qg⟩) .mW)
def aH.a3t{x:a0 jU}{R:aJ}(h:aH (SO x) R){i:Nat}{z:jU}(aA:x.l[i]?=some z):aH (cZ z.aD) R:=
 h.sub (.XE (List.mem_flatMap.2 ⟨z,gU aA,PL _ Qg⟩) .mW)
structure zX(s:dQ)(R:aJ):Prop where
 bU:nT s.bU R
 cD:aH (z9 s.cD) R
 dD:aH (Dv s.dD) R
 aU:aH (SO s.aU) R
 mF:aH (cZ s.mF) R
def zX.mono{s:dQ}{R G:aJ}(h:zX s R)(k:∀r∈R,aH r G):zX s G:=
 ⟨⟨h.bU.places.mono k,h.bU.aD.mono k,h.bU.a3.mono k,h.bU.aX.mono k⟩,h.cD.mono k,h.dD.mono k,h.aU.mono k,h.mF.mono k⟩
def FI(l:wV):Prop:=l.cut<=1000000/\0<=l.clear/\l.clear<l.cut/\0<=l.TW/\l.TW<=100000
instance(l:wV):Decidable (FI l):=by unfold FI;infer_instance
def KN(l:wV):Int:=if FI l then 0 else 1
def xG(x:a9)(n:Int):Int:=if x.bO<x.bG then 0 else if n<=x.bG then 1 else if x.bO<n then -1 else 0
def L2(w:fR):Prop:=0<=w.xY/\-1<=w.cQ/\w.cQ<=w.xY/\(w.cQ= -1\/w.over=true)
instance(w:fR):Decidable (L2 w):=by unfold L2;infer_instance
def yI(l:wV)(w:fR)(x:a9)(t:Int):fR:=
 if xG x l.cut≠-1 then⟨true,-1,t⟩
 else if w.over=false then⟨false,w.cQ,t⟩
 else if l.clear<x.bO then⟨true,-1,t⟩
 else if l.TW<=t-(if w.cQ<0 then t else w.cQ)then⟨false,-1,t⟩
 else⟨true,if w.cQ<0 then t else w.cQ,t⟩
def A5(l:wV)(w:fR)(t:Int):Int:=
 if¬FI l then 1 else if t<0\/2147483648<t\/t<w.xY then 8 else if¬L2 w then 10 else 0
def aKM:fR:=⟨false,0,0⟩
def Tj(l:wV)(w:fR)(x:a9)(t:Int):fR:=if A5 l w t=0 then yI l w x t else aKM
def k3(l:List eX):Nat->Int->Option (Int×Int)
 |0,_=>none
 |n+1,i=>
  if i<0 then none
  else if(l.getD i.toNat default).kind=1 then
   if(l.getD i.toNat default).left=0/\(l.getD i.toNat default).right=0/\0<=(l.getD i.toNat default).cond/\(l.getD i.toNat default).cond<64 then some (i,1)else none
  else if(l.getD i.toNat default).kind=2 then
   match k3 l n (i-1)with
   |none=>none
   |some (f,d)=>if(l.getD i.toNat default).cond=0/\(l.getD i.toNat default).right=0/\(l.getD i.toNat default).left=i-1 then some (f,d+1)else none
  else if(l.getD i.toNat default).kind=3\/(l.getD i.toNat default).kind=4 then
   match k3 l n (i-1)with
   |none=>none
   |some (m,r)=>if(l.getD i.toNat default).cond=0/\(l.getD i.toNat default).right=i-1/\(l.getD i.toNat default).left=m-1 then
    match k3 l n (m-1)with
    |none=>none
    |some (f,q)=>some (f,max q r+1)else none
  else none
def CA(l:List eX):Bool:=
 decide (1<=l.length/\l.length<=64) && (match k3 l l.length ((l.length:Int)-1)with
  |none=>false
  |some (f,d)=>decide (f=0/\d<=16))
def H8(l:List eX)(n:Nat):Int:=if CA l=false then 18 else if∃x∈l,x.kind=1/\(n:Int)<=x.cond then 1 else 0
def Y6(dO:List Int)(c:Int):Int:=if c<dO.length/\-1<=dO.getD c.toNat 0/\dO.getD c.toNat 0<=1 then dO.getD c.toNat 0 else 0
def CS(dO v:List Int)(x:eX):Int:=
 if x.kind=1 then Y6 dO x.cond else if x.kind=2 then -(v.getD x.left.toNat 0)
 else if x.kind=3 then min (v.getD x.left.toNat 0) (v.getD x.right.toNat 0)else max (v.getD x.left.toNat 0) (v.getD x.right.toNat 0)
def pH(l:List eX)(dO:List Int):Nat->List Int
 |0=>[]
 |k+1=>pH l dO k++[CS dO (pH l dO k) (l.getD k default)]
def v0(l:List eX)(dO:List Int):Int:=if CA l=true then(pH l dO l.length).getD (l.length-1) 0 else 0
def J7(a:bR)(s:fA):Int:=if s.kind=5 then(a.a3.l.length:Int)else if s.kind=6 then(a.aX.l.length:Int)else(a.Y.aD.l.length:Int)
def yK(a:bR)(S:List fA)(i:Nat):Option Int:=
 if qM (S.getD i default)≠0 then some (qM (S.getD i default))
 else if¬(0<=(S.getD i default).target/\(S.getD i default).target<J7 a (S.getD i default))then some 9
 else if∃k:Nat,k<i/\(S.getD k default).hV=(S.getD i default).hV then some 9 else none
def J9(a:bR)(S:List fA):Int:=((List.range S.length).findSome? (yK a S)).getD 0
def Y8(S:List fA)(n:Nat)(c:m9):Int:=
 if c.kind=1\/c.kind=2\/c.kind=4 then if 0<=c.target/\c.target<S.length then 0 else 9
 else if c.kind=3 then if(0<=c.target/\c.target<S.length)/\(S.getD c.target.toNat default).kind=5 then 0 else 9
 else if c.kind=5 then if 0<=c.target/\c.target<n then 0 else 4
 else 5
def H9(S:List fA)(n:Nat)(c:m9):Int:=
 if Y8 S n c≠0 then Y8 S n c else if c.value<0\/1099511627776<c.value then 1 else if c.kind=1 then KN c.nI else 0
def AB(n:Nat)(l:List Int)(i:Nat):Prop:=¬(0<=l.getD i 0/\l.getD i 0<n)\/(0<i/\l.getD i 0<=l.getD (i-1) 0)
instance(n:Nat)(l:List Int)(i:Nat):Decidable (AB n l i):=by unfold AB;infer_instance
def CR(dD n:Nat)(z:jU):Int:=
 if H8 z.jQ.l dD≠0 then H8 z.jQ.l dD else if z.hold<0\/100000<z.hold\/z.tG<0\/100<z.tG then 1
 else if∃i:Nat,i<z.aD.l.length/\AB n z.aD.l i then 4 else 0
def zR(e:Int):Option Int:=if e=0 then none else some e
def SH(s:dQ):Int:=(s.dD.l.findSome? λc=>zR (H9 s.cD.l s.bU.Y.aD.l.length c)).getD 0
def KM(s:dQ):Int:=(s.aU.l.findSome? λz=>zR (CR s.dD.l.length s.bU.Y.aD.l.length z)).getD 0
def TS(s:dQ):Int:=(s.mF.l.findSome? λp=>if p<1\/3<p then some 19 else none).getD 0
def oI(s:dQ):Int:=
 if hO s.bU≠0 then hO s.bU
 else if 64<s.cD.l.length\/64<s.dD.l.length\/16<s.aU.l.length\/64<s.mF.l.length then 2
 else if J9 s.bU s.cD.l≠0 then J9 s.bU s.cD.l
 else if SH s≠0 then SH s
 else if KM s≠0 then KM s
 else TS s
def rL(S:List fA)(m:List eA)(n t:Int):a9:=
 if(0<=n/\n<S.length)/\n<m.length/\(m.getD n.toNat default).lX=n then xL (S.getD n.toNat default) (m.getD n.toNat default) t else kY
def Jz(x:a9):Int:=if x.bO<x.bG then 0 else if x.bG=1/\x.bO=1 then -1 else if 1<x.bG\/x.bO<1 then 1 else 0
def E7(c:m9)(w:fR)(t:Int):Int:=if c.kind=1 then A5 c.nI w t else 0
def OJ(S:List fA)(m:List eA)(Z:List a9)(c:m9)(w:fR)(t:Int):Int:=
 if c.kind=5 then -(rJ Z ⟨c.target,c.value⟩)
 else if c.kind=2 then -(xG (rL S m c.target t) c.value)
 else if c.kind=3 then Jz (rL S m c.target t)
 else if c.kind=4 then if rL S m c.target t=kY then 1 else -1
 else if(yI c.nI w (rL S m c.target t) t).over=false then -1
 else if xG (rL S m c.target t) c.nI.cut=1 then 1 else 0
def GS(S:List fA)(m:List eA)(c:m9)(w:fR)(t:Int):fR:=if c.kind=1 then yI c.nI w (rL S m c.target t) t else w
def qW(s:dQ)(m:List eA)(w:List fR)(Z:List a9)(t:Int):Int:=
 if oI s≠0 then oI s
 else if¬(m.length=s.cD.l.length/\w.length=s.dD.l.length/\Z.length=s.bU.Y.aD.l.length)then 11
 else if t<0\/2147483648<t then 8
 else((List.range w.length).findSome? λi=>zR (E7 (s.dD.l.getD i default) (w.getD i default) t)).getD 0
def JO(s:dQ)(m:List eA)(w:List fR)(Z:List a9)(t:Int):List Int:=
 if qW s m w Z t≠0 then[]else(List.range w.length).map λi=>OJ s.cD.l m Z (s.dD.l.getD i default) (w.getD i default) t
def p5(s:dQ)(m:List eA)(w:List fR)(Z:List a9)(t:Int):List fR:=
 if qW s m w Z t≠0 then[]else(List.range w.length).map λi=>GS s.cD.l m (s.dD.l.getD i default) (w.getD i default) t
def q6(s:dQ)(v:List Int)(c:List b8)(t:Int):Int:=
 if oI s≠0 then oI s else if¬(v.length=s.dD.l.length/\c.length=s.aU.l.length)then 11 else if t<0\/2147483648<t then 8 else 0
def WY(v:Int)(c:b8)(t:Int):b8:=
 if v= -1 then if c.clear= -1 then⟨c.off,t,c.jJ⟩else c else if c.off=true then⟨true,-1,c.jJ⟩else⟨true,-1,v⟩
def KT(s:dQ)(v:List Int)(c:List b8)(t:Int)(i:Nat):b8:=WY (v0 (s.aU.l.getD i default).jQ.l v) (c.getD i default) t
def BE(s:dQ)(v:List Int)(c:List b8):Nat->List Int
 |0=>[]
 |k+1=>if v0 (s.aU.l.getD k default).jQ.l v≠-1/\(c.getD k default).off=false then BE s v c k++[(k:Int)]else BE s v c k
def qA(s:dQ)(v:List Int)(c:List b8)(t:Int):List b8:=if q6 s v c t≠0 then[]else(List.range c.length).map (KT s v c t)
def AD(s:dQ)(v:List Int)(c:List b8)(t:Int):List Int:=if q6 s v c t≠0 then[]else BE s v c c.length
section
attribute [local irreducible] cH c6 dP aI cJ eD e9 e0 e1 e5 eS e8 J.L
def QJ(h:A->B:=by exact(aG lR ·)):=h
def aCI(h:A->B:=by exact(aG Ra ·)):=h
def a3Y(h:A->B:=by exact Sn (v:=Value.bool _) O rfl rfl rfl rfl s6 Xv Xn aE):=h
def aQ6(h:B:=by exact⟨by rw[c1,yI,if_neg aQ,if_pos Qp];first|rfl|rw[show w.over=false by simpa using dX],rfl,rfl⟩):=h
def aL6(h:B:=by exact⟨by rw[c1,yI,if_neg aQ,if_neg a23,if_pos D];first|rfl|rw[ho],rfl,rfl⟩):=h
def b1t(h:B:=by exact⟨by rw[c1,yI,if_neg aQ,if_neg a23,if_neg eG,if_pos (by first|(rw[if_pos hW];omega)|(rw[if_neg hW];omega))],rfl,rfl⟩):=h
def b6m(h:B:=by exact⟨by rw[c1,yI,if_neg aQ,if_neg a23,if_neg eG,if_neg (by first|(rw[if_pos hW];omega)|(rw[if_neg hW];omega))];first|(rw[if_pos hW,ho];done)|(rw[if_neg hW,ho];done),rfl,rfl⟩):=h
def b7u(h:B:=by exact⟨by rw[c1,yI,if_neg aQ,if_neg a23,if_neg eG,if_pos (by first|(rw[if_pos D];omega)|(rw[if_neg D];omega))],rfl,rfl⟩):=h
def b19(h:B:=by exact⟨by rw[c1,yI,if_neg aQ,if_neg a23,if_neg eG,if_neg (by first|(rw[if_pos D];omega)|(rw[if_neg D];omega))];first|(rw[if_pos D,ho];done)|(rw[if_neg D,ho];done),rfl,rfl⟩):=h
def aBL(l:wV)(L:aP)(R:aJ):
 aI prog 177 [l.val].toArray L R (λv E G=>v=.int .i64 (KN l)/\L=E/\R=G):=by
 refine bW 28 call177 func177 ?_;apply(c8);intro gK;apply g7∘Lc∘c9;apply cB (aC:=[_,_,_]) (j:=3) (a7:=6) rfl rfl aE rfl aW rfl;·exact Ya
 intro iG;apply(c9);apply cB (aC:=[_,_,_,_,_]) (j:=8) (a7:=11) rfl rfl aE rfl aW rfl;·intro gM;replace gM:=a8 gM;exact(kJ) PP
 intro wJ;exact aVy
def aCD(l:wV)(L:aP)(R:aJ):
 aI prog 224 [l.val].toArray L R (λv E G=>v=.int .i64 (KN l)/\L=E/\R=G):=by
 refine bW 28 call224 func224 ?_;apply(c8);intro gK;apply g7∘r8;apply cB (aC:=[_,_,_,_,_]) (j:=3) (a7:=6) rfl rfl aE rfl aW rfl;·intro eN;replace eN:=a8 eN;exact(kJ) PP
 intro iG;apply(c9);apply cB (aC:=[_,_,_]) (j:=10) (a7:=13) rfl rfl aE rfl aW rfl;·intro qS;replace qS:=a8 qS;exact a9o
 intro a7G;exact aVy
def aAv(x:a9)(n:Int)(L:aP)(R:aJ):
 aI prog 230 [x.val,.int .i64 n].toArray L R (λv E G=>v=.int .i64 (xG x n)/\L=E/\R=G):=by
 refine bW 21 call230 func230 ?_;apply(c8);intro cS;apply(dE);refine eI (aZ (a6 (e3 (a6 (cR ?_)))));apply kJ∘F6∘zF;apply(W)<;>intro aO;·apply(A8);exact aXR
 apply cO∘gE∘DL∘zF;apply(W)<;>intro bF;·apply(A8);exact aXe
 apply cO∘gE∘JN∘zF;apply(W)<;>intro b2;·apply(A8);exact aXw
 refine dK (gV (aZ (a6 (cR ?_))));apply(q3);exact aXA
def a9F(x:a9)(n:Int)(L:aP)(R:aJ):
 aI prog 299 [x.val,.int .i64 n].toArray L R (λv E G=>v=.int .i64 (xG x n)/\L=E/\R=G):=by
 refine bW 18 call299 func299 ?_;apply(c8);intro cS;apply g7∘kJ∘BA;apply(W)<;>intro aO;·apply(m1);exact aXR
 apply iK∘gE∘GY;apply(W)<;>intro bF;·apply(m1);exact aXe
 apply iK∘gE∘D1;apply(W)<;>intro b2;·apply(m1);exact aXw
 apply(S3);exact aXA
def aCl{l:wV}:KN l=0↔FI l:=by rw[KN];split<;>simp_all
def aCT{l:wV}{w:fR}{t:Int}(N:FI l)(V:¬(t<0\/2147483648<t\/t<w.xY))(aQ:L2 w):A5 l w t=0:=by rw[A5,if_neg (λh=>h N),if_neg V,if_neg (λh=>h aQ)]
def aAd{l:wV}{w:fR}{x:a9}{t:Int}{e:Int}(h:A5 l w t=e)(X:e≠0):Tj l w x t=aKM:=by rw[Tj,if_neg D]
def a4p{l:wV}{w:fR}{x:a9}{t:Int}(h:A5 l w t=0):Tj l w x t=yI l w x t:=by rw[Tj,if_pos h]
def b3S(l:wV)(w:fR)(x:a9)(t:Int)(L:aP)(R:aJ):
 aI prog 228 [l.val,w.val,x.val,.int .i64 t].toArray L R (λv E G=>v=.tuple #[(Tj l w x t).val,.int .i64 (A5 l w t)]/\L=E/\R=G):=by
 refine bW 97 call228 func228 ?_;apply(c8);intro cT;apply(iU);intro eH;apply(iU);intro hP;apply(dA);intro gL;apply g7∘QJ;refine cC rfl (aBL l _ _) ?_;apply(kB);apply(W)<;>intro aO;·exact aZ0
 have hl:FI l:=aCl.1 D;apply(OB);apply cB (aC:=[_,_]) (j:=2) (a7:=19) rfl rfl aE rfl aW rfl;·exact GG
 intro mY;apply(c9);apply cB (aC:=[_,_,_,_]) (j:=6) (a7:=23) rfl rfl aE rfl aW rfl;·intro kC;replace kC:=a8 kC;exact(b1) R4
 intro JG;apply(b3);apply(W)<;>intro bF;·exact b0f
 have dS:¬(t<0\/2147483648<t\/t<w.xY):=by(try simp at bF);omega
 apply iK∘r8;apply cB (aC:=[_,_,_]) (j:=3) (a7:=33) rfl rfl aE rfl aW rfl;·exact GF
 intro iG;apply(c9);apply cB (aC:=[_,_,_]) (j:=8) (a7:=38) rfl rfl aE rfl aW rfl;·exact Ju
 intro wJ;apply(c9);apply cB (aC:=[_,_,_,_,_]) (j:=13) (a7:=43) rfl rfl aE rfl aW rfl;·intro pW;replace pW:=a8 pW;exact(kJ) PQ
 intro UW;apply(c9);apply cB (aC:=[_,_,_,_,_,_,_,_]) (j:=20) (a7:=50) rfl rfl aE rfl aW rfl;·
  intro MW;replace MW:=a8 MW;apply fH∘rO;apply iZ (aC:=[_,_,_]) (j:=24) (a7:=54) rfl rfl aE rfl aW rfl;·intro RA;replace RA:=a8 RA;exact(fH) LQ
  intro aGY;exact hL
 intro a2l;apply(b3);apply(W)<;>intro b2;·exact aVN
 have c1:A5 l w t=0:=aCT hl dS (by rw[L2];cases ho:w.over<;>simp[ho]at b2|- <;>omega);rw[a4p c1];apply WV∘r7;refine eI (aZ (a6 (e3 (a6 (cR ?_)))));apply oC∘fH;refine cC rfl (aAv x l.cut _ _) ?_;apply U8∘zF;apply(W)<;>intro dZ;·apply eK∘eP∘a3Y∘r7;refine eI (gV (aZ (a6 (cR ?_))));apply QJ∘pI;exact aXm
 have aQ:¬xG x l.cut≠-1:=dZ;apply N9∘Cj∘zF;apply(W)<;>intro dX;·refine dK (gV (aZ (a6 (cR ?_))));apply QJ∘pI;refine bN L R tR ?_;exact aQ6
 have ho:w.over=true:=by simpa using dX
 apply cO∘kJ∘F6∘zF;apply(W)<;>intro h3;·apply eK∘r7;refine eI (gV (aZ (a6 (cR ?_))));apply QJ∘pI;refine bN L R tR ?_;exact aL6
 have eG:¬l.clear<x.bO:=by omega
 apply s2∘fH∘D1;apply(W)<;>intro hW;·
  apply p8∘G3∘IW∘kP∘fH∘GY;apply(W)<;>intro oO;·exact aYU
  exact aZQ
 apply eR∘IW∘kP∘fH∘GY;apply(W)<;>intro oO;·exact aYU
 exact aZQ
def b5L(l:wV)(w:fR)(x:a9)(t:Int)(L:aP)(R:aJ):
 aI prog 301 [l.val,w.val,x.val,.int .i64 t].toArray L R (λv E G=>v=.tuple #[(Tj l w x t).val,.int .i64 (A5 l w t)]/\L=E/\R=G):=by
 refine bW 92 call301 func301 ?_;apply(c8);intro cT;apply(iU);intro eH;apply(iU);intro hP;apply(dA);intro gL;apply g7∘QJ;refine cC rfl (aCD l _ _) ?_;apply(kB);apply(W)<;>intro aO;·exact aZ0
 have hl:FI l:=aCl.1 D;apply(OB);apply cB (aC:=[_,_]) (j:=2) (a7:=19) rfl rfl aE rfl aW rfl;·exact GG
 intro mY;apply(c9);apply cB (aC:=[_,_,_,_]) (j:=6) (a7:=23) rfl rfl aE rfl aW rfl;·intro kC;replace kC:=a8 kC;exact(b1) R4
 intro JG;apply(b3);apply(W)<;>intro bF;·exact b0f
 have dS:¬(t<0\/2147483648<t\/t<w.xY):=by(try simp at bF);omega
 apply iK∘r8;apply cB (aC:=[_,_,_]) (j:=3) (a7:=33) rfl rfl aE rfl aW rfl;·exact Ya
 intro iG;apply(c9);apply cB (aC:=[_,_,_,_,_]) (j:=8) (a7:=38) rfl rfl aE rfl aW rfl;·intro gM;replace gM:=a8 gM;exact(kJ) PQ
 intro wJ;apply(c9);apply cB (aC:=[_,_,_,_,_,_,_,_]) (j:=15) (a7:=45) rfl rfl aE rfl aW rfl;·
  intro w5;replace w5:=a8 w5;apply fH∘rO;apply iZ (aC:=[_,_,_]) (j:=19) (a7:=49) rfl rfl aE rfl aW rfl;·intro DB;replace DB:=a8 DB;exact(fH) LQ
  intro bKm;exact hL
 intro a7H;apply(b3);apply(W)<;>intro b2;·exact aVN
 have pA:L2 w:=by rw[L2];cases ho:w.over<;>simp[ho]at b2|- <;>omega
 have c1:A5 l w t=0:=aCT hl dS pA;have HM:=pA.2.1;rw[a4p c1];apply WV∘r7∘r1∘oC∘fH;refine cC rfl (a9F x l.cut _ _) ?_;apply(qP);apply(W)<;>intro dZ;·apply aCp∘a3Y∘G3∘QJ∘q4;exact aXm
 have aQ:¬xG x l.cut≠-1:=dZ;apply GW∘oW;apply(W)<;>intro dX;·apply cO∘QJ∘q4;refine bN L R tR ?_;exact aQ6
 have ho:w.over=true:=by simpa using dX
 apply iK∘kJ∘BA;apply(W)<;>intro h3;·apply cO∘G3∘QJ∘q4;refine bN L R tR ?_;exact aL6
 have eG:¬l.clear<x.bO:=by omega
 apply(aCo);apply(W)<;>intro hW;·apply p8∘r7∘r1∘IW∘kP∘fH∘GY;exact aWr
 apply iK∘IW∘kP∘fH∘GY;exact aWr
def b9v(L:aP)(R:aJ):
 aI prog 125 ([]:List Value).toArray L R (λv E G=>v=fR.val ⟨true,-1,0⟩/\L=E/\R=G):=by refine bW 2 call125 func125 ?_;exact aY7
end
def Kb(l:List eX)(j:Nat):Prop:=
 ((l.getD j default).kind=1/\0<=(l.getD j default).cond/\(l.getD j default).cond<64)\/
 ((l.getD j default).kind=2/\1<=j/\(l.getD j default).left=(j:Int)-1)\/
 (((l.getD j default).kind=3\/(l.getD j default).kind=4)/\1<=j/\(l.getD j default).right=(j:Int)-1/\0<=(l.getD j default).left/\(l.getD j default).left<(j:Int))
def VU{l:List eX}: ∀(n:Nat) (i f d:Int),k3 l n i=some (f,d)->(0<=f/\f<=i)/\(1<=d/\d<=n)/\∀j:Nat,f<=(j:Int)->(j:Int)<=i->Kb l j
 |0,i,f,d,h=>by rw[k3]at h;cases h
 |n+1,i,f,d,h=>by
  rw[k3]at h
  split at h
  ·cases h
  rename_i aA
  have aDf:∀j:Nat,(j:Int)=i->l.getD j default=l.getD i.toNat default:=λj aY=>by rw[<-aY,vY]
  split at h
  ·rename_i N
   split at h
   ·rename_i V
    cases h
    refine⟨by omega,by omega,λj yT w7=>?_⟩
    have aY:=aDf j D
    rw[Kb,aY]
    exact .inl ⟨N,V.2.2.1,V.2.2.2⟩
   ·cases h
  split at h
  ·rename_i N
   split at h
   ·cases h
   rename_i BM a0S hp
   split at h
   ·rename_i V
    cases h
    obtain⟨UV,Pl,Cb⟩:=VU n _ _ _ hp
    refine⟨by omega,by omega,λj yT w7=>?_⟩
    by_cases aY:(j:Int)=i
    ·have Ur:=aDf j aY
     rw[Kb,Ur]
     exact .inr (.inl ⟨N,by omega,by omega⟩)
    ·exact Cb j yT D
   ·cases h
  split at h
  ·rename_i N
   split at h
   ·cases h
   rename_i m r hp
   split at h
   ·rename_i V
    split at h
    ·cases h
    rename_i BM q hq
    cases h
    obtain⟨UV,Pl,Cb⟩:=VU n _ _ _ hp
    obtain⟨eU,eE,i2⟩:=VU n _ _ _ hq
    refine⟨by omega,by omega,λj yT w7=>?_⟩
    by_cases aY:(j:Int)=i
    ·have Ur:=aDf j aY
     rw[Kb,Ur]
     exact .inr (.inr ⟨N,by omega,by omega,by omega,by omega⟩)
    ·rcases JT (j:Int) m with hm|hm
     ·exact i2 j yT D
     ·exact Cb j hm D
   ·cases h
  ·cases h
def a0n{l:List eX}: ∀(n m:Nat) (i:Int) (x:Int×Int),n<=m->k3 l n i=some x->k3 l m i=some x
 |0,_,i,x,_,h=>by rw[k3]at h;cases h
 |n+1,0,i,x,bDv,h=>by omega
 |n+1,m+1,i,x,bDv,h=>by
  rw[k3]at h|-
  split at h
  ·cases h
  rename_i aA
  rw[if_neg aA]
  split at h
  ·rename_i N;rw[if_pos N];exact h
  rename_i N
  rw[if_neg N]
  split at h
  ·rename_i V
   rw[if_pos V]
   split at h
   ·cases h
   rename_i BM a0S hp
   rw[a0n n m _ _ D hp]
   exact h
  rename_i V
  rw[if_neg V]
  split at h
  ·rename_i aQ
   rw[if_pos aQ]
   split at h
   ·cases h
   rename_i a b hp
   rw[a0n n m _ _ D hp]
   dsimp only
   split at h
   ·rename_i b7
    rw[if_pos b7]
    split at h
    ·cases h
    rename_i fE Aa hq
    rw[a0n n m _ _ D hq]
    exact h
   ·cases h
  ·cases h
def Kk{l:List eX}:CA l=true↔(1<=l.length/\l.length<=64)/\∃d,k3 l l.length ((l.length:Int)-1)=some (0,d)/\d<=16:=by
 rw[CA,oS,decide_eq_true_eq];constructor;·
  rintro⟨N,V⟩;refine⟨N,?_⟩;split at V;·cases V
  ·rename_i f d hp;simp only[decide_eq_true_eq]at V;obtain⟨rfl,hd⟩:=V;exact⟨d,hp,hd⟩
 ·rintro⟨N,d,hp,hd⟩;refine⟨N,?_⟩;rw[hp];simpa using hd
def aKW{l:List eX}(h:CA l=true)(j:Nat)(aY:j<l.length):Kb l j:=by obtain⟨N,d,hp,_⟩:=Kk.1 h;exact(VU _ _ _ _ hp).2.2 j D D
def VT{l:List eX}{dO:List Int}: ∀k,(pH l dO k).length=k
 |0=>rfl
 |k+1=>by rw[pH,iD,VT k];rfl
def Y3{l:List eX}{dO:List Int}: ∀{k j:Nat},j<k->(pH l dO k).getD j 0=CS dO (pH l dO j) (l.getD j default)
 |0,j,h=>by omega
 |k+1,j,h=>by
  have hl:=VT (l:=l) (dO:=dO) k
  rw[pH,iW]
  rcases gY j k with N|N
  ·rw[HU D,<-iW]
   exact Y3 N
  ·obtain rfl:j=k:=by omega
   rw[NM D,hl,Ws]
   rfl
def VW(a b:Int):Prop:=(-1<=a/\a<=1)/\(-1<=b/\b<=1)/\(a=0\/a=b)
def b7B{dO PG v Wn:List Int}{x:eX}(hn:dO.length=PG.length)(hv:∀j:Nat,dO.getD j 0=0\/dO.getD j 0=PG.getD j 0)(M:∀j:Nat,-1<=PG.getD j 0/\PG.getD j 0<=1)(h:∀j:Nat,VW (v.getD j 0) (Wn.getD j 0)):VW (CS dO v x) (CS PG Wn x):=by
 have N:=h x.left.toNat;have V:=h x.right.toNat;rw[VW]at N V;rw[CS,CS];split;·have aQ:=hv x.cond.toNat;have b7:=M x.cond.toNat;rw[Y6,Y6,<-hn,VW];exact a8s
 split;·rw[VW];omega
 split;·rw[VW];omega
 ·rw[VW];omega
def aNU{l:List eX}{dO PG:List Int}(hn:dO.length=PG.length)(hv: ∀j:Nat,dO.getD j 0=0\/dO.getD j 0=PG.getD j 0)(M: ∀j:Nat,-1<=PG.getD j 0/\PG.getD j 0<=1): ∀k j:Nat,VW ((pH l dO k).getD j 0) ((pH l PG k).getD j 0)
 |0,j=>by rw[pH,pH];simp[VW]
 |k+1,j=>by
  have hl:=VT (l:=l) (dO:=dO) k
  have aTa:=VT (l:=l) (dO:=PG) k
  rcases gY j (k+1)with N|N
  ·rw[Y3 N,Y3 N]
   rcases gY j k with V|V
   ·have:=aNU (l:=l) hn hv M k j
    rw[Y3 V,Y3 V]at this
    exact this
   ·obtain rfl:j=k:=by omega
    exact b7B hn hv M (aNU hn hv M j)
  ·have dY:(pH l dO (k+1)).length=k+1:=VT _
   have eY:(pH l PG (k+1)).length=k+1:=VT _
   rw[iW,iW,sJ D,sJ D]
   simp[VW]
def b3W{dO v:List Int}{x:eX}(h:∀j:Nat,-1<=v.getD j 0/\v.getD j 0<=1):-1<=CS dO v x/\CS dO v x<=1:=by
 have N:=h x.left.toNat;have V:=h x.right.toNat;rw[CS];split;·rw[Y6];split<;>omega
 split;·omega
 split<;>omega
def a5e{l:List eX}{dO:List Int}: ∀k j:Nat,-1<=(pH l dO k).getD j 0/\(pH l dO k).getD j 0<=1
 |0,j=>by rw[pH];simp
 |k+1,j=>by
  rcases gY j (k+1)with N|N
  ·rw[Y3 N]
   rcases gY j k with V|V
   ·have:=a5e (l:=l) (dO:=dO) k j
    rw[Y3 V]at this
    exact this
   ·obtain rfl:j=k:=by omega
    exact b3W (a5e j)
  ·have dY:(pH l dO (k+1)).length=k+1:=VT _
   rw[iW,sJ D]
   simp
attribute [local irreducible] cH c6 dP aI cJ eD e9 e0 e1 e5 eS e8 J.L
def aPI(h:A->B:=by exact(a4 (GN aW) ·)):=h
def b9J(h:B:=by exact⟨i,1,_,rfl,⟨by omega,λh=>by rw[qC,if_pos a87],λh=>by rw[qC,if_neg a87]⟩,rfl,rfl⟩):=h
def aOg(h:A->B:=by exact(cK (cM (i-1) _ D D D) ·)):=h
def b9M(h:B:=by exact⟨f,max q r+1,cS,rfl,⟨by omega,λh=>by rw[qC,Ma.DO h],λh=>by rw[qC,Ma.no h]⟩,rfl,rfl⟩):=h
def b7T(h:B:=by exact⟨0,0,false,rfl,⟨by omega,(λh=>by cases h),λ_=>by rw[k3,if_neg aO,<-K,if_neg bF,if_neg b2,if_neg D]⟩,rfl,rfl⟩):=h
structure a4F(l:List eX)(n:Nat)(i f d:Int)(b:Bool):Prop where
 vK:0<=d/\d<=n
 DO:b=true->k3 l n i=some (f,d)
 no:b=false->k3 l n i=none
def a0m{l:List eX}{i:Int}(h:i<0): ∀n,k3 l n i=none
 |0=>rfl
 |n+1=>by rw[k3,if_pos h]
def aPo{l:List eX}{n:Nat}{i:Int}{x:eX}(bQ:¬i<0)(K:x=l.getD i.toNat default)(N:¬x.kind=1)(V:x.kind=2):
 k3 l (n+1) i=match k3 l n (i-1)with
  |none=>none
  |some (f,d)=>if x.cond=0/\x.right=0/\x.left=i-1 then some (f,d+1)else none:=by rw[k3,if_neg bQ,<-K,if_neg N];exact if_pos V
def aJj{l:List eX}{n:Nat}{i:Int}{x:eX}(bQ:¬i<0)(K:x=l.getD i.toNat default)(N:¬x.kind=1)(V:¬x.kind=2)(aQ:x.kind=3\/x.kind=4):
 k3 l (n+1) i=match k3 l n (i-1)with
  |none=>none
  |some (m,r)=>if x.cond=0/\x.right=i-1/\x.left=m-1 then
   match k3 l n (m-1)with
   |none=>none
   |some (f,q)=>some (f,max q r+1)else none:=by rw[k3,if_neg bQ,<-K,if_neg N,if_neg V];exact if_pos aQ
def b7D(l:a0 eX)(n:Nat)(i:Int)(L:aP)(R:aJ)(aA:i<0):
 aI prog 175 [l.val,.int .i64 i].toArray L R (λv E G=>∃(f d:Int) (b:Bool),v=.tuple #[.int .i64 f,.int .i64 d,.bool b]/\a4F l.l n i f d b/\L=E/\R=G):=by
 refine bW 122 call175 func175 ?_;apply rN∘Lg∘Le;apply(W)<;>intro aO;·apply rN∘GX∘AU;refine bN L R Qo ?_;exact⟨0,0,false,rfl,⟨by omega,(λh=>by cases h),λ_=>a0m aA n⟩,rfl,rfl⟩
 (exfalso;omega)
def b4x(l:a0 eX)(n:Nat)(R:aJ)(hl:aH (DT l) R)(hn:n<=64)
 (cM:∀(i:Int) (L:aP),i<n->i<l.l.length->-1<=i->aI prog 175 [l.val,.int .i64 i].toArray L R (λv E G=>∃(f d:Int) (b:Bool),v=.tuple #[.int .i64 f,.int .i64 d,.bool b]/\a4F l.l n i f d b/\L=E/\R=G))
 (i:Int) (L:aP) (aA:i<n+1) (Ay:i<l.l.length) (BR:-1<=i):
 aI prog 175 [l.val,.int .i64 i].toArray L R (λv E G=>∃(f d:Int) (b:Bool),v=.tuple #[.int .i64 f,.int .i64 d,.bool b]/\a4F l.l (n+1) i f d b/\L=E/\R=G):=by
 refine bW 122 call175 func175 ?_;apply rN∘Lg∘Le;apply(W)<;>intro aO;·apply rN∘GX∘AU;refine bN L R Qo ?_;exact⟨0,0,false,rfl,⟨by omega,(λh=>by cases h),λ_=>a0m aO _⟩,rfl,rfl⟩
 have rB:=bJ l.l i.toNat default;obtain⟨x,K⟩:∃x,x=l.l.getD i.toNat default:=⟨_,rfl⟩;rw[<-K]at rB;apply(QN);refine aG aZq ?_;apply(OH);intro kL;apply(G6);refine eI (aZ (e3 (a6 (cR ?_))));apply(v8);apply(W)<;>intro bF;·
  refine a6 ?_;refine gJ O [0,1,2,3,4,5,6,7,8,9,10,11,12,13,14,15,16,17,18,19,20,21] ([a5.mk kL _ _]) cX bE a2 ?_;apply g1∘iI;refine a4 B7 ?_;apply(tN);refine l0 (k:=30) aW (λeN=>?_) (λeN=>?_);·
   replace eN:=a8 eN;apply(iI);refine a4 B7 ?_;apply(mU);refine l0 (k:=35) aW (λgM=>?_) (λgM=>?_);·
    replace gM:=a8 gM;apply(iI);refine a4 JU ?_;apply(mU);refine l0 (k:=40) aW (λpW=>?_) (λpW=>?_);·replace pW:=a8 pW;apply(iI);refine a4 HY ?_;exact aIK
    replace pW:=a8 pW;(iterate 3 apply(kQ));exact aIK
   replace gM:=a8 gM;exact aXo
  replace eN:=a8 eN;iterate 3 apply(kQ)
  apply(mU);exact aXo
 apply(oX);apply(W)<;>intro b2;·
  apply TC∘kP∘aOg;rintro v E G ⟨f,d,b,rfl,i0,rfl,rfl⟩;have aDO:=i0.vK;refine aG iR ?_;iterate 3 apply(EJ)
  apply dE∘GX∘jW;refine gJ O [0,1,2,3,4,5,6,7,8,9,10,11,12,13,14,15,16,17,18,19,20,21,22,23] ([a5.mk kL _ _]) cX bE a2 ?_;apply g1∘g1∘EK∘tN∘tN;refine l0 (k:=59) aW (λeN=>?_) (λeN=>?_);·
   replace eN:=a8 eN;apply(iI);refine a4 B7 ?_;apply(mU);refine l0 (k:=64) aW (λgM=>?_) (λgM=>?_);·
    replace gM:=a8 gM;apply(iI);refine a4 B7 ?_;apply(mU);refine l0 (k:=69) aW (λpW=>?_) (λpW=>?_);·replace pW:=a8 pW;apply oV∘yZ;refine a4 B7 ?_;exact aHJ
    replace pW:=a8 pW;(iterate 5 apply(kQ));exact aHJ
   replace gM:=a8 gM;exact aWQ
  replace eN:=a8 eN;iterate 3 apply(kQ)
  apply(mU);exact aWQ
 apply s2∘v8;apply(W)<;>intro dZ;·refine dK (aZ ?_);exact aVP
 apply eK∘v8;exact aVP
def aJO(l:a0 eX)(R:aJ)(hl:aH (DT l) R):∀(n:Nat),n<=64->∀(i:Int) (L:aP),i<n->i<l.l.length->-1<=i->
 aI prog 175 [l.val,.int .i64 i].toArray L R (λv E G=>∃(f d:Int) (b:Bool),v=.tuple #[.int .i64 f,.int .i64 d,.bool b]/\a4F l.l n i f d b/\L=E/\R=G)
 |0,_,i,L,aA,_,_=>b7D l 0 i L R D
 |n+1,hn,i,L,aA,Ay,BR=>b4x l n R hl D (λi L N V aQ=>aJO l R hl n D i L N V aQ) i L aA Ay BR
def aLd(l:a0 eX)(L:aP)(R:aJ)(hl:aH (DT l) R):
 aI prog 99 [l.val].toArray L R (λv E G=>v=.bool (CA l.l)/\L=E/\R=G):=by
 refine bW 32 call99 func99 ?_;apply TM∘nO∘CI;apply cB (aC:=[_,_,_]) (j:=3) (a7:=9) rfl rfl aE rfl aW rfl;·intro eN;replace eN:=a8 eN;exact(nO) PQ
 intro iG;apply(b3);apply(W)<;>intro aO;·exact aV9
 apply G1∘QQ;refine cK (aJO l _ hl l.l.length D _ _ D D D) ?_;rintro v E G ⟨f,d,b,rfl,i0,rfl,rfl⟩;refine aG iR ?_;iterate 3 apply(EJ)
 apply dE∘GX∘lP∘c9∘c9;apply iZ (aC:=[_,_]) (j:=1) (a7:=24) rfl rfl aE rfl aW rfl;·intro jM;replace jM:=a8 jM;exact(b1) LP
 intro aUc;apply(c9);apply iZ (aC:=[_,_]) (j:=5) (a7:=28) rfl rfl aE rfl aW rfl;·intro k5;replace k5:=a8 k5;exact(b1) VP
 intro Ce;apply(v9);refine lG L R ?_;refine⟨?_,rfl,rfl⟩;rw[CA,show decide (1<=l.l.length/\l.l.length<=64)=true from decide_eq_true D];cases b with
 |false=>rw[i0.no rfl];rfl
 |true=>rw[i0.DO rfl];refine congrArg Value.bool ?_;rw[Jb];simp
def b1V{l:List eX}{n:Nat}(h:CA l=true)(k:Nat)(hk:k<l.length)(N:(l.getD k default).kind=1)(V:(n:Int)<=(l.getD k default).cond):H8 l n=1:=by rw[H8,if_neg (by rw[h];decide),if_pos ⟨_,gU (iL default hk),N,V⟩]
def b8J{l:List eX}{n:Nat}(h:CA l=true)(hk:∀k:Nat,k<l.length->¬((l.getD k default).kind=1/\(n:Int)<=(l.getD k default).cond)):H8 l n=0:=by
 rw[H8,if_neg (by rw[h];decide),if_neg];rintro⟨x,K,N,V⟩;obtain⟨k,RD,rfl⟩:=List.mem_iff_getElem.1 K;have e:l.getD k default=l[k]:=by rw[iW,ET RD];rfl
 exact hk k RD (by rw[e];exact⟨N,V⟩)
def b5p(l:a0 eX)(n:Nat)(L:aP)(R:aJ)(hl:aH (DT l) R):
 aI prog 225 [l.val,.int .i64 (n:Int)].toArray L R (λv E G=>v=.int .i64 (H8 l.l n)/\L=E/\R=G):=by
 refine bW 26 call225 func225 ?_;apply TK∘hM;refine cC rfl (aLd l _ _ hl) ?_;apply(oW);apply(W)<;>intro aO;·exact aW5
 have M:CA l.l=true:=by simpa using aO
 have kD:=(Kk.1 M).1;apply iK∘D2;refine c7 [(1,.int _ _),(10,.slice _ _ _),(11,.int _ _),(12,.int _ _)] bP λeZ=>?_;refine gP ([4,6]++b4 12 14) (λg:{k:Nat//k<=l.l.length/\∀j:Nat,j<k->¬((l.l.getD j default).kind=1/\(n:Int)<=(l.l.getD j default).cond)}=>[(12,.int .i64 ((g.1:Nat):Int))]) (λg=>l.l.length-g.1) (⟨0,by omega,λj aY=>by omega⟩) ?_;rintro⟨k,hk,hD⟩ bZ;try dsimp only
 apply(h2);apply(W)<;>intro bF;·
  have N:=bJ l.l k default;apply(j7);refine aG qH ?_;apply(OH);intro hP;apply CL∘tC;apply iZ (aC:=[_,_,_,_]) (j:=3) (a7:=19) rfl rfl aE rfl aW rfl;·exact a80
  intro iG;apply(b3);apply(W)<;>intro b2;·exact aWd
  apply(n6);exact a8j
 exact b0o
end Go.Proofs.YtchfclmokpbldaaGreat
namespace Go.Proofs.YtchfclmokpbldaaGreat
open Go.Aw Go Go.Proofs.Tryz
section
def b3w(h:A->B:=by exact(aG lR ·)):=h
def b7X(h:A->B:=by exact(aG aYS ·)):=h
def aQe(h:A->B:=by exact(aG Jq ·)):=h
def b6G{P:Program}{bA:Operand->Value}{L:aP}{R:aJ}{dst:Option Tmp}{ty:TypeId}{pos:String}{after:Array Edge}{guard:Option (Nat×Bool)}(O:pP P){T:TypeId}{x y:Operand}{k:IntKind}{a:Int}{e n fL g5 z nC iX eE}{Z qR:List (Nat×Nat)}{h len cap i:Nat}{j6:Option Addr}{rows:List (List Value)}{eQ:aJ}(dN:hT O.g2 T=some ⟨.slice e,n,Z,g5,z⟩)(c1:hT O.g2 e=some ⟨eE,fL,qR,nC,iX⟩)
 (K:bA x=.slice j6 h cap) (aN:bA y=.int k a) (bD:aH (.mk fL j6 len cap rows eQ) R) (HJ:h<=len) (aA:a=(i:Int)) (jH:i<h):
 cJ P ⟨dst,.indexAddr T x y,ty,pos,after,guard⟩ bA L R (.pointer (some ⟨zI j6,pJ j6 fL i 0,none⟩)):=λc w cI=>by
 obtain⟨⟨aC,bX,hg⟩,ho,hk⟩:=cI
 have aTO:dL c L (.mk fL j6 h cap (rows.take h) eQ::R) w:=⟨⟨aC,⟨bX.nR,bX.own,bX.u7,bX.tH,λr M=>by
  rcases List.mem_cons.1 M with rfl|M
  ·obtain⟨rD,JF,hs⟩:=bD
   exact aN2 ((bX.p3 rD JF).sub hs) HJ
  ·exact bX.p3 r M⟩,hg⟩,ho,hk⟩
 exact j9 O dN c1 K aN n1 aA jH c w aTO
attribute [local irreducible] cH c6 dP aI cJ eD e9 e0 e1 e5 eS e8 J.L
def Zq(a b:Int)(L:aP)(R:aJ):
 aI prog 178 [.int .i64 a,.int .i64 b].toArray L R (λv E G=>v=.bool (decide (0<=a/\a<b))/\L=E/\R=G):=by
 refine bW 12 call178 func178 ?_;apply QO∘b1∘DL∘c9;apply iZ (aC:=[_,_,_]) (j:=2) (a7:=7) rfl rfl aE rfl aW rfl;·intro fD;replace fD:=a8 fD;exact(pS) GD
 intro mY;exact a8n
def aBR{a:bR}{S:List fA}{i:Nat}{x:fA}(K:x=S.getD i default)(N:qM x=0)(V:0<=x.target/\x.target<J7 a x)(aQ:∀k:Nat,k<i->(S.getD k default).hV≠x.hV):yK a S i=none:=by rw[yK,<-K,if_neg D,if_neg (λh=>h V),if_neg];rintro⟨k,eU,eE⟩;exact aQ k eU eE
def b2v(s:dQ)(L:aP)(R:aJ)(hs:aH (z9 s.cD) R)(hn:s.cD.l.length<=64):
 aI prog 145 [s.val].toArray L R (λv E G=>v=.int .i64 (J9 s.bU s.cD.l)/\L=E/\R=G):=by
 refine J2 call145 hs λMS=>?_;refine bW 62 call145 func145 ?_;apply(c8);intro gK;apply g7∘r9;refine c7 [(1,.pointer _),(10,.slice _ _ _),(11,.int _ _),(12,.int _ _)] bP λeZ=>?_;refine gP ([2,3,4,5,6,8]++b4 12 50) (λg:H0 (yK s.bU s.cD.l) (s.cD.l.length)=>[(12,.int .i64 ((g.1:Nat):Int))]) (λg=>(s.cD.l.length)-g.1) ⟨0,G9 _ _⟩ ?_;rintro⟨fM,yR,g0⟩ bZ;try dsimp only
 apply(h2);apply(W)<;>intro aO;·
  have rB:=bJ s.cD.l fM default;obtain⟨x,K⟩:∃x,x=s.cD.l.getD fM default:=⟨_,rfl⟩;rw[<-K]at rB;apply(pR);refine aG R6 ?_;apply aQe∘dA;intro cT;apply dE∘rQ;refine aG qI ?_;refine cC rfl (a9K x _ _) ?_;apply(kB);apply(W)<;>intro bF;·exact aZu
  apply(eR);iterate 3 apply(eP)
  apply N8∘KL∘b3;refine v2 ([6]++b4 29 12) ((⟨λg=>[(6,.int .i64 g.1)],λ_=>⟨cT,x.cells,88⟩::⟨gK,s.cells,38⟩::L,λ_=>R,λ_=>0⟩:dV {n:Int//n=J7 s.bU x})) ?_ ?_;·
   refine e3 (a6 (cR ?_));apply(v8);apply(W)<;>intro b2;·apply eK∘z3∘dE;refine eI (gV ?_);exact aHR
   apply(oX);apply(W)<;>intro dZ;·apply eK∘z3∘dE;refine eI (gV ?_);exact aHR
   refine dK (gV ?_);exact aHR
  rintro⟨of,Og⟩ bZ;try dsimp only
  apply s2∘gE;refine cC rfl (Zq x.target of _ _) ?_;apply(oW);apply(W)<;>intro dX;·apply(IU);refine dC L R ?_;have h:=zC g0 D (show yK s.bU s.cD.l fM=some 9 by rw[yK,<-K,if_neg D,if_pos (by rw[<-Og];simpa using dX)]);exact a3e
  apply eR∘gE;refine aG (a0w O rfl rfl rfl rfl (n:=fM) cW D) ?_;apply vV∘ZT;refine zY ([2,3,4,5,6,8]++b4 12 50) AZ [(4,.pointer _),(12,.int _ _),(49,.slice _ _ _),(50,.int _ _),(51,.int _ _)] bP λnS=>?_;refine gP ([2,8]++b4 51 10) (λg:{j:Nat//j<=fM/\∀m:Nat,m<j->(s.cD.l.getD m default).hV≠x.hV}=>[(51,.int .i64 ((g.1:Nat):Int))]) (λg=>fM-g.1) (⟨0,by omega,λm hm=>by omega⟩) ?_;rintro⟨j,aY,hD⟩ bZ;try dsimp only
  apply(h2);apply(W)<;>intro h3;·
   have Us:=bJ s.cD.l j default;apply(j7);refine aG (b6G O rfl rfl rfl rfl hs D (i:=j) rfl D) ?_;apply aQe∘dA;intro gL;apply rP∘kJ∘mT;apply(W)<;>intro hW;·apply(rN);refine eI (aZ (iT (iS (gD (wS (iS (iS (gD (wS (iS (gD ?_)))))))))));refine dC L R ?_;have h:=zC g0 D (show yK s.bU s.cD.l fM=some 9 by rw[yK,<-K,if_neg D,if_neg (λh=>h (by rw[<-Og];simpa using dX)),if_pos ⟨j,by omega,hW⟩]);exact a3e
   apply(n6);exact aWK
  refine lC (lB (tT (lA (gV (aZ (cR ?_))))));apply(uX);exact dU ⟨fM+1,KH g0 D (aBR K D (by rw[<-Og];simpa using dX) (λm hm=>hD m D))⟩
 exact aZ9
def b2H(s:dQ)(c:m9)(L:aP)(R:aJ)(hs:aH (z9 s.cD) R)(hn:s.cD.l.length<=64):
 aI prog 146 [s.val,c.val].toArray L R (λv E G=>v=.int .i64 (H9 s.cD.l s.bU.Y.aD.l.length c)/\L=E/\R=G):=by
 refine bW 62 call146 func146 ?_;apply(c8);intro cS;apply(iU);intro dG;apply(KL);refine eI (aZ (e3 (a6 (a6 (cR ?_)))));apply(v8);apply(W)<;>intro aO;·refine dK (aZ ?_);exact aHI
 apply(oX);apply(W)<;>intro bF;·refine dK (aZ ?_);exact aHI
 apply eK∘v8;exact aHI
def aJ7{dD n:Nat}{z:jU}(N:H8 z.jQ.l dD=0)(V:¬(z.hold<0\/100000<z.hold\/z.tG<0\/100<z.tG))(k:Nat)(hk:k<z.aD.l.length)(h:AB n z.aD.l k):CR dD n z=4:=by rw[CR,if_neg D,if_neg V,if_pos ⟨k,hk,h⟩]
def b1R{dD n:Nat}{z:jU}(N:H8 z.jQ.l dD=0)(V:¬(z.hold<0\/100000<z.hold\/z.tG<0\/100<z.tG))(h:∀k:Nat,k<z.aD.l.length->¬AB n z.aD.l k):CR dD n z=0:=by rw[CR,if_neg D,if_neg V,if_neg];rintro⟨k,eU,eE⟩;exact h k eU eE
def b5B(s:dQ)(z:jU)(L:aP)(R:aJ)(M:aH (DT z.jQ) R)(eC:aH (cZ z.aD) R):
 aI prog 147 [s.val,z.val].toArray L R (λv E G=>v=.int .i64 (CR s.dD.l.length s.bU.Y.aD.l.length z)/\L=E/\R=G):=by
 refine nN call147 eC λM5=>?_;refine bW 66 call147 func147 ?_;apply(c8);intro cS;apply(iU);intro dG;apply KL∘lM;refine cC rfl (b5p z.jQ s.dD.l.length _ _ M) ?_;apply(kB);apply(W)<;>intro aO;·exact aW6
 apply iK∘r8;apply cB (aC:=[_,_,_]) (j:=3) (a7:=20) rfl rfl aE rfl aW rfl;·exact GF
 intro iG;apply(c9);apply cB (aC:=[_,_,_]) (j:=8) (a7:=25) rfl rfl aE rfl aW rfl;·exact Ju
 intro wJ;apply(c9);apply cB (aC:=[_,_,_]) (j:=13) (a7:=30) rfl rfl aE rfl aW rfl;·exact Qz
 intro UW;apply(b3);apply(W)<;>intro bF;·exact aXr
 apply(QS);refine c7 [(2,.pointer _),(3,.pointer _),(36,.slice _ _ _),(37,.int _ _),(38,.int _ _)] bP λeZ=>?_;refine gP ([4,6,7]++b4 38 28) (λg:{k:Nat//k<=z.aD.l.length/\∀j:Nat,j<k->¬AB s.bU.Y.aD.l.length z.aD.l j}=>[(38,.int .i64 ((g.1:Nat):Int))]) (λg=>z.aD.l.length-g.1) (⟨0,by omega,λj aY=>by omega⟩) ?_;rintro⟨k,hk,hD⟩ bZ;try dsimp only
 apply(h2);apply(W)<;>intro b2;·
  have rZ:=bJ z.aD.l k 0;apply(pR);refine aG qH ?_;apply jI∘dE∘pQ;iterate 3 apply(eP)
  apply(N8);refine cC rfl (Zq (z.aD.l.getD k 0) (s.bU.Y.aD.l.length:Int) _ _) ?_;apply(MF);apply cB (aC:=[_,_,_,_,_,_,_,_,_,_,_,_]) (j:=8) (a7:=51) rfl rfl aE rfl aW rfl;·
   intro gM;replace gM:=a8 gM;apply a5g∘c9;apply iZ (aC:=[_,_,_,_,_,_,_,_]) (j:=11) (a7:=54) rfl rfl aE rfl aW rfl;·intro xP;replace xP:=a8 xP;have bFn:=iL (l:=z.aD.l) (k:=k-1) 0 (by simp at xP;omega);apply b1∘a5i;refine aG aI3 ?_;exact(jI) VP
   intro a2k;exact hL
  intro wJ;apply(b3);apply(W)<;>intro dZ;·apply(xE);refine dC L R ?_;exact⟨by rw[aJ7 (n:=s.bU.Y.aD.l.length) D D k D (by rw[AB];omega)],rfl,rfl⟩
  apply(n6);exact aHG
 exact b0c
end
section
attribute [local irreducible] cH c6 dP aI cJ eD e9 e0 e1 e5 eS e8 J.L
def aOj(h:A->B:=by exact(aG qI ·)):=h
def aCf(k:Int)(L:aP)(R:aJ):
 aI prog 172 [.int .i64 k].toArray L R (λv E G=>v=.bool (decide (4<=k))/\L=E/\R=G):=by refine bW 5 call172 func172 ?_;apply QO∘b1∘DL∘v9;refine lG L R ?_;exact VN
structure Rw(kind hV target:Int)(s:fA):Prop where
 kind:s.kind=kind
 hV:s.hV=hV
 target:s.target=target
 offset:-50<=s.offset/\s.offset<=20
 EP:300<=s.EP/\s.EP<=2000
 error:0<=s.error/\s.error<=5
 FO:0<=s.FO/\s.FO<=699
 X9:1<=s.X9/\s.X9<=200
def b8C(c:Nat)(x:a0 Int)(k:Nat)(kind hV target:Int)(R:aJ)(K:jK x R)(hk:k<=x.l.length):
 aI prog 91 [.pointer (some ⟨c,0,none⟩),.int .i64 kind,.int .i64 hV,.int .i64 target].toArray [eT c x k] R
  (λv E G=>∃(s:fA) (b5:Nat),v=s.val/\Rw kind hV target s/\b5<=x.l.length/\eT c x b5::[]=E/\R=G):=by
 refine bW 32 call91 func91 ?_;apply(IV);intro gL;apply(lP);iterate 3 apply(b1)
 apply(hS);refine cK (E8 hC K hk D) ?_;rintro v E G ⟨k8,eU,rfl,u1,yO,e6,rfl,rfl⟩;refine aG (mI (hN:=[(1,(Value.int _ _).cells.toList),(0,(Value.int _ _).cells.toList),(2,(Value.int _ _).cells.toList),(4,(Value.int _ _).cells.toList),(7,(Value.int _ _).cells.toList)]) (cU:=[_,_,_,_,_,_,_,_]) O rfl rfl rfl rfl) ?_;apply(dA);intro h8;apply rQ∘b1;refine cC rfl (aCf _ _ _) ?_;apply(oW);apply(W)<;>intro aO;·apply cO∘hS;refine cK (E8 hC K e6 D) ?_;rintro v E G ⟨lH,eE,rfl,q7,u2,hK,rfl,rfl⟩;apply(hS);refine cK (E8 hC K hK D) ?_;rintro v E G ⟨rE,i2,rfl,KW,I4,l4,rfl,rfl⟩;apply r7∘r7;refine eI (aZ (cR ?_));apply(hS);refine cK (nA hC K l4 D) ?_;rintro v E G ⟨AW,eV,rfl,OM,ON,aDx,m4,rfl,rfl⟩;have aR9:=ON D;apply(hS);refine cK (nA hC K m4 D) ?_;rintro v E G ⟨PD,vS,rfl,Ub,XH,a03,uJ,rfl,rfl⟩;have aDy:=XH D;apply r7∘G3∘aOj∘wA;refine bN [eT c x vS] R (pG rfl a3b) ?_;exact⟨⟨hV,kind,target,lH,rE,AW,PD,k8⟩,vS,rfl,⟨rfl,rfl,rfl,by dsimp only;omega,by dsimp only;omega,by dsimp only;omega,by dsimp only;omega,by dsimp only;omega⟩,uJ,rfl,rfl⟩
 apply eR∘aOj∘wA;refine bN [eT c x eU] R (pG rfl a3b) ?_;exact⟨⟨hV,kind,target,0,1000,0,0,k8⟩,eU,rfl,⟨rfl,rfl,rfl,by dsimp only;omega,by dsimp only;omega,by dsimp only;omega,by dsimp only;omega,by dsimp only;omega⟩,e6,rfl,rfl⟩
def b8M(n b6 aA:Int)(L:aP)(R:aJ):
 aI prog 261 [.int .i64 n,.int .i64 b6,.int .i64 aA].toArray L R (λv E G=>v=.bool (decide (b6<=n/\n<=aA))/\L=E/\R=G):=by
 refine bW 15 call261 func261 ?_;apply QO∘pS∘Cl∘c9;apply iZ (aC:=[_,_,_]) (j:=3) (a7:=10) rfl rfl aE rfl aW rfl;·intro eN;replace eN:=a8 eN;exact(pS) VP
 intro iG;exact a8n
def a4T(s:fA)(L:aP)(R:aJ):
 aI prog 250 [s.val].toArray L R (λv E G=>v=.int .i64 (qM s)/\L=E/\R=G):=by
 refine bW 46 call250 func250 ?_;apply(c8);intro gK;apply(KL);refine cC rfl a27 ?_;apply(oW);apply(W)<;>intro aO;·apply(m1);refine dC L R ?_;exact⟨by simp at aO;rw[qM,if_pos D],rfl,rfl⟩
 apply(GW);refine cC rfl a27 ?_;apply(MF);apply cB (aC:=[_,_,_]) (j:=4) (a7:=11) rfl rfl aE rfl aW rfl;·intro gW;replace gW:=a8 gW;exact R4
 intro yU;apply(c9);apply cB (aC:=[_,_,_,_]) (j:=9) (a7:=16) rfl rfl aE rfl aW rfl;·intro nY;replace nY:=a8 nY;exact a2Y
 intro Hx;apply(c9);apply cB (aC:=[_,_,_,_]) (j:=15) (a7:=22) rfl rfl aE rfl aW rfl;·intro w5;replace w5:=a8 w5;exact a2Y
 intro a7H;apply(c9);apply cB (aC:=[_,_,_,_]) (j:=21) (a7:=28) rfl rfl aE rfl aW rfl;·intro Ha;replace Ha:=a8 Ha;exact a2Y
 intro bKn;apply(c9);apply cB (aC:=[_,_,_,_]) (j:=27) (a7:=34) rfl rfl aE rfl aW rfl;·intro aSR;replace aSR:=a8 aSR;exact a2Y
 intro bKq;apply(c9);apply cB (aC:=[_,_,_,_]) (j:=33) (a7:=40) rfl rfl aE rfl aW rfl;·intro Ax;replace Ax:=a8 Ax;exact a2Y
 intro bKs;apply(b3);apply(W)<;>intro bF;·apply(m1);refine dC L R ?_;exact⟨by simp at aO bF;rw[qM,if_neg D,if_neg (by rw[E4];omega)],rfl,rfl⟩
 apply(S3);refine dC L R ?_;exact⟨by simp at aO bF;rw[qM,if_neg D,if_pos (by rw[E4];omega)],rfl,rfl⟩
def aMf(a b:Int)(L:aP)(R:aJ)(ha:-1000000000000<=a/\a<=1000000000000)(hb:0<b/\b<=1000000):
 aI prog 291 [.int .i64 a,.int .i64 b].toArray L R (λv E G=>v=.int .i64 (a/b)/\L=E/\R=G):=by
 have hd:-1000000000000<=a.tdiv b/\a.tdiv b<=1000000000000:=by have N:=Int.natAbs_tdiv_le_natAbs a b;omega
 refine bW 16 call291 func291 ?_;apply cO∘pQ∘b1∘PB∘g7∘pS∘Im∘D1;apply(W)<;>intro aO;·apply p8∘kP∘pQ∘q3;refine dC L R ?_;exact⟨by rw[<-aAi hb.1,if_pos aO],rfl,rfl⟩
 apply eR∘a0h;refine dC L R ?_;exact⟨by rw[<-aAi hb.1,if_neg aO],rfl,rfl⟩
def aPW(a b:Int)(L:aP)(R:aJ)(ha:-1000000000000<=a/\a<=1000000000000)(hb:0<b/\b<=1000000):
 aI prog 259 [.int .i64 a,.int .i64 b].toArray L R (λv E G=>v=.int .i64 (-((-a)/b))/\L=E/\R=G):=by
 have hd:-1000000000001<=(-a)/b/\(-a)/b<=1000000000001:=by have N:=Int.natAbs_ediv_le_natAbs (-a) b;omega
 refine bW 10 call259 func259 ?_;apply cO∘pQ∘x3∘b1;refine cC rfl (aMf (-a) b _ _ D hb) ?_;exact(x3∘q3) a2U
def aPU(k:Int)(L:aP)(R:aJ):
 aI prog 260 [.int .i64 k].toArray L R (λv E G=>v=.bool (decide (k=1\/k=2))/\L=E/\R=G):=by
 refine bW 9 call260 func260 ?_;apply QO∘b1∘tC;apply cB (aC:=[_,_]) (j:=2) (a7:=5) rfl rfl aE rfl aW rfl;·intro fD;replace fD:=a8 fD;exact(b1) LP
 intro mY;exact a8n
def b4t{s:fA}{m:eA}{t:Int}(h:¬DY s m t):-((-(s.FO*(t-m.time)))/1000)=Ev s m t:=by have hb:=a6e h;rw[Ev,JQ D];omega
def b5W{s:fA}{m:eA}{t:Int}(h:¬DY s m t):1<=s.kind/\s.kind<=6:=by
 rw[DY]at h;have X:qM s=0:=by omega
 rw[qM]at X;split at X;·omega
 ·omega
def aNN(s:fA)(m:eA)(t:Int)(L:aP)(R:aJ)(hm:w9 m)(dS:0<=t/\t<=2147483648):
 aI prog 212 [s.val,m.val,.int .i64 t].toArray L R (λv E G=>v=(xL s m t).val/\L=E/\R=G):=by
 rw[w9]at hm;refine bW 75 call212 func212 ?_;apply(c8);intro dG;apply(iU);intro cT;apply(dA);intro hP;apply(y1);refine gJ O [0,1,2,3,4,5,6,7,8,9,10,11,12,13,14,15,16,17,18,19,20,21,22,23,24,25,26,27,28] _ cX bE g3 ?_;refine a4 qI ?_;refine k6 rfl (a4T s _ _) ?_;refine a4 LR ?_;apply(tN);refine l0 (k:=12) aW (λfD=>?_) (λfD=>?_);·
  replace fD:=a8 fD;have BQ:DY s m t:=.inl (by simpa using fD);iterate 3 apply(kQ)
  apply(mU);iterate 4 apply(kQ)
  apply(mU);iterate 4 apply(kQ)
  apply(mU);iterate 7 apply(kQ)
  apply(m2);refine wR rfl ?_;apply(cO);refine cC rfl JV ?_;apply(FB);refine bN L R mR ?_;first
  |exact Wj
  |exact a2B
 replace fD:=a8 fD;apply(iI);refine a4 HY ?_;apply(mU);refine l0 (k:=17) aW (λhX=>?_) (λhX=>?_);·
  replace hX:=a8 hX;have BQ:DY s m t:=.inr (.inl (by simp at fD hX;omega));iterate 4 apply(kQ)
  apply(mU);iterate 4 apply(kQ)
  apply(mU);iterate 7 apply(kQ)
  apply(m2);refine wR rfl ?_;apply(cO);refine cC rfl JV ?_;apply(FB);refine bN L R mR ?_;first
  |exact Wj
  |exact a2B
 replace hX:=a8 hX;apply kT∘YF;refine k6 rfl JV ?_;refine a4 (a5X Kx rfl rfl) ?_;apply(mU);refine l0 (k:=23) aW (λpW=>?_) (λpW=>?_);·
  replace pW:=a8 pW;have BQ:DY s m t:=.inr (.inr (.inl (by rw[W1];simp[kY]at fD hX pW|-;omega)));iterate 4 apply(kQ)
  apply(mU);iterate 7 apply(kQ)
  apply(m2);refine wR rfl ?_;apply(cO);refine cC rfl JV ?_;apply(FB);refine bN L R mR ?_;first
  |exact Wj
  |exact a2B
 replace pW:=a8 pW;apply g1∘iI;refine a4 HY ?_;apply(mU);refine l0 (k:=29) aW (λDB=>?_) (λDB=>?_);·
  replace DB:=a8 DB;have BQ:DY s m t:=.inr (.inr (.inr (.inl (by simp[kY]at fD hX pW DB;omega))));iterate 7 apply(kQ)
  apply(m2);refine wR rfl ?_;apply(cO);refine cC rfl JV ?_;apply(FB);refine bN L R mR ?_;first
  |exact Wj
  |exact a2B
 replace DB:=a8 DB;apply g1∘iI∘yZ∘iI;refine a4 YP ?_;apply(m2);apply(W)<;>intro aO;·
  apply(cO);refine cC rfl JV ?_;apply(FB);refine bN L R mR ?_;first
  |exact Wj
  |exact a2B
 have BQ:¬DY s m t:=by rw[DY,W1];simp[kY]at fD hX pW DB aO|-;omega
 obtain⟨yQ,AJ⟩:=a6e BQ;have a1F:=b5W BQ;have Od:=b4t BQ;apply(GW);refine cC rfl (aCf _ _ _) ?_;apply(b3);apply(W)<;>intro bF;·apply cO∘CM∘FB;refine bN L R mR ?_;exact⟨by rw[xL,if_neg BQ,if_pos D],rfl,rfl⟩
 apply eR∘gE∘fH∘kP∘RW;refine cC rfl (aPW (s.FO*(t-m.time)) 1000 _ _ D bH) ?_;rw[Od];apply mL∘FD∘kP∘FE∘z2∘y0∘dA;intro gL;apply(G6);refine cC rfl (aPU _ _ _) ?_;apply(b3);apply(W)<;>intro b2;·apply(QW);refine aG B9 ?_;apply(fH);refine aG B9 ?_;apply r7∘G3∘S6;refine bN L R mR ?_;exact⟨by rw[xL,if_neg BQ,if_neg D,if_pos b2];try rfl,rfl,rfl⟩
 apply eR∘S6;refine bN L R mR ?_;exact⟨by rw[xL,if_neg BQ,if_neg D,if_neg b2];try rfl,rfl,rfl⟩
def b9o{l:List a9}{x:a9}(h:l[0]?=some x):SI l x 1=x:=by rw[aB0 (k:=0) h];show(⟨max x.bG x.bG,min x.bO x.bO⟩:a9)=x;rw[Int.max_self,Int.min_self]
def a5W(h:A->B:=by exact(eO aZz ·)):=h
def aCw(h:A->B:=by exact(aG qI ·)):=h
def aOS(h:B:=by exact⟨by rw[oI,if_neg D,if_neg D,if_neg D,if_neg D,if_neg D,e],rfl,rfl⟩):=h
def aJc(h:A->B:=by exact(aG aZz ·)):=h
def aM8(h:A->B:=by exact hF O [] [0,1,2,3,4,5,6,7,8,9,10] [11] ([a5.mk gL _ _,a5.mk cT _ _]) _ cX bE a2 (by(repeat(first|apply List.Sublist.cons (a:=a5.mk gL _ _)|apply List.Sublist.cons_cons));exact oR _)):=h
def aPw(h:A->B:=by exact(eO Jq ·)):=h
def aJF(h:A->B:=by exact(eO a9f ·)):=h
def a3U{e:Int}(h:e=0):zR e=none:=by rw[zR,if_pos h]
def a4C{e:Int}(h:e≠0):zR e=some e:=by rw[zR,if_neg h]
abbrev a9R(s:dQ):m9->Option Int:=λc=>zR (H9 s.cD.l s.bU.Y.aD.l.length c)
abbrev a9O(s:dQ):jU->Option Int:=λz=>zR (CR s.dD.l.length s.bU.Y.aD.l.length z)
abbrev Ks:Int->Option Int:=λp=>if p<1\/3<p then some 19 else none
def a49(s:dQ)(L:aP)(R:aJ)(hs:zX s R):
 aI prog 74 [s.val].toArray L R (λv E G=>v=.int .i64 (oI s)/\L=E/\R=G):=by
 have jA:=hs.cD;have C7:=hs.dD;have pL:=hs.aU;have Be:=hs.mF;refine bW 90 call74 func74 ?_;apply(c8);intro gK;apply g7∘eP∘sD;refine cC rfl (a4x s.bU _ _ hs.bU) ?_;apply(kB);apply(W)<;>intro aO;·exact aW7
 apply iK∘S7∘c9;apply cB (aC:=[_,_,_,_]) (j:=4) (a7:=23) rfl rfl aE rfl aW rfl;·exact YT
 intro yU;apply(c9);apply cB (aC:=[_,_,_,_]) (j:=10) (a7:=29) rfl rfl aE rfl aW rfl;·intro qS;replace qS:=a8 qS;exact(S7) hL
 intro a7G;apply(c9);apply cB (aC:=[_,_,_,_]) (j:=16) (a7:=35) rfl rfl aE rfl aW rfl;·intro AO;replace AO:=a8 AO;exact(S7) hL
 intro a7I;apply(b3);apply(W)<;>intro bF;·exact aXs
 apply iK∘aCw;refine cC rfl (b2v s _ _ jA D) ?_;apply(kB);apply(W)<;>intro b2;·exact aZE
 apply(QS);refine c7 [(1,.pointer _),(47,.slice _ _ _),(48,.int _ _),(49,.int _ _)] bP λeZ=>?_;refine gP ([2,6,7]++b4 49 11) (λg:FS (a9R s) (s.dD.l)=>[(49,.int .i64 ((g.1:Nat):Int))]) (λg=>(s.dD.l).length-g.1) ⟨0,BL _ _⟩ ?_;rintro⟨fM,yR,g0⟩ bZ;try dsimp only
 apply(h2);apply(W)<;>intro dZ;·
  obtain⟨c,hc⟩:=mP s.dD.l fM;apply(j7);refine aG R6 ?_;refine aG a26 ?_;apply(dA);intro hP;apply rP∘aCw;refine aG aIm ?_;refine cC rfl (b2H s c _ _ jA D) ?_;apply(kB);apply(W)<;>intro dX;·exact aZB
  apply(n6);exact dU ⟨fM+1,CO g0 hc (a3U D)⟩
 have mX:=BC g0 D;refine lC (lB (tT (lA (aZ (a6 (a6 ?_))))));have nQ:SH s=0:=by rw[SH,mX];rfl
 apply eK∘r9;refine c7 [(1,.pointer _),(61,.slice _ _ _),(62,.int _ _),(63,.int _ _)] bP λnS=>?_;refine gP ([2,9,10]++b4 63 11) (λg:FS (a9O s) (s.aU.l)=>[(63,.int .i64 ((g.1:Nat):Int))]) (λg=>(s.aU.l).length-g.1) ⟨0,BL _ _⟩ ?_;rintro⟨eU,e6,kE⟩ bZ;try dsimp only
 apply(h2);apply(W)<;>intro h3;·
  obtain⟨z,eC⟩:=mP s.aU.l eU;apply(j7);refine aG Xy ?_;apply(OH);intro h8;apply rP∘aCw∘sD;refine cC rfl (b5B s z _ _ (aH.jQ pL eC) (aH.a3t pL eC)) ?_;apply(kB);apply(W)<;>intro hW;·exact aZe
  apply(n6);exact dU ⟨eU+1,CO kE eC (a3U D)⟩
 have s1:=BC kE D;refine lC (lB (tT (lA (aZ (a6 (a6 ?_))))));have bFm:KM s=0:=by rw[KM,s1];rfl
 apply eK∘r9;refine c7 [(75,.slice _ _ _),(76,.int _ _),(77,.int _ _)] bP λNH=>?_;refine gP ([2,12]++b4 77 13) (λg:FS (Ks) (s.mF.l)=>[(77,.int .i64 ((g.1:Nat):Int))]) (λg=>(s.mF.l).length-g.1) ⟨0,BL _ _⟩ ?_;rintro⟨eE,hK,EC⟩ bZ;try dsimp only
 apply(h2);apply(W)<;>intro oO;·
  obtain⟨p,hp⟩:=mP s.mF.l eE;apply(j7);refine aG a28 ?_;refine aG (by first|exact Y4 (row:=[_]) O rfl rfl rfl jC bC aE aE|exact yB (row:=[_]) O rfl rfl rfl o0 aE aE) ?_;apply(dA);intro lN;apply rP∘r8;apply cB (aC:=[_,_,_]) (j:=3) (a7:=84) rfl rfl aE rfl aW rfl;·exact GF
  intro iG;apply(b3);apply(W)<;>intro FV;·apply(xE);refine dC L R ?_;(have e:TS s=19:=by rw[TS,A6 (f:=Ks) EC hp (show Ks p=some 19 from if_pos FV)];rfl);exact aOS
  apply(n6);exact aWR
 have zM:=BC EC D;apply(GZ);refine dC L R ?_;have e:TS s=0:=by rw[TS,zM];rfl
 exact aOS
def aBG(s:dQ)(m:a0 eA)(n t:Int)(L:aP)(R:aJ)(hs:aH (z9 s.cD) R)(hm:aH (gT m) R)(hok:∀x∈m.l,w9 x)(dS:0<=t/\t<=2147483648):
 aI prog 103 [s.val,m.val,.int .i64 n,.int .i64 t].toArray L R (λv E G=>v=(rL s.cD.l m.l n t).val/\L=E/\R=G):=by
 refine bW 42 call103 func103 ?_;apply(c8);intro cT;apply(dA);intro gL;apply r1∘b1∘lM;refine cC rfl (Zq n (s.cD.l.length:Int) _ _) ?_;apply(MF);apply cB (aC:=[_,_,_,_]) (j:=6) (a7:=15) rfl rfl aE rfl aW rfl;·intro kC;replace kC:=a8 kC;exact(b1∘Fa) hL
 intro JG;apply(c9);apply cB (aC:=[_,_,_,_,_,_,_]) (j:=12) (a7:=21) rfl rfl aE rfl aW rfl;·
  intro u4;replace u4:=a8 u4;have xR:=iL (l:=m.l) (k:=n.toNat) default (by(try simp at u4);omega);apply(h7);have Bb:0<=n/\n<m.l.length:=by(try simp at u4);omega
  exact(aJc∘TE) HW
 intro bFA;apply(b3);apply(W)<;>intro aO;·apply(cO);refine cC rfl (SS _ _) ?_;exact aXG
 have xR:=bJ m.l n.toNat default;have xS:=bJ s.cD.l n.toNat default;have aFr:=hok _ (gU xR);apply x2∘aM8∘CN∘a5W∘aPw∘G2∘a5W∘aJF∘wM;refine k2 rfl (aLg _ _ t _ _ aFr dS) rfl rfl ?_;exact aYt
def a9G(s:dQ)(m:a0 eA)(n t:Int)(L:aP)(R:aJ)(hs:aH (z9 s.cD) R)(hm:aH (gT m) R)(hok:∀x∈m.l,w9 x)(dS:0<=t/\t<=2147483648):
 aI prog 139 [s.val,m.val,.int .i64 n,.int .i64 t].toArray L R (λv E G=>v=(rL s.cD.l m.l n t).val/\L=E/\R=G):=by
 refine bW 45 call139 func139 ?_;apply(c8);intro cT;apply(dA);intro gL;apply r1∘WE;apply cB (aC:=[_,_,_,_,_]) (j:=2) (a7:=11) rfl rfl aE rfl aW rfl;·exact Jg
 intro mY;apply(c9);apply cB (aC:=[_,_,_,_]) (j:=9) (a7:=18) rfl rfl aE rfl aW rfl;·intro nY;replace nY:=a8 nY;exact(b1∘Fa) hL
 intro Hx;apply(c9);apply cB (aC:=[_,_,_,_,_,_,_]) (j:=15) (a7:=24) rfl rfl aE rfl aW rfl;·
  intro w5;replace w5:=a8 w5;have xR:=iL (l:=m.l) (k:=n.toNat) default (by(try simp at w5);omega);apply(h7);have Bb:0<=n/\n<m.l.length:=by(try simp at w5);omega
  exact(aJc∘TE) HW
 intro a7H;apply(b3);apply(W)<;>intro aO;·apply(cO);refine cC rfl JV ?_;exact aXG
 have xR:=bJ m.l n.toNat default;have xS:=bJ s.cD.l n.toNat default;have aFr:=hok _ (gU xR);apply x2∘aM8∘CN∘a5W∘aPw∘G2∘a5W∘aJF∘wM;refine k2 rfl (aNN _ _ t _ _ aFr dS) rfl rfl ?_;exact aYt
def b3m(x:a9)(L:aP)(R:aJ):
 aI prog 231 [x.val].toArray L R (λv E G=>v=.int .i64 (Jz x)/\L=E/\R=G):=by
 refine bW 27 call231 func231 ?_;apply(c8);intro gK;apply(dE);refine eI (aZ (a6 (e3 (a6 (cR ?_)))));apply kJ∘F6∘zF;apply(W)<;>intro aO;·apply(A8);exact It
 apply N9∘tC;apply iZ (aC:=[_,_,_]) (j:=3) (a7:=13) rfl rfl aE rfl aW rfl;·exact a3w
 intro iG;apply(zF);apply(W)<;>intro bF;·apply(A8);exact It
 apply cO∘Lc∘c9;apply cB (aC:=[_,_,_]) (j:=3) (a7:=22) rfl rfl aE rfl aW rfl;·exact Ya
 intro iG;apply(zF);apply(W)<;>intro b2;·apply(A8);exact It
 refine dK (gV (aZ (a6 (cR ?_))));apply(q3);exact It
def b7U(x:a9)(L:aP)(R:aJ):
 aI prog 300 [x.val].toArray L R (λv E G=>v=.int .i64 (Jz x)/\L=E/\R=G):=by
 refine bW 24 call300 func300 ?_;apply(c8);intro gK;apply g7∘kJ∘BA;apply(W)<;>intro aO;·apply(m1);exact It
 apply GW∘tC;apply iZ (aC:=[_,_,_]) (j:=3) (a7:=11) rfl rfl aE rfl aW rfl;·exact a3w
 intro iG;apply(b3);apply(W)<;>intro bF;·apply(m1);exact It
 apply iK∘Lc∘c9;apply cB (aC:=[_,_,_]) (j:=3) (a7:=19) rfl rfl aE rfl aW rfl;·exact Ya
 intro iG;apply(b3);apply(W)<;>intro b2;·apply(m1);exact It
 apply(S3);exact It
def b71(c:m9)(w:fR)(x:a9)(L:aP)(R:aJ):
 aI prog 229 [c.val,w.val,x.val].toArray L R (λv E G=>v=.int .i64 (if w.over=false then -1 else if xG x c.nI.cut=1 then 1 else 0)/\L=E/\R=G):=by
 refine bW 18 call229 func229 ?_;apply(c8);intro dG;apply(iU);intro cT;apply(iU);intro eH;apply(dE);refine eI (aZ (a6 (e3 (a6 (cR ?_)))));apply fH∘Cj∘zF;apply(W)<;>intro aO;·apply(A8);refine dC L R ?_;exact⟨by rw[if_pos EY],rfl,rfl⟩
 apply cO∘oC∘FE;refine cC rfl (aAv x c.nI.cut _ _) ?_;apply(v8);apply(W)<;>intro bF;·apply(A8);refine dC L R ?_;exact⟨by rw[if_neg EY,if_pos bF],rfl,rfl⟩
 refine dK (gV (aZ (a6 (cR ?_))));apply(q3);refine dC L R ?_;exact⟨by rw[if_neg EY,if_neg bF],rfl,rfl⟩
end
end Go.Proofs.YtchfclmokpbldaaGreat
