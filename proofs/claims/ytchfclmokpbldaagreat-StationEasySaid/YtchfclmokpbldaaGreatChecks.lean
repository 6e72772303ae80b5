-- By an AI agent; no person has read it.
import Derived.Test.YtchfclmokpbldaaGreatRun
set_option linter.all false
set_option maxHeartbeats 4000000
variable{A B:Prop}
def SD(h:A->B:=by exact aI O0 rfl):=h
def Cw(h:A->B:=by exact aI Ok rfl):=h
def a0G(h:A->B:=by exact bE (by first|exact j4 N rfl rfl rfl rfl i9 (i:=fF-1) dA D|exact i5 N rfl rfl rfl rfl (i:=fF-1) dA D) rfl rfl rfl):=h
def a48(h:B:=by exact⟨by rw[M5,if_neg D,if_neg D,wH gM D (aGK aP D D cJ D)];rfl,rfl,rfl⟩):=h
def a0I(h:A->B:=by exact bE Ok rfl rfl rfl):=h
def Ys(h:A->B:=by exact fP a4e rfl rfl rfl rfl):=h
def a7u(h:A->B:=by exact gZ N [0,1,2,3,4,5,6,7,8,9,10] _ dO bI hA):=h
def aEL(h:B:=by exact⟨by rw[M5,if_neg D,if_neg D,wH gM D (aJV aP D)];rfl,rfl,rfl⟩):=h
def aHo(h:A->B:=by exact gZ N [0,1,2,3,4,5,6,7,8,9,10,11,12,13,14,15,16,17,18,19,20,21,22,23,24,25] _ dO bI hA):=h
def aIg(h:B:=by exact⟨by rw[Kv D gM D (B2.trans (by rw[if_neg D,if_pos D]))],rfl,rfl⟩):=h
def aLd(h:B:=by exact⟨by rw[Kv D gM D (B2.trans (by rw[yT jT M (if_pos D)]))],rfl,rfl⟩):=h
def aZy(h:A->B:=by exact aI (by first|exact j4 N rfl rfl rfl rfl i9 (i:=d.zJ.toNat) dA D|exact i5 N rfl rfl rfl rfl (i:=d.zJ.toNat) dA D) rfl):=h
def aGz(h:B:=by exact⟨by rw[M,Dx D D,wH jT D (W.trans (if_pos D))];simp,rfl,rfl⟩):=h
def aHm(h:A->B:=by exact iS N [] [0,1,2,3,4,5,6,7,8,9,10] [11] (_) _ dO bI bA Ch):=h
namespace Go.Proofs.YtchfclmokpbldaaGreat
open Go.Aw Go Go.Proofs.Tryz
set_option maxRecDepth 20000
attribute [local irreducible] cQ dF dV aM cP eC e5 e1 e2 e6 eX e4
def P9(s:bC)(b5 aE:Int):Bool:=decide (b5<=s.bU) && (decide (s.bU<=s.bW) && decide (s.bW<=aE))
def aJm(s:bC)(b5 aE:Int)(L:aR)(R:aO):
 aM prog 237 [s.val,.int .i64 b5,.int .i64 aE].toArray L R (λv E G=>v=.bool (P9 s b5 aE)/\L=E/\R=G):=by refine b6 24 call237 func237 rfl rfl rfl ?_;exact aOQ
def PF(p:yX):Option Int:=if p.a9A< -10000\/10000<p.a9A then some 1 else none
def y2(n:Nat)(r:qN):Option Int:=
 if r.cR<0\/(n:Int)<=r.cR\/r.to<0\/(n:Int)<=r.to\/r.cR=r.to then some 4
 else if r.len<1\/100000<r.len\/r.s8<1\/1000<r.s8\/P9 r.aD 1 262144=false\/P9 r.k9 (-2199023255552) 2199023255552=false then some 1 else none
def uI(m:h4):Int:=
 if 64<m.places.l.length\/128<m.aJ.l.length then 2
 else match m.places.l.findSome? PF with
  |some e=>e
  |none=>(m.aJ.l.findSome? (y2 m.places.l.length)).getD 0
def aIn(m:h4)(L:aR)(R:aO)(a3:K4 m R):
 aM prog 183 [m.val].toArray L R (λv E G=>v=.int .i64 (uI m)/\L=E/\R=G):=by
 have eI:=a3.places;have mJ:=a3.aJ;refine m1 call183 eI λlK=>?_;refine m1 call183 mJ λER=>?_;refine b6 100 call183 func183 rfl rfl rfl ?_;apply(dB);intro gL;apply hH∘JM∘dE;apply cA (Z:=[_,_,_,_]) (j:=4) (a9:=12) rfl rfl aB rfl aY rfl;·exact UJ
 intro wP;apply(b9);refine U ?_ ?_<;>intro aQ;·apply(kM);refine cX L R ?_;exact⟨by simp[uI];omega,rfl,rfl⟩
 apply(NI);refine dS [(1,.pointer _),(19,.slice _ _ _),(20,.int _ _),(21,.int _ _)] bV λfK=>?_;refine k2 ([2,4]++cN 21 13) ((⟨λg=>[(21,.int .i64 ((g.1:Nat):Int))],λ_=>⟨gL,m.cells,28⟩::L,λ_=>R,λg=>m.places.l.length-g.1⟩:fB (FS PF m.places.l))) (⟨0,y0 _ _⟩) ?_;rintro⟨k,aG,QO⟩ cH;try dsimp only
 apply(h0);refine U ?_ ?_<;>intro bL;·
  obtain⟨x,K⟩:=jW (l:=m.places.l) (k:=k) D;apply j9∘GO∘LI;intro eD;apply sI∘qO;apply cA (Z:=[_,_,_]) (j:=3) (a9:=28) rfl rfl aB rfl aY rfl;·exact DR
  intro h8;apply(b9);refine U ?_ ?_<;>intro cC;·apply(vY);refine cX L R ?_;exact⟨by simp[uI,yT QO K (show PF x=some 1 by simp[PF];omega)];omega,rfl,rfl⟩
  apply(mU);exact eO ⟨k+1,x5 QO K (by simp[PF];omega)⟩
 have aP:=y1 QO D;apply n9∘kD∘hH∘qP;refine dS [(5,.int _ _),(38,.slice _ _ _),(39,.int _ _),(40,.int _ _)] bV λoA=>?_;refine k2 ([2,7]++cN 40 60) ((⟨λg=>[(40,.int .i64 ((g.1:Nat):Int))],λ_=>⟨gL,m.cells,28⟩::L,λ_=>R,λg=>m.aJ.l.length-g.1⟩:fB (FS (y2 m.places.l.length) m.aJ.l))) (⟨0,y0 _ _⟩) ?_;rintro⟨fI,l5,Tp⟩ cH;try dsimp only
 apply(h0);refine U ?_ ?_<;>intro dX;·
  obtain⟨y,aS⟩:=jW (l:=m.aJ.l) (k:=fI) D;apply j9∘GO∘SR;intro o0;apply rT∘qO;apply cA (Z:=[_,_,_,_]) (j:=3) (a9:=47) rfl rfl aB rfl aY rfl;·exact a4d
  intro h8;apply(dE);apply cA (Z:=[_,_,_]) (j:=9) (a9:=53) rfl rfl aB rfl aY rfl;·intro mW;replace mW:=bB mW;exact O1
  intro At;apply(dE);apply cA (Z:=[_,_,_,_]) (j:=14) (a9:=58) rfl rfl aB rfl aY rfl;·intro pF;replace pF:=bB pF;exact(gK) UM
  intro Q4;apply(dE);apply cA (Z:=[_,_,_,_,_]) (j:=20) (a9:=64) rfl rfl aB rfl aY rfl;·intro J4;replace J4:=bB J4;exact(j0) KV
  intro Vh;apply(b9);refine U ?_ ?_<;>intro dY;·apply(FU);refine cX L R ?_;exact⟨by simp[uI,aP,yT Tp aS (show y2 m.places.l.length y=some 4 by simp[y2];omega)];omega,rfl,rfl⟩
  apply hN∘qO;apply cA (Z:=[_,_,_]) (j:=3) (a9:=74) rfl rfl aB rfl aY rfl;·exact DR
  intro h8;apply(dE);apply cA (Z:=[_,_,_]) (j:=8) (a9:=79) rfl rfl aB rfl aY rfl;·exact Ce
  intro uY;apply(dE);apply cA (Z:=[_,_,_]) (j:=13) (a9:=84) rfl rfl aB rfl aY rfl;·exact Ic
  intro Q3;apply(b9);refine U ?_ ?_<;>intro h1;·apply(FU);refine cX L R ?_;exact⟨by simp[uI,aP,yT Tp aS (show y2 m.places.l.length y=some 1 by rw[y2,if_neg D,if_pos D])];omega,rfl,rfl⟩
  apply e0∘z6;refine cD rfl (aJm y.aD _ _ _ _) ?_;apply(JR);apply cA (Z:=[_,_,_,_]) (j:=4) (a9:=93) rfl rfl aB rfl aY rfl;·intro hD;replace hD:=bB hD;apply(z6);refine cD rfl (aJm y.k9 _ _ _ _) ?_;exact I0
  intro wP;apply(b9);refine U ?_ ?_<;>intro h2;·apply(vY);refine cX L R ?_;exact⟨by simp[uI,aP,yT Tp aS (show y2 m.places.l.length y=some 1 by rw[y2,if_neg D,if_pos (by rcases h2 with h|h<;>simp[h])])];omega,rfl,rfl⟩
  apply(mU);exact eO ⟨fI+1,x5 Tp aS (by rw[y2,if_neg D,if_neg (by simp[h2];omega)])⟩
 have cJ:=y1 Tp D;apply(D8);refine cX L R ?_;exact⟨by simp[uI,aP,cJ];omega,rfl,rfl⟩
def aJh(s:bC)(b5 aE:Int)(L:aR)(R:aO):
 aM prog 283 [s.val,.int .i64 b5,.int .i64 aE].toArray L R (λv E G=>v=.bool (P9 s b5 aE)/\L=E/\R=G):=by refine b6 24 call283 func283 rfl rfl rfl ?_;exact aOQ
def aXQ(m:h4)(L:aR)(R:aO)(a3:K4 m R):
 aM prog 247 [m.val].toArray L R (λv E G=>v=.int .i64 (uI m)/\L=E/\R=G):=by
 have eI:=a3.places;have mJ:=a3.aJ;refine m1 call247 eI λlK=>?_;refine m1 call247 mJ λER=>?_;refine b6 109 call247 func247 rfl rfl rfl ?_;apply(dB);intro gL;apply hH∘JM∘dE;apply cA (Z:=[_,_,_,_]) (j:=4) (a9:=11) rfl rfl aB rfl aY rfl;·exact UJ
 intro wP;apply(b9);refine U ?_ ?_<;>intro aQ;·apply(kM);refine cX L R ?_;exact⟨by simp[uI];omega,rfl,rfl⟩
 apply(yZ);refine dS [(1,.pointer _),(3,.int _ _)] bV λfK=>?_;refine gY ([2,3,4]++cN 17 19) (λg:FS (PF) (m.places.l)=>[(3,.int .i64 ((g.1:Nat):Int))]) (λg=>(m.places.l).length-g.1) ⟨0,y0 _ _⟩ ?_;rintro⟨fF,zA,gM⟩ cH;try dsimp only
 apply(q9);refine U ?_ ?_<;>intro bL;·
  obtain⟨x,K⟩:=jW (l:=m.places.l) (k:=fF) D;apply FY∘SD∘sH∘rS∘z5;apply cA (Z:=[_,_]) (j:=2) (a9:=32) rfl rfl aB rfl aY rfl;·exact G3
  intro mK;apply(b9);refine U ?_ ?_<;>intro cC;·apply(vY);refine cX L R ?_;exact⟨by simp[uI,yT gM K (show PF x=some 1 by simp[PF];omega)];omega,rfl,rfl⟩
  apply(mT);exact eO ⟨fF+1,x5 gM K (by simp[PF];omega)⟩
 have mX:=y1 gM D;apply(PZ);refine dS [(1,.pointer _),(5,.int _ _)] bV λoA=>?_;refine gY ([2,5,6]++cN 36 73) (λg:FS (y2 m.places.l.length) (m.aJ.l)=>[(5,.int .i64 ((g.1:Nat):Int))]) (λg=>(m.aJ.l).length-g.1) ⟨0,y0 _ _⟩ ?_;rintro⟨g9,hE,jT⟩ cH;try dsimp only
 apply(q9);refine U ?_ ?_<;>intro dX;·
  obtain⟨y,aS⟩:=jW (l:=m.aJ.l) (k:=g9) D;apply FY∘Cw∘SR;intro i1;apply rT∘qO;apply cA (Z:=[_,_,_,_,_,_]) (j:=3) (a9:=51) rfl rfl aB rfl aY rfl;·exact aS5
  intro h8;apply(dE);apply cA (Z:=[_,_,_]) (j:=11) (a9:=59) rfl rfl aB rfl aY rfl;·intro C9;replace C9:=bB C9;exact O1
  intro Vg;apply(dE);apply cA (Z:=[_,_,_,_,_,_]) (j:=16) (a9:=64) rfl rfl aB rfl aY rfl;·intro yA;replace yA:=bB yA;exact(fD∘aIN) g4
  intro a2H;apply(dE);apply cA (Z:=[_,_,_,_,_]) (j:=24) (a9:=72) rfl rfl aB rfl aY rfl;·intro N3;replace N3:=bB N3;exact(j0) KV
  intro aBs;apply(b9);refine U ?_ ?_<;>intro dY;·apply(FU);refine cX L R ?_;exact⟨by simp[uI,mX,yT jT aS (show y2 m.places.l.length y=some 4 by simp[y2];omega)];omega,rfl,rfl⟩
  apply e0∘qO;apply cA (Z:=[_,_,_]) (j:=3) (a9:=82) rfl rfl aB rfl aY rfl;·exact DR
  intro h8;apply(dE);apply cA (Z:=[_,_,_]) (j:=8) (a9:=87) rfl rfl aB rfl aY rfl;·exact Ce
  intro uY;apply(dE);apply cA (Z:=[_,_,_]) (j:=13) (a9:=92) rfl rfl aB rfl aY rfl;·exact Ic
  intro Q3;apply(dE);apply cA (Z:=[_,_,_,_]) (j:=18) (a9:=97) rfl rfl aB rfl aY rfl;·intro Z4;replace Z4:=bB Z4;apply(z6);refine cD rfl (aJh y.aD _ _ _ _) ?_;exact I0
  intro bAm;apply(dE);apply cA (Z:=[_,_,_,_]) (j:=24) (a9:=103) rfl rfl aB rfl aY rfl;·intro N3;replace N3:=bB N3;apply(z6);refine cD rfl (aJh y.k9 _ _ _ _) ?_;exact I0
  intro aBs;apply(b9);refine U ?_ ?_<;>intro h1;·apply(vY);refine cX L R ?_;exact⟨by simp[uI,mX,yT jT aS (show y2 m.places.l.length y=some 1 by rw[y2,if_neg D,if_pos (by simpa[or_assoc]using h1)])];omega,rfl,rfl⟩
  apply(mT);exact eO ⟨g9+1,x5 jT aS (by rw[y2,if_neg D,if_neg (by simpa[and_assoc]using h1)])⟩
 have tV:=y1 jT D;apply(D8);refine cX L R ?_;exact⟨by simp[uI,mX,tV];omega,rfl,rfl⟩
def H0(l:List j6)(i:Nat):Option Int:=
 match l[i]? with
 |none=>none
 |some p=>if p.dP< -1048576\/1048576<p.dP\/p.c8<0\/2199023255552<p.c8 then some 1
  else if i=0 then none
  else match l[i-1]? with
   |none=>none
   |some q=>if p.dP<=q.dP\/q.c8<p.c8 then some 14 else none
def M5(f:lR):Int:=
 if f.cV<0 then 4 else if f.iA.l.length<1\/8<f.iA.l.length then 2
 else((List.range f.iA.l.length).findSome? (H0 f.iA.l)).getD 0
def aJV{l:List j6}{k:Nat}{p:j6}(h:l[k]?=some p)(M:p.dP< -1048576\/1048576<p.dP\/p.c8<0\/2199023255552<p.c8):H0 l k=some 1:=by simp only[H0,h,if_pos M]
def aGK{l:List j6}{k:Nat}{p q:j6}(h:l[k]?=some p)(M:¬(p.dP< -1048576\/1048576<p.dP\/p.c8<0\/2199023255552<p.c8))(aG:k≠0)(c4:l[k-1]?=some q)(a5:p.dP<=q.dP\/q.c8<p.c8):H0 l k=some 14:=by simp only[H0,h,if_neg M,if_neg aG,c4,if_pos a5]
def aTC{l:List j6}{k:Nat}{p:j6}(h:l[k]?=some p)(M:¬(p.dP< -1048576\/1048576<p.dP\/p.c8<0\/2199023255552<p.c8))(aG:k=0):H0 l k=none:=by simp only[H0,h,if_neg M,if_pos aG]
def aTx{l:List j6}{k:Nat}{p q:j6}(h:l[k]?=some p)(M:¬(p.dP< -1048576\/1048576<p.dP\/p.c8<0\/2199023255552<p.c8))(aG:k≠0)(c4:l[k-1]?=some q)(a5:¬(p.dP<=q.dP\/q.c8<p.c8)):H0 l k=none:=by simp only[H0,h,if_neg M,if_neg aG,c4,if_neg a5]
def aYm(f:lR)(L:aR)(R:aO)(a3:aL f.gN R):
 aM prog 184 [f.val].toArray L R (λv E G=>v=.int .i64 (M5 f)/\L=E/\R=G):=by
 refine m1 call184 a3 λlK=>?_;refine b6 71 call184 func184 rfl rfl rfl ?_;apply(dB);intro gL;apply LH∘CP;refine U ?_ ?_<;>intro aQ;·apply(kM);refine cX L R ?_;exact⟨by rw[M5,if_pos D],rfl,rfl⟩
 apply hN∘kD∘z5;apply cA (Z:=[_,_,_,_]) (j:=4) (a9:=12) rfl rfl aB rfl aY rfl;·exact UJ
 intro wP;apply(b9);refine U ?_ ?_<;>intro bL;·exact aPP
 apply(NI);refine dS [(1,.pointer _),(19,.slice _ _ _),(20,.int _ _),(21,.int _ _)] bV λfK=>?_;refine gY ([2,3,4]++cN 21 50) (λg:E5 (H0 f.iA.l) (f.iA.l.length)=>[(21,.int .i64 ((g.1:Nat):Int))]) (λg=>(f.iA.l.length)-g.1) ⟨0,EC _ _⟩ ?_;rintro⟨fF,zA,gM⟩ cH;try dsimp only
 apply(h0);refine U ?_ ?_<;>intro cC;·
  obtain⟨p,aP⟩:=jW (l:=f.iA.l) (k:=fF) D;apply oJ∘SD∘LI;intro eD;apply dM∘rT∘qO;apply cA (Z:=[_,_,_]) (j:=3) (a9:=29) rfl rfl aB rfl aY rfl;·exact DR
  intro h8;apply(dE);apply cA (Z:=[_,_,_]) (j:=8) (a9:=34) rfl rfl aB rfl aY rfl;·exact Ce
  intro uY;apply(dE);apply cA (Z:=[_,_,_]) (j:=13) (a9:=39) rfl rfl aB rfl aY rfl;·exact Ic
  intro Q3;apply(b9);refine U ?_ ?_<;>intro dX;·apply(FU);refine cX L R ?_;exact aEL
  apply wW∘aHo∘hK;refine bE UK rfl rfl rfl ?_;apply(sS);refine lQ (k:=46) aY (λjL=>?_) (λjL=>?_);·
   replace jL:=bB jL;obtain⟨q,cJ⟩:=jW (l:=f.iA.l) (k:=fF-1) D;apply g7∘l1∘vQ∘a0G∘z7;refine bE (Qk rfl rfl) rfl rfl rfl ?_;apply(sS);refine lQ (k:=57) aY (λtB=>?_) (λtB=>?_);·exact aSO
   replace tB:=bB tB;apply g7∘l1∘vQ∘a0G∘z7;refine bE UK rfl rfl rfl ?_;apply KJ∘l2;refine U ?_ ?_<;>intro dY;·apply(vY);refine cX L R ?_;exact a48
   apply(mU);exact a3h
  replace jL:=bB jL;iterate 22 apply(iU)
  apply(l2);refine MX rfl ?_;apply(mU);exact a3h
 exact aRm
def aYd(f:lR)(L:aR)(R:aO)(a3:aL f.gN R):
 aM prog 248 [f.val].toArray L R (λv E G=>v=.int .i64 (M5 f)/\L=E/\R=G):=by
 refine m1 call248 a3 λlK=>?_;refine b6 74 call248 func248 rfl rfl rfl ?_;apply(dB);intro gL;apply LH∘CP;refine U ?_ ?_<;>intro aQ;·apply(kM);refine cX L R ?_;exact⟨by rw[M5,if_pos D],rfl,rfl⟩
 apply hN∘kD∘z5;apply cA (Z:=[_,_,_,_]) (j:=4) (a9:=12) rfl rfl aB rfl aY rfl;·exact UJ
 intro wP;apply(b9);refine U ?_ ?_<;>intro bL;·exact aPP
 apply(yZ);refine dS [(1,.pointer _),(3,.int _ _)] bV λfK=>?_;refine gY ([2,3,4]++cN 18 56) (λg:E5 (H0 f.iA.l) (f.iA.l.length)=>[(3,.int .i64 ((g.1:Nat):Int))]) (λg=>(f.iA.l.length)-g.1) ⟨0,EC _ _⟩ ?_;rintro⟨fF,zA,gM⟩ cH;try dsimp only
 apply(q9);refine U ?_ ?_<;>intro cC;·
  obtain⟨p,aP⟩:=jW (l:=f.iA.l) (k:=fF) D;apply FY∘SD∘LI;intro eD;apply rT∘qO;apply cA (Z:=[_,_,_]) (j:=3) (a9:=33) rfl rfl aB rfl aY rfl;·exact DR
  intro h8;apply(dE);apply cA (Z:=[_,_,_]) (j:=8) (a9:=38) rfl rfl aB rfl aY rfl;·exact Ce
  intro uY;apply(dE);apply cA (Z:=[_,_,_]) (j:=13) (a9:=43) rfl rfl aB rfl aY rfl;·exact Ic
  intro Q3;apply(b9);refine U ?_ ?_<;>intro dX;·apply(FU);refine cX L R ?_;exact aEL
  apply wW∘aHo∘hK;refine bE UK rfl rfl rfl ?_;apply(sS);refine lQ (k:=50) aY (λjL=>?_) (λjL=>?_);·
   replace jL:=bB jL;obtain⟨q,cJ⟩:=jW (l:=f.iA.l) (k:=fF-1) D;apply g7∘l1∘vQ∘a0G∘z7;refine bE (Qk rfl rfl) rfl rfl rfl ?_;apply(sS);refine lQ (k:=61) aY (λtB=>?_) (λtB=>?_);·exact aSO
   replace tB:=bB tB;apply g7∘l1∘vQ∘a0G∘z7;refine bE UK rfl rfl rfl ?_;apply KJ∘l2;refine U ?_ ?_<;>intro dY;·apply(vY);refine cX L R ?_;exact a48
   apply(mT);exact a3h
  replace jL:=bB jL;iterate 22 apply(iU)
  apply(l2);refine MX rfl ?_;apply(mT);exact a3h
 exact aRm
def Dg(x:Int):Option Int:=if x<0\/262144<x then some 1 else none
def zV(l:List Int):Nat->Bool
 |0=>true
 |k+1=>zV l k && (decide (k=0)||decide (l.getD k 0<l.getD (k-1) 0))
def aZZ{l:List Int}{k n:Nat}(h:k<=n)(aF:zV l n=true):zV l k=true:=by
 induction n with
 |zero=>rw[show k=0 by omega];rfl
 |succ n c6=>
  rcases hF k (n+1)with c4|c4;·simp only[zV,nH]at aF;exact c6 D aF.1
  ·rw[show k=n+1 by omega];exact aF
def aZ0{l:List Int}{k:Nat}{x:Int}(K:l[k]?=some x):(zV l k && (decide ((k:Int)=0)||decide (x<l.getD (k-1) 0)))=zV l (k+1):=by rw[zV,getD_some K];congr 2;simp only[decide_eq_decide];omega
def aXL{l:List Int}{k n:Nat}{x y:Int}(aG:k<n)(b2:k≠0)(K:l[k]?=some x)(aS:l[k-1]?=some y)(h:y<=x):zV l n=false:=by
 rcases a5:zV l n with _|_;·rfl
 ·have:=aZZ (show k+1<=n from aG) a5;simp only[zV,nH,Nq,decide_eq_true_eq,getD_some K,getD_some aS]at this;omega
def aYY{l:List Int}{k:Nat}{x y:Int}(b2:k≠0)(K:l[k]?=some x)(aS:l[k-1]?=some y):zV l (k+1)=(zV l k && decide (x<y)):=by rw[zV,getD_some K,getD_some aS];simp[b2]
abbrev Kj(l:List kI)(i:Nat)(d:kI):Prop:=
 d.zJ≠-1/\(d.zJ<0\/(l.length:Int)<=d.zJ\/d.zJ=(i:Int)\/(l.getD d.zJ.toNat default).zJ≠(i:Int))
def I8(l:List kI)(i:Nat):Option Int:=
 match l[i]? with
 |none=>none
 |some d=>if d.cV<0 then some 4 else if d.hS.l.length<2\/6<d.hS.l.length then some 2
  else match d.hS.l.findSome? Dg with
   |some e=>some e
   |none=>if zV d.hS.l d.hS.l.length=false then some 15 else if Kj l i d then some 15 else none
def EB(l:List kI):Int:=if 16<l.length then 2 else((List.range l.length).findSome? (I8 l)).getD 0
def a6S{l:List kI}{i:Nat}{d:kI}(h:l[i]? =some d):I8 l i=if d.cV<0 then some 4 else if d.hS.l.length<2\/6<d.hS.l.length then some 2
 else match d.hS.l.findSome? Dg with
  |some e=>some e
  |none=>if zV d.hS.l d.hS.l.length=false then some 15 else if Kj l i d then some 15 else none:=by rw[I8,h]
def Kv{l:List kI}{k:Nat}{e:Int}(b1P:¬16<l.length)(aP:(List.range l.length).findSome? (I8 l)=((List.range l.length).drop k).findSome? (I8 l))(aG:k<l.length)(h:I8 l k=some e):EB l=e:=by rw[EB,if_neg b1P,wH aP aG h];rfl
def aUP(x:a4 kI)(L:aR)(R:aO)(a3:aL (V8 x) R):
 aM prog 185 [x.val].toArray L R (λv E G=>v=.int .i64 (EB x.l)/\L=E/\R=G):=by
 refine m1 call185 a3 λlK=>?_;refine b6 95 call185 func185 rfl rfl rfl ?_;apply PU∘pR∘HS;refine U ?_ ?_<;>intro aQ;·apply(kM);refine cX L R ?_;exact⟨by rw[EB,if_pos D],rfl,rfl⟩
 apply hN∘BN;refine dS [(0,.slice _ _ _),(11,.slice _ _ _),(12,.int _ _),(13,.int _ _)] bV λfK=>?_;refine gY (cN 2 6++cN 13 82) (λg:E5 (I8 x.l) (x.l.length)=>[(13,.int .i64 ((g.1:Nat):Int))]) (λg=>(x.l.length)-g.1) ⟨0,EC _ _⟩ ?_;rintro⟨fF,zA,gM⟩ cH;try dsimp only
 apply(h0);refine U ?_ ?_<;>intro bL;·
  obtain⟨d,bM⟩:=jW (l:=x.l) (k:=fF) D;have QK:=aL.H4 a3 bM;have B2:=a6S bM;apply oJ∘SD∘Hm∘dZ;intro eD;apply dM∘F0∘CP;refine U ?_ ?_<;>intro cC;·exact aSs
  apply hN∘kD∘z5;apply cA (Z:=[_,_,_,_]) (j:=4) (a9:=25) rfl rfl aB rfl aY rfl;·exact UJ
  intro wP;apply(b9);refine U ?_ ?_<;>intro dX;·apply(FU);refine cX L R ?_;exact aIg
  rw[if_neg D,if_neg D]at B2;apply e0∘F1∘qP;refine FP (cN 2 6++cN 13 82) G1 [(3,.int _ _),(4,.pointer _),(5,.bool _),(13,.int _ _),(32,.slice _ _ _),(33,.int _ _),(34,.int _ _)] bV λoA=>?_;refine gY ([2,5,6,7]++cN 34 27) (λg:FS (Dg) (d.hS.l)=>[(34,.int .i64 ((g.1:Nat):Int)),(5,.bool (zV d.hS.l g.1))]) (λg=>(d.hS.l).length-g.1) ⟨0,y0 _ _⟩ ?_;rintro⟨g9,hE,jT⟩ cH;try dsimp only
  apply(h0);refine U ?_ ?_<;>intro dY;·
   obtain⟨r,M⟩:=jW (l:=d.hS.l) (k:=g9) D;apply oJ∘Cw∘jG∘dM∘SL;apply cA (Z:=[_,_]) (j:=2) (a9:=41) rfl rfl aB rfl aY rfl;·exact G3
   intro mK;apply(b9);refine U ?_ ?_<;>intro h1;·apply(m3);refine eZ (a8 (iY (gB (iM (gB (vW (iM (gB (iM (gB (vW (iM (gB ?_)))))))))))));refine cX L R ?_;exact aLd
   refine eP (a8 (c2 ?_));apply dE∘dE;apply iR (Z:=[_,_,_,_,_,_,_,_,_,_,_,_]) (j:=1) (a9:=46) rfl rfl aB rfl aY rfl;·
    intro jL;replace jL:=bB jL;apply cE∘sG;apply cA (Z:=[_,_,_,_,_,_,_,_]) (j:=4) (a9:=49) rfl rfl aB rfl aY rfl;·intro hD;replace hD:=bB hD;have aS:=bJ (l:=d.hS.l) (k:=g9-1) 0 D;apply cE∘a0Y;refine aI (by first|exact j4 N rfl rfl rfl rfl i9 (i:=g9-1) dA D|exact i5 N rfl rfl rfl rfl (i:=g9-1) dA D) rfl ?_;exact(jG) DU
    intro wP;exact g4
   intro aNx;apply nG∘uJ;exact hP ⟨g9+1,x5 jT M (if_neg D)⟩ gW ⟨rfl,congrArg Value.bool (aZ0 M),trivial⟩ bA eN hO
  have tV:=y1 jT D;obtain rfl:g9=d.hS.l.length:=by omega
  rw[tV]at B2;dsimp only at B2;apply xN∘SK;refine U ?_ ?_<;>intro h2;·apply(FU);refine cX L R ?_;exact⟨by rw[Kv D gM D (B2.trans (by rw[if_pos h2]))],rfl,rfl⟩
  rw[if_neg (by simp[h2])]at B2;apply e0∘fD∘p9;apply iR (Z:=[_,_,_,_,_,_,_,_,_,_,_,_,_,_,_,_,_,_,_,_,_,_,_,_,_,_]) (j:=3) (a9:=66) rfl rfl aB rfl aY rfl;·
   intro eR;replace eR:=bB eR;apply(qO);apply cA (Z:=[_,_,_,_,_]) (j:=7) (a9:=70) rfl rfl aB rfl aY rfl;·intro hM;replace hM:=bB hM;exact(fD∘VQ) g4
   intro OD;apply(dE);apply cA (Z:=[_,_,_,_]) (j:=14) (a9:=77) rfl rfl aB rfl aY rfl;·intro pF;replace pF:=bB pF;exact(gK) KV
   intro Q4;apply(dE);apply cA (Z:=[_,_,_,_,_,_,_,_]) (j:=20) (a9:=83) rfl rfl aB rfl aY rfl;·exact aSf
   intro Vh;exact g4
  intro h8;apply(b9);refine U ?_ ?_<;>intro n8;·exact aRL
  apply(mU);exact eO ⟨fF+1,z2 gM D (B2.trans (if_neg D))⟩
 exact aR5
def aYA(x:a4 kI)(L:aR)(R:aO)(a3:aL (V8 x) R):
 aM prog 249 [x.val].toArray L R (λv E G=>v=.int .i64 (EB x.l)/\L=E/\R=G):=by
 refine m1 call249 a3 λlK=>?_;refine b6 104 call249 func249 rfl rfl rfl ?_;apply PU∘pR∘HS;refine U ?_ ?_<;>intro aQ;·apply(kM);refine cX L R ?_;exact⟨by rw[EB,if_pos D],rfl,rfl⟩
 apply(yZ);refine dS [(0,.slice _ _ _),(3,.int _ _)] bV λfK=>?_;refine gY ([2,3,4,5,6]++cN 10 94) (λg:E5 (I8 x.l) (x.l.length)=>[(3,.int .i64 ((g.1:Nat):Int))]) (λg=>(x.l.length)-g.1) ⟨0,EC _ _⟩ ?_;rintro⟨fF,zA,gM⟩ cH;try dsimp only
 apply(uM);refine U ?_ ?_<;>intro bL;·
  obtain⟨d,bM⟩:=jW (l:=x.l) (k:=fF) D;have QK:=aL.H4 a3 bM;have B2:=a6S bM;apply j9∘h9∘SD∘Hm∘dZ;intro eD;apply F0∘CP;refine U ?_ ?_<;>intro cC;·exact aSs
  apply hN∘kD∘z5;apply cA (Z:=[_,_,_,_]) (j:=4) (a9:=27) rfl rfl aB rfl aY rfl;·exact UJ
  intro wP;apply(b9);refine U ?_ ?_<;>intro dX;·apply(FU);refine cX L R ?_;exact aIg
  rw[if_neg D,if_neg D]at B2;apply(yZ);refine FP ([2,3,4,5,6]++cN 10 94) G1 [(3,.int _ _),(4,.pointer _),(5,.int _ _)] bV λoA=>?_;refine gY ([2,5]++cN 33 21) (λg:FS (Dg) (d.hS.l)=>[(5,.int .i64 ((g.1:Nat):Int))]) (λg=>(d.hS.l).length-g.1) ⟨0,y0 _ _⟩ ?_;rintro⟨g9,hE,jT⟩ cH;try dsimp only
  apply(q9);refine U ?_ ?_<;>intro dY;·
   obtain⟨r,M⟩:=jW (l:=d.hS.l) (k:=g9) D;apply FY∘Cw∘jG∘z5;apply cA (Z:=[_,_,_,_,_,_]) (j:=6) (a9:=46) rfl rfl aB rfl aY rfl;·intro kF;replace kF:=bB kF;exact(gK∘Cw∘jG) MI
   intro IJ;apply(b9);refine U ?_ ?_<;>intro h1;·apply(m3);refine eZ (a8 (iY (iM (gB (vW (iM (gB (iM (gB (vW (iM (gB ?_))))))))))));refine cX L R ?_;exact aLd
   apply(mT);exact eO ⟨g9+1,x5 jT M (if_neg D)⟩
  have tV:=y1 jT D;rw[tV]at B2;dsimp only at B2;apply(PZ);refine FP ([2,3,4,5,6]++cN 10 94) G1 [(3,.int _ _),(4,.pointer _),(6,.int _ _)] bV λUD=>?_;refine gY ([2,6]++cN 54 19) (λg:{k:Nat//1<=k/\k<=d.hS.l.length/\zV d.hS.l k=true}=>[(6,.int .i64 ((g.1:Nat):Int))]) (λg=>d.hS.l.length-g.1) (⟨1,by omega,by omega,by simp[zV]⟩) ?_;rintro⟨fI,b9i,b9j,aLN⟩ cH;try dsimp only
  apply(q9);refine U ?_ ?_<;>intro h2;·
   obtain⟨r,M⟩:=jW (l:=d.hS.l) (k:=fI) D;obtain⟨y,aS⟩:=jW (l:=d.hS.l) (k:=fI-1) D;refine eP (a8 (bK (fR (bK ?_))));refine gZ N [0,1,2,3,4,5,6,7,8,9,10,11] _ dO bI hA ?_;apply l1∘Mv∘k4∘l1∘vQ;refine bE (by first|exact j4 N rfl rfl rfl rfl i9 (i:=fI-1) dA D|exact i5 N rfl rfl rfl rfl (i:=fI-1) dA D) rfl rfl rfl ?_;apply(k4);refine bE G4 rfl rfl rfl ?_;apply(wV);refine U ?_ ?_<;>intro n8;·apply(m3);refine eZ (a8 (iY (iM (gB (vW (iM (gB (iM (gB (vW (iM (gB ?_))))))))))));refine cX L R ?_;exact⟨by rw[Kv D gM D (B2.trans (by rw[if_pos (aXL D D M aS n8)]))],rfl,rfl⟩
   apply(mT);exact eO (⟨fI+1,by omega,by omega,by rw[aYY D M aS,aLN,Bool.true_and,decide_eq_true_eq];omega⟩)
  obtain rfl:fI=d.hS.l.length:=by omega
  rw[if_neg (by simp[aLN])]at B2;apply n9∘fD∘p9;apply iR (Z:=[_,_,_,_,_,_,_,_,_,_,_,_,_,_,_,_,_,_,_,_,_,_,_,_,_,_]) (j:=3) (a9:=76) rfl rfl aB rfl aY rfl;·
   intro eR;replace eR:=bB eR;apply(qO);apply cA (Z:=[_,_,_,_,_]) (j:=7) (a9:=80) rfl rfl aB rfl aY rfl;·intro hM;replace hM:=bB hM;exact(fD∘VQ) g4
   intro OD;apply(dE);apply cA (Z:=[_,_,_,_]) (j:=14) (a9:=87) rfl rfl aB rfl aY rfl;·intro pF;replace pF:=bB pF;exact(gK) KV
   intro Q4;apply(dE);apply cA (Z:=[_,_,_,_,_,_,_,_]) (j:=20) (a9:=93) rfl rfl aB rfl aY rfl;·exact aSf
   intro Vh;exact g4
  intro h8;apply(b9);refine U ?_ ?_<;>intro EM;·exact aRL
  apply(mT);exact eO ⟨fF+1,z2 gM D (B2.trans (if_neg D))⟩
 exact aR5
def Dy(n:Nat)(f:lR):Option Int:=if M5 f≠0 then some (M5 f)else if(n:Int)<=f.cV then some 4 else none
def Cv(n:Nat)(d:kI):Option Int:=if(n:Int)<=d.cV then some 4 else none
def h5(x:b3):Int:=
 if uI x.aC≠0 then uI x.aC else if 8<x.c3.l.length then 2
 else match x.c3.l.findSome? (Dy x.aC.aJ.l.length)with
  |some e=>e
  |none=>if EB x.cM.l≠0 then EB x.cM.l else(x.cM.l.findSome? (Cv x.aC.aJ.l.length)).getD 0
def aE5{x:b3}(h:uI x.aC=0)(NW:¬8<x.c3.l.length){e:Int}(aF:x.c3.l.findSome? (Dy x.aC.aJ.l.length)=some e):h5 x=e:=by rw[h5,if_neg D,if_neg NW,aF]
def aEg{x:b3}(h:uI x.aC=0)(NW:¬8<x.c3.l.length)(aF:x.c3.l.findSome? (Dy x.aC.aJ.l.length)=none):
 h5 x=if EB x.cM.l≠0 then EB x.cM.l else(x.cM.l.findSome? (Cv x.aC.aJ.l.length)).getD 0:=by rw[h5,if_neg D,if_neg NW,aF]
def Zd(x:b3)(L:aR)(R:aO)(a3:mZ x R):
 aM prog 109 [x.val].toArray L R (λv E G=>v=.int .i64 (h5 x)/\L=E/\R=G):=by
 have uV:=a3.c3;have nD:=a3.cM;refine m1 call109 uV λAP=>?_;refine m1 call109 nD λLS=>?_;refine b6 61 call109 func109 rfl rfl rfl ?_;apply(dB);intro gL;apply hH∘z6;refine cD rfl (aIn x.aC _ _ a3.T1) ?_;apply(j7);refine U ?_ ?_<;>intro aQ;·apply(FW);refine cX L R ?_;exact⟨by rw[h5,if_pos aQ],rfl,rfl⟩
 simp only[a3m]at aQ;apply hN∘JM∘b9;refine U ?_ ?_<;>intro bL;·exact aPq
 apply(NI);refine dS [(1,.pointer _),(21,.slice _ _ _),(22,.int _ _),(23,.int _ _)] bV λfK=>?_;refine gY ([2,5,6]++cN 23 17) (λg:FS (Dy x.aC.aJ.l.length) (x.c3.l)=>[(23,.int .i64 ((g.1:Nat):Int))]) (λg=>(x.c3.l).length-g.1) ⟨0,y0 _ _⟩ ?_;rintro⟨fF,zA,gM⟩ cH;try dsimp only
 apply(h0);refine U ?_ ?_<;>intro cC;·
  obtain⟨f,aF⟩:=jW (l:=x.c3.l) (k:=fF) D;have kE:=aL.qR uV aF;apply j9∘SD∘LG;intro gQ;apply rT∘r5;refine cD rfl (aYm f _ _ kE) ?_
  skip
  apply(j7);refine U ?_ ?_<;>intro dX;·exact aRt
  apply e0∘fD∘CT∘D7;refine U ?_ ?_<;>intro dY;·exact aRf
  apply(mU);exact eO ⟨fF+1,x5 gM aF ((if_neg dX).trans (if_neg dY))⟩
 have mX:=y1 gM D;have M:=aEg aQ D mX;apply xN∘fD;refine cD rfl (aUP x.cM _ _ nD) ?_;apply(j7);refine U ?_ ?_<;>intro h1;·apply(FW);refine cX L R ?_;exact⟨by rw[M,if_pos h1],rfl,rfl⟩
 rw[if_neg h1]at M;apply(NI);refine dS [(1,.pointer _),(47,.slice _ _ _),(48,.int _ _),(49,.int _ _)] bV λoA=>?_;refine gY ([2,9]++cN 49 12) (λg:FS (Cv x.aC.aJ.l.length) (x.cM.l)=>[(49,.int .i64 ((g.1:Nat):Int))]) (λg=>(x.cM.l).length-g.1) ⟨0,y0 _ _⟩ ?_;rintro⟨g9,hE,jT⟩ cH;try dsimp only
 apply(h0);refine U ?_ ?_<;>intro h2;·
  obtain⟨d,bM⟩:=jW (l:=x.cM.l) (k:=g9) D;apply j9∘Cw∘Hm∘dZ;intro jR;apply z8∘CT∘D7;refine U ?_ ?_<;>intro n8;·exact aQA
  apply(mU);exact eO ⟨g9+1,x5 jT bM (if_neg n8)⟩
 exact aQw
def Pg(x:b3)(L:aR)(R:aO)(a3:mZ x R):
 aM prog 202 [x.val].toArray L R (λv E G=>v=.int .i64 (h5 x)/\L=E/\R=G):=by
 have uV:=a3.c3;have nD:=a3.cM;refine m1 call202 uV λAP=>?_;refine m1 call202 nD λLS=>?_;refine b6 69 call202 func202 rfl rfl rfl ?_;apply(dB);intro gL;apply hH∘z6;refine cD rfl (aXQ x.aC _ _ a3.T1) ?_;apply(j7);refine U ?_ ?_<;>intro aQ;·apply(FW);refine cX L R ?_;exact⟨by rw[h5,if_pos aQ],rfl,rfl⟩
 simp only[a3m]at aQ;apply hN∘JM∘b9;refine U ?_ ?_<;>intro bL;·exact aPq
 apply(yZ);refine dS [(1,.pointer _),(4,.int _ _)] bV λfK=>?_;refine gY ([2,4,5]++cN 18 27) (λg:FS (Dy x.aC.aJ.l.length) (x.c3.l)=>[(4,.int .i64 ((g.1:Nat):Int))]) (λg=>(x.c3.l).length-g.1) ⟨0,y0 _ _⟩ ?_;rintro⟨fF,zA,gM⟩ cH;try dsimp only
 apply(q9);refine U ?_ ?_<;>intro cC;·
  obtain⟨f,aF⟩:=jW (l:=x.c3.l) (k:=fF) D;have kE:=aL.qR uV aF;refine eP (a8 (bK (fR (bK (bK (c2 ?_))))));apply gK∘SD∘aOq;refine cD rfl (aYd f _ _ kE) ?_;apply(j7);refine U ?_ ?_<;>intro dX;·exact aRt
  apply wW∘a7u∘l1;refine bE O0 rfl rfl rfl ?_;apply z7∘LD;refine bE yG rfl rfl rfl ?_;refine bE G4 rfl rfl rfl ?_;apply(wV);refine U ?_ ?_<;>intro dY;·exact aRf
  apply(mT);exact eO ⟨fF+1,x5 gM aF ((if_neg dX).trans (if_neg dY))⟩
 have mX:=y1 gM D;have M:=aEg aQ D mX;apply xN∘fD;refine cD rfl (aYA x.cM _ _ nD) ?_;apply(j7);refine U ?_ ?_<;>intro h1;·apply(FW);refine cX L R ?_;exact⟨by rw[M,if_pos h1],rfl,rfl⟩
 rw[if_neg h1]at M;apply(yZ);refine dS [(1,.pointer _),(7,.int _ _)] bV λoA=>?_;refine gY ([2,7]++cN 51 18) (λg:FS (Cv x.aC.aJ.l.length) (x.cM.l)=>[(7,.int .i64 ((g.1:Nat):Int))]) (λg=>(x.cM.l).length-g.1) ⟨0,y0 _ _⟩ ?_;rintro⟨g9,hE,jT⟩ cH;try dsimp only
 apply(q9);refine U ?_ ?_<;>intro h2;·
  obtain⟨d,bM⟩:=jW (l:=x.cM.l) (k:=g9) D;refine eP (a8 (bK (fR (bK ?_))));apply a7u∘l1∘a0I∘z7∘LD;refine bE yG rfl rfl rfl ?_;refine bE G4 rfl rfl rfl ?_;apply(wV);refine U ?_ ?_<;>intro n8;·exact aQA
  apply(mT);exact eO ⟨g9+1,x5 jT bM (if_neg n8)⟩
 exact aQw
def Iq(x:Int):Option Unit:=if x< -1\/2<x then some ()else none
def P7(l:List kI)(s:List Int)(i:Nat):Option Unit:=
 match s[i]?,l[i]? with
 |some y,some d=>if y< -1\/(d.hS.l.length:Int)<=y then some ()else none
 |_,_=>none
def l0(a:b3)(s:cS):Bool:=
 if s.c3.l.length≠a.c3.l.length\/s.cM.l.length≠a.cM.l.length then false
 else(s.c3.l.findSome? Iq).isNone && ((List.range s.cM.l.length).findSome? (P7 a.cM.l s.cM.l)).isNone
def O8(a:b3)(s:cS):Bool:=decide (h5 a=0) && l0 a s
def a0B{l:List kI}{s:List Int}{i:Nat}{y:Int}{d:kI}(aS:s[i]?=some y)(bM:l[i]?=some d):P7 l s i=if y< -1\/(d.hS.l.length:Int)<=y then some ()else none:=by rw[P7,aS,bM]
def Dx{a:b3}{s:cS}(h:s.c3.l.length=a.c3.l.length)(c4:s.cM.l.length=a.cM.l.length):l0 a s=((s.c3.l.findSome? Iq).isNone && ((List.range s.cM.l.length).findSome? (P7 a.cM.l s.cM.l)).isNone):=by rw[l0,if_neg D]
def a6h(a:b3)(s:cS)(L:aR)(R:aO)(a3:mZ a R)(aH:pQ s R):
 aM prog 110 [a.val,s.val].toArray L R (λv E G=>v=.bool (l0 a s)/\L=E/\R=G):=by
 have uV:=a3.c3;have nD:=a3.cM;have Gt:=aH.c3;have Uo:=aH.cM;refine m1 call110 Gt λAP=>?_;refine m1 call110 Uo λLS=>?_;refine b6 61 call110 func110 rfl rfl rfl ?_;apply(dB);intro eH;apply(iV);intro eS;apply F1∘kD∘kD∘p9;apply cA (Z:=[_,_,_,_,_,_,_]) (j:=7) (a9:=16) rfl rfl aB rfl aY rfl;·intro hM;replace hM:=bB hM;exact(kD) Co
 intro OD;apply(b9);refine U ?_ ?_<;>intro aQ;·apply(PR);refine lG L R ?_;exact⟨by rw[l0,if_pos D],rfl,rfl⟩
 apply(NI);refine dS [(2,.pointer _),(3,.pointer _),(26,.slice _ _ _),(27,.int _ _),(28,.int _ _)] bV λfK=>?_;refine gY ([4,6]++cN 28 11) (λg:FS (Iq) (s.c3.l)=>[(28,.int .i64 ((g.1:Nat):Int))]) (λg=>(s.c3.l).length-g.1) ⟨0,y0 _ _⟩ ?_;rintro⟨fF,zA,gM⟩ cH;try dsimp only
 apply(h0);refine U ?_ ?_<;>intro bL;·
  obtain⟨x,K⟩:=jW (l:=s.c3.l) (k:=fF) D;apply j9∘SD∘jG∘rS∘z5;apply cA (Z:=[_,_]) (j:=2) (a9:=34) rfl rfl aB rfl aY rfl;·exact G3
  intro mK;apply(b9);refine U ?_ ?_<;>intro cC;·apply(FV);refine lG L R ?_;exact⟨by rw[Dx D D,yT gM K (if_pos D)];rfl,rfl,rfl⟩
  apply(mU);exact eO ⟨fF+1,x5 gM K (if_neg D)⟩
 have mX:=y1 gM D;apply xN∘qP;refine dS [(2,.pointer _),(40,.slice _ _ _),(41,.int _ _),(42,.int _ _)] bV λoA=>?_;refine gY ([4,7,8]++cN 42 19) (λg:E5 (P7 a.cM.l s.cM.l) (s.cM.l.length)=>[(42,.int .i64 ((g.1:Nat):Int))]) (λg=>(s.cM.l.length)-g.1) ⟨0,EC _ _⟩ ?_;rintro⟨g9,hE,jT⟩ cH;try dsimp only
 apply(h0);refine U ?_ ?_<;>intro dX;·
  obtain⟨y,aS⟩:=jW (l:=s.cM.l) (k:=g9) D;obtain⟨d,bM⟩:=jW (l:=a.cM.l) (k:=g9) D;have W:=a0B aS bM;apply oJ∘Cw∘jG∘dM∘rS∘z5;apply cA (Z:=[_,_,_,_,_,_,_,_,_]) (j:=2) (a9:=49) rfl rfl aB rfl aY rfl;·intro fQ;replace fQ:=bB fQ;exact(cE∘gK∘Cw∘sH∘u0) UM
  intro mK;apply(b9);refine U ?_ ?_<;>intro dY;·apply(FV);refine lG L R ?_;exact⟨by rw[Dx D D,wH jT D (W.trans (if_pos D))];simp,rfl,rfl⟩
  apply(mU);exact eO ⟨g9+1,z2 jT D (W.trans (if_neg D))⟩
 have tV:=HV jT D;apply(SJ);refine lG L R ?_;exact⟨by rw[Dx D D,mX,tV];rfl,rfl,rfl⟩
def a6v(a:b3)(s:cS)(L:aR)(R:aO)(a3:mZ a R)(aH:pQ s R):
 aM prog 208 [a.val,s.val].toArray L R (λv E G=>v=.bool (O8 a s)/\L=E/\R=G):=by
 have uV:=a3.c3;have nD:=a3.cM;have Gt:=aH.c3;have Uo:=aH.cM;refine m1 call208 Gt λAP=>?_;refine m1 call208 Uo λLS=>?_;refine b6 77 call208 func208 rfl rfl rfl ?_;apply(dB);intro eH;apply(iV);intro eS;apply F1∘r5;refine cD rfl (Pg a _ _ a3) ?_;apply(p9);apply cA (Z:=[_,_,_,_,_,_,_]) (j:=3) (a9:=10) rfl rfl aB rfl aY rfl;·intro eR;replace eR:=bB eR;exact(kD) Co
 intro h8;apply(dE);apply cA (Z:=[_,_,_,_,_,_,_]) (j:=12) (a9:=19) rfl rfl aB rfl aY rfl;·intro tB;replace tB:=bB tB;exact(kD) Co
 intro b6f;apply(b9);refine U ?_ ?_<;>intro aQ;·
  have M:O8 a s=false:=by rw[O8,l0];by_cases W:h5 a=0;rw[if_pos D];simp;simp[W]
  apply(PR);refine lG L R ?_;exact⟨by rw[M],rfl,rfl⟩
 have M:O8 a s=l0 a s:=by rw[O8,decide_eq_true D];rfl
 apply(yZ);refine dS [(2,.pointer _),(3,.pointer _),(5,.int _ _)] bV λfK=>?_;refine gY ([4,5]++cN 28 21) (λg:FS (Iq) (s.c3.l)=>[(5,.int .i64 ((g.1:Nat):Int))]) (λg=>(s.c3.l).length-g.1) ⟨0,y0 _ _⟩ ?_;rintro⟨fF,zA,gM⟩ cH;try dsimp only
 apply(q9);refine U ?_ ?_<;>intro bL;·
  obtain⟨x,K⟩:=jW (l:=s.c3.l) (k:=fF) D;apply FY∘SD∘jG∘z5;apply cA (Z:=[_,_,_,_,_,_]) (j:=6) (a9:=41) rfl rfl aB rfl aY rfl;·intro kF;replace kF:=bB kF;exact(gK∘SD∘jG) MI
  intro IJ;apply(b9);refine U ?_ ?_<;>intro cC;·apply(FV);refine lG L R ?_;exact⟨by rw[M,Dx D D,yT gM K (if_pos D)];rfl,rfl,rfl⟩
  apply(mT);exact eO ⟨fF+1,x5 gM K (if_neg D)⟩
 have mX:=y1 gM D;apply(PZ);refine dS [(2,.pointer _),(3,.pointer _),(6,.int _ _)] bV λoA=>?_;refine gY ([4,6]++cN 49 28) (λg:E5 (P7 a.cM.l s.cM.l) (s.cM.l.length)=>[(6,.int .i64 ((g.1:Nat):Int))]) (λg=>(s.cM.l.length)-g.1) ⟨0,EC _ _⟩ ?_;rintro⟨g9,hE,jT⟩ cH;try dsimp only
 apply(q9);refine U ?_ ?_<;>intro dX;·
  obtain⟨y,aS⟩:=jW (l:=s.cM.l) (k:=g9) D;obtain⟨d,bM⟩:=jW (l:=a.cM.l) (k:=g9) D;have W:=a0B aS bM;refine eP (a8 (bK (fR (bK ?_))));refine gZ N [0,1,2,3,4,5,6,7,8,9,10,11,12,13,14,15,16,17,18,19,20] _ dO bI hA ?_;apply l1∘a0I∘k4;refine bE E0 rfl rfl rfl ?_;apply(sS);refine lQ (k:=62) aY (λkL=>?_) (λkL=>?_);·replace kL:=bB kL;(iterate 13 apply(iU));apply(l2);refine vS rfl ?_;apply(FV);refine lG L R ?_;exact aGz
  replace kL:=bB kL;apply l1∘a0I∘k4∘l1∘a0I∘z7;refine bE yG rfl rfl rfl ?_;refine bE G4 rfl rfl rfl ?_;apply(l2);refine U ?_ ?_<;>intro dY;·apply(FV);refine lG L R ?_;exact aGz
  apply(mT);exact eO ⟨g9+1,z2 jT D (W.trans (if_neg D))⟩
 have tV:=HV jT D;apply(SJ);refine lG L R ?_;exact⟨by rw[M,Dx D D,mX,tV];rfl,rfl,rfl⟩
def U2(l:List Int):Nat->Int
 |0=>l.getD 0 0
 |k+1=>min (U2 l k) (l.getD k 0)
def U0(l:List Int):Nat->Int
 |0=>l.getD 0 0
 |k+1=>max (U0 l k) (l.getD k 0)
def AA(d:kI)(s:Int):bC:=
 if d.hS.l.length=0\/s< -1\/(d.hS.l.length:Int)<=s then⟨0,0⟩
 else if s= -1 then⟨U2 d.hS.l d.hS.l.length,U0 d.hS.l d.hS.l.length⟩
 else⟨d.hS.l.getD s.toNat 0,d.hS.l.getD s.toNat 0⟩
def aUo(x:a4 Int)(L:aR)(R:aO)(a3:aL (dU x) R)(O:1<=x.l.length):
 aM prog 244 [x.val].toArray L R (λv E G=>v=.int .i64 (U2 x.l x.l.length)/\L=E/\R=G):=by
 refine m1 call244 a3 λlK=>?_;have b2:=bJ (l:=x.l) (k:=0) 0 D;refine b6 25 call244 func244 rfl rfl rfl ?_;apply PU∘aIK;refine Zq aY DQ ?_;apply D9∘Bk∘jG∘hH∘nP;refine dS [(0,.slice _ _ _),(3,.int _ _),(4,.int _ _)] bV λfK=>?_;refine a7q ([3,4]++cN 12 12) (λg:{k:Nat//1<=k/\k<=x.l.length}=>[(4,.int .i64 ((g.1:Nat):Int)),(3,.int .i64 (U2 x.l g.1))]) (λg=>x.l.length-g.1) (⟨1,by omega,by omega⟩) ⟨rfl,congrArg (Value.int .i64) (Int.min_self _).symm,trivial⟩ ?_;rintro⟨k,hE,l5⟩ cH;try dsimp only
 apply(uM);refine U ?_ ?_<;>intro bL;·have aG:=bJ (l:=x.l) (k:=k) 0 D;refine eP (a8 (bK (fR (c2 ?_))));apply cE∘h9∘GO∘jG;refine aI KT rfl ?_;exact(dM∘VO) aOn
 obtain rfl:k=x.l.length:=by omega
 exact(PO) Oa
def aT4(x:a4 Int)(L:aR)(R:aO)(a3:aL (dU x) R)(O:1<=x.l.length):
 aM prog 245 [x.val].toArray L R (λv E G=>v=.int .i64 (U0 x.l x.l.length)/\L=E/\R=G):=by
 refine m1 call245 a3 λlK=>?_;have b2:=bJ (l:=x.l) (k:=0) 0 D;refine b6 25 call245 func245 rfl rfl rfl ?_;apply PU∘aIK;refine Zq aY DQ ?_;apply D9∘Bk∘jG∘hH∘nP;refine dS [(0,.slice _ _ _),(3,.int _ _),(4,.int _ _)] bV λfK=>?_;refine a7q ([3,4]++cN 12 12) (λg:{k:Nat//1<=k/\k<=x.l.length}=>[(4,.int .i64 ((g.1:Nat):Int)),(3,.int .i64 (U0 x.l g.1))]) (λg=>x.l.length-g.1) (⟨1,by omega,by omega⟩) ⟨rfl,congrArg (Value.int .i64) (Int.max_self _).symm,trivial⟩ ?_;rintro⟨k,hE,l5⟩ cH;try dsimp only
 apply(uM);refine U ?_ ?_<;>intro bL;·have aG:=bJ (l:=x.l) (k:=k) 0 D;refine eP (a8 (bK (fR (c2 ?_))));apply cE∘h9∘GO∘jG;refine aI E1 rfl ?_;exact(dM∘VO) aOn
 obtain rfl:k=x.l.length:=by omega
 exact(PO) Oa
def aX7(d:kI)(s:Int)(L:aR)(R:aO)(a3:aL d.gN R):
 aM prog 192 [d.val,.int .i64 s].toArray L R (λv E G=>v=(AA d s).val/\L=E/\R=G):=by
 refine m1 call192 a3 λlK=>?_;refine b6 43 call192 func192 rfl rfl rfl ?_;apply(dB);intro eH;apply(dZ);intro eD;refine eZ (a8 (bK (fR (bK (c2 ?_)))));apply kD∘sG;apply cA (Z:=[_,_]) (j:=4) (a9:=10) rfl rfl aB rfl aY rfl;·intro hD;replace hD:=bB hD;exact(cE) DU
 intro wP;apply(dE);apply cA (Z:=[_,_,_,_,_]) (j:=8) (a9:=14) rfl rfl aB rfl aY rfl;·intro gH;replace gH:=bB gH;exact(Qz) g4
 intro uY;apply(w8);refine U ?_ ?_<;>intro aQ;·apply VW∘jZ∘KK;refine bQ L R kS ?_;exact⟨by rw[AA,if_pos D],rfl,rfl⟩
 apply HO∘vX;refine U ?_ ?_<;>intro bL;·refine bK ?_;refine iS N [] [0,1,3,4,2,5,6] [7] (_) _ dO bI bA Ch ?_;apply(PY);refine rQ rfl (aUo d.hS _ _ a3 D) rfl rfl ?_;rintro v E G ⟨rfl,rfl,rfl⟩;refine⟨bA,iQ,?_⟩;refine rQ rfl (aT4 d.hS _ _ a3 D) rfl rfl ?_;rintro v E G ⟨rfl,rfl,rfl⟩;refine⟨bA,iQ,?_⟩;apply Bh∘oX;refine g5 (a8 (iY (iM (gB ?_))));refine bQ L R kS ?_;exact⟨by rw[AA,if_neg D,if_pos D],rfl,rfl⟩
 refine eP (hI (a8 (bK ?_)));have aG:=bJ (l:=d.hS.l) (k:=s.toNat) 0 D;apply aHm∘BO∘Ys∘tE∘BO∘Ys∘tE∘Bh∘oX;refine g5 (a8 (iY ?_));refine bQ L R kS ?_;exact⟨by rw[AA,if_neg D,if_neg D],rfl,rfl⟩
def b05(d:kI)(s:Int)(L:aR)(R:aO)(a3:aL d.gN R):
 aM prog 181 [d.val,.int .i64 s].toArray L R (λv E G=>v=(AA d s).val/\L=E/\R=G):=by
 refine m1 call181 a3 λlK=>?_;refine b6 71 call181 func181 rfl rfl rfl ?_;apply(dB);intro eH;apply(dZ);intro eD;apply rF∘kD∘sG;apply cA (Z:=[_,_]) (j:=4) (a9:=11) rfl rfl aB rfl aY rfl;·intro hD;replace hD:=bB hD;exact(cE) DU
 intro wP;apply(dE);apply cA (Z:=[_,_,_,_,_]) (j:=8) (a9:=15) rfl rfl aB rfl aY rfl;·intro gH;replace gH:=bB gH;exact(Qz) g4
 intro uY;apply(b9);refine U ?_ ?_<;>intro aQ;·apply VW∘CR;refine bQ L R kS ?_;exact⟨by rw[AA,if_pos D],rfl,rfl⟩
 apply hN∘cE∘D7;refine U ?_ ?_<;>intro bL;·refine bK ?_;have aG:=bJ (l:=d.hS.l) (k:=s.toNat) 0 D;apply aHm∘BO∘Ys∘tE∘BO∘Ys∘tE∘Bh∘oX;refine g5 (a8 (iY (gB ?_)));refine bQ L R kS ?_;exact⟨by rw[AA,if_neg D,if_neg D],rfl,rfl⟩
 apply(wW);have b2:=bJ (l:=d.hS.l) (k:=0) 0 D;apply a7u∘g7∘aB2∘k4∘g7∘aB2∘k4;refine bE Oe rfl rfl rfl ?_;apply(qH);intro gQ;apply uC∘L4∘nP;refine dS [(2,.pointer _),(4,.pointer _),(5,.pointer _),(6,.int _ _)] bV λfK=>?_;refine k2 ([6]++cN 45 25) ((⟨λg=>[(6,.int .i64 ((g.1:Nat):Int))],λg=>⟨gQ,[.int .i64 (U2 d.hS.l g.1),.int .i64 (U0 d.hS.l g.1)],90⟩::⟨eD,[.int .i64 0,.int .i64 0],90⟩::⟨eH,d.cells,239⟩::L,λ_=>R,λg=>d.hS.l.length-g.1⟩:fB {k:Nat//k<=d.hS.l.length})) (⟨0,by omega⟩) ?_;rintro⟨k,aG⟩ cH;try dsimp only
 apply(q9);refine U ?_ ?_<;>intro cC;·have K:=bJ (l:=d.hS.l) (k:=k) 0 D;refine eP (a8 (bK (fR ?_)));refine iS N [62,63,64,65,66,67] [0,1,2,3,4,5,6,7,8,9,10,11,12,13,14,15,16] [17,18,19] (_) _ dO bI bA (by(repeat(first|apply List.Sublist.cons (a:=bN.mk gQ _ _)|apply List.Sublist.cons_cons));exact rH _) ?_;apply mH∘BO∘aBV∘tE;refine fP KT rfl rfl rfl rfl ?_;apply mH∘FZ;refine m2 zS rfl rfl rfl rfl ?_;refine m2 Wv rfl rfl rfl rfl ?_;refine m2 Cj rfl rfl rfl rfl ?_;refine m2 E1 rfl rfl rfl rfl ?_;apply VS∘lA∘Be∘JN;exact eO ⟨k+1,by omega⟩
 obtain rfl:k=d.hS.l.length:=by omega
 apply n9∘JP;refine bQ L R kS ?_;exact⟨by rw[AA,if_neg D,if_pos D],rfl,rfl⟩
end Go.Proofs.YtchfclmokpbldaaGreat
