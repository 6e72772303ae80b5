/-
  Merged texts. By an AI agent.
-/
import Derived.Test.YtchfclmokpbldaaGreatCloneS
import Derived.Test.YtchfclmokpbldaaGreatRefN
import Derived.Test.YtchfclmokpbldaaGreatSeqS
import Derived.Test.YtchfclmokpbldaaGreatFeedY
import Derived.Test.YtchfclmokpbldaaGreatFeedP
import Derived.Test.YtchfclmokpbldaaGreatStaG
import Derived.Test.YtchfclmokpbldaaGreatRefC
import Derived.Test.YtchfclmokpbldaaGreatStaD
set_option linter.all false
set_option maxHeartbeats 4000000
set_option maxRecDepth 20000
variable{A B:Prop}
namespace Go.Proofs.YtchfclmokpbldaaGreat
open Go.Aw Go Go.Proofs.Tryz
section
attribute [local irreducible] cQ dF dV aM cP eC e5 e1 e2 e6 eX e4 J.L
def aJ0(h:A->B:=by exact aI pL rfl):=h
def aGO(h:A->B:=by exact fP xR rfl rfl rfl rfl):=h
def aIQ(x:cL)(kind target n:Int)(L:aR)(R:aO)(h:u6 x R):
 aM prog 129 [x.val,.int .i64 kind,.int .i64 target,.int .i64 n].toArray L R (λv E G=>v=.int .i64 (CW x.aK.cO.l x.c7.l x.time kind target n)/\L=E/\R=G):=by
 have jB:=h.aK.cO;have j1:=(JT h.ok).len;refine b6 65 call129 func129 rfl rfl rfl ?_;apply(dB);intro eD;apply hH∘nP;refine dS [(1,.int _ _),(2,.int _ _),(3,.int _ _),(4,.pointer _),(9,.int _ _)] bV λfK=>?_;refine gY (cN 8 57) (λg:{k:Nat//k<=x.aK.cO.l.length/\∀j:Nat,j<k->¬((x.aK.cO.l.getD j default).kind=kind/\(x.aK.cO.l.getD j default).target=target)}=>[(9,.int .i64 ((g.1:Nat):Int))]) (λg=>x.aK.cO.l.length-g.1) (⟨0,by omega,λj a6=>by omega⟩) ?_;rintro⟨k,aG,hC⟩ cH;try dsimp only
 apply FR∘e7∘Qw;refine U ?_ ?_<;>intro aQ;·
  have b7:=bJ (l:=x.aK.cO.l) (k:=k) default D;refine eP (a8 (bK (fR (bK (bK (c2 ?_))))));apply BM∘aJ0∘VP∘p9;apply cA (Z:=[_,_,_,_,_,_,_,_,_]) (j:=9) (a9:=28) rfl rfl aB rfl aY rfl;·intro mW;replace mW:=bB mW;exact(BM∘aJ0∘VP) E2
  intro At;apply(b9);refine U ?_ ?_<;>intro bL;·refine mD (mF (mB (a8 (c2 ?_))));apply(M8);exact aCc
  have AQ:=aGF (S:=x.aK.cO.l) (kind:=kind) (target:=target) (k:=k) D D hC;apply e0∘e7;refine aI q1 rfl ?_;apply gK∘fD;refine cD rfl (a4M x.aK x.c7 (k:Int) x.time _ _ jB h.c7 h.IK h.time) ?_;apply(dZ);intro i0;apply rT∘j0∘sG;apply iR (Z:=[_,_,_]) (j:=5) (a9:=52) rfl rfl aB rfl aY rfl;·intro kL;replace kL:=bB kL;exact(Y7) g4
  intro XC;apply(dE);apply iR (Z:=[_,_,_,_]) (j:=10) (a9:=57) rfl rfl aB rfl aY rfl;·intro pE;replace pE:=bB pE;exact(gK) DU
  exact aQc
 exact aPJ
def aYx(x:cL)(L:aR)(R:aO)(h:u6 x R):
 aM prog 55 [x.val].toArray L R (λv E G=>∃iO lV:a4 Int,v=.agg #[iO.val,lV.val]/\iO.l=EF x.aK x.c7.l x.time x.aK.b0.c3.l.length/\lV.l=HH x.aK x.c7.l x.time x.aK.b0.cM.l.length/\L=E/\dU lV::dU iO::R=G):=by
 have Z3:=h.aK.b0.c3;have a9v:=h.aK.b0.cM;have ZV:=yR (JT h.ok).b0;have QT:=ZV.XF;have tW:=ZV.T3;refine b6 50 call55 func55 rfl rfl rfl ?_;apply(dB);intro gL;apply(dZ);intro eH;apply j8∘dZ;intro eS;apply rF∘nP;refine dS [(1,.pointer _),(2,.pointer _),(3,.pointer _),(4,.int _ _)] bV λfK=>?_;refine qK ([4]++cN 6 17) ((⟨λg=>[(4,.int .i64 ((g.1.1:Nat):Int))],λg=>⟨eS,[g.1.2.val,.slice none 0 0],80⟩::(g.1.2.L 3 a1++(⟨eH,[.slice none 0 0,.slice none 0 0],80⟩::⟨gL,x.cells,54⟩::L)),λ_=>R,λg=>x.aK.b0.c3.l.length-g.1.1⟩:fB {g:Nat×J Int//g.1<=x.aK.b0.c3.l.length/\g.2.ok 1 a1/\g.2.l=EF x.aK x.c7.l x.time g.1})) (⟨(0,J.nil),by dsimp only;omega,J.iJ,rfl⟩) bV X3 eN ?_;rintro⟨⟨k,iO⟩,aG,TH,gA⟩ cH;try dsimp only
 dsimp only at aG TH gA;have AP:iO.l.length=k:=by rw[gA,a0N]
 apply(FR);iterate 3 apply(e7)
 apply SI∘CP;refine U ?_ ?_<;>intro aQ;·refine eP (a8 (bK (fR ?_)));refine iS N [] [0,1,2,3,4,5] [6,7,8] ([bN.mk eS _ _,bN.mk gL _ _]) _ dO bI bA fM ?_;apply mH∘aGO∘zO;refine rQ rfl (aIQ x 5 (k:Int) 3 _ _ h) rfl rfl ?_;rintro v E G ⟨rfl,rfl,rfl⟩;refine⟨bA,iQ,?_⟩;apply(Bf);rintro v E G ⟨AG,rfl,rfl,H8⟩;replace H8:=H8.symm;subst H8;apply(NG);refine uN aSD rfl rfl rfl ?_;rintro v E G ⟨aNL,rfl,aMP,rfl,rfl⟩;exact(gJ∘PQ∘JN) aS0
 obtain rfl:k=x.aK.b0.c3.l.length:=by omega
 apply(PZ);refine dS [(1,.pointer _),(2,.pointer _),(3,.pointer _),(5,.int _ _)] bV λoA=>?_;refine qK ([5]++cN 23 26) ((⟨λg=>[(5,.int .i64 ((g.1.1:Nat):Int))],λg=>⟨eS,[iO.val,g.1.2.val],80⟩::(g.1.2.L 3 a1++(iO.L 3 a1++(⟨eH,[.slice none 0 0,.slice none 0 0],80⟩::⟨gL,x.cells,54⟩::L))),λ_=>R,λg=>x.aK.b0.cM.l.length-g.1.1⟩:fB {g:Nat×J Int//g.1<=x.aK.b0.cM.l.length/\g.2.ok 1 a1/\g.2.l=HH x.aK x.c7.l x.time g.1})) (⟨(0,J.nil),by dsimp only;omega,J.iJ,rfl⟩) bV X3 eN ?_;rintro⟨⟨j,lV⟩,a6,GC,ID⟩ cH;try dsimp only
 dsimp only at a6 GC ID;have LS:lV.l.length=j:=by rw[ID,Yc]
 apply(FR);iterate 3 apply(e7)
 apply SI∘CP;refine U ?_ ?_<;>intro bL;·
  have b7:=bJ (l:=x.aK.b0.cM.l) (k:=j) default D;refine eP (a8 (bK (fR ?_)));refine iS N [] [0,1,2,3,4,5,6,7,8,9,10,11,12,13,14] [15,16,17] ([bN.mk eS _ _,bN.mk gL _ _]) _ dO bI bA fM ?_;apply mH∘aGO∘zO;iterate 3 apply(zM)
  apply Mu∘zO;refine fP Cl rfl rfl rfl rfl ?_;apply CC∘tE;refine fP yG rfl rfl rfl rfl ?_;refine rQ rfl (aIQ x 6 (j:Int) _ _ _ h) rfl rfl ?_;rintro v E G ⟨rfl,rfl,rfl⟩;refine⟨bA,iQ,?_⟩;apply(Bf);rintro v E G ⟨b1j,rfl,rfl,Fg⟩;replace Fg:=Fg.symm;subst Fg;apply(NG);refine uN aRU rfl rfl rfl ?_;rintro v E G ⟨aBD,rfl,aAh,rfl,rfl⟩;apply gJ∘PQ∘JN;exact eO ⟨(j+1,⟨aBD,lV.l++[CW x.aK.cO.l x.c7.l x.time 6 (j:Int) ((x.aK.b0.cM.l.getD j default).hS.l.length:Int)]⟩),by dsimp only;omega,aAh,by dsimp only;rw[aHp,ID]⟩
 exact aRK
def a0C(x:cL)(A:List Bool)(L:aR)(R:aO)(h:u6 x R)(gE:lB x.aK.b0.aC A):
 aM prog 59 [x.val].toArray L R (λv E G=>∃aA:a4 bC,v=aA.val/\aA.l=HL x.aK A x.c7.l x.time/\L=E/\sU aA::R=G):=by
 have jB:=h.aK.cO;have wO:=JT h.ok;have j1:=wO.len;have ER:=(yR wO.b0).aC.aJ;refine b6 31 call59 func59 rfl rfl rfl ?_;apply(dB);intro gL;apply(BK);refine gZ N [0,1,2,3,4,5,6,7,8,9,10] ([bN.mk gL _ _]) dO bI bA ?_;apply lA∘lA∘KI;refine bE xR rfl rfl rfl ?_;refine tP rfl (aYx x _ _ h) rfl rfl ?_;rintro v E G ⟨iO,lV,rfl,gA,ID,rfl,rfl⟩;refine⟨bA,iQ,?_⟩;refine tP rfl (aX8 x.aK.b0 ⟨iO,lV⟩ A _ _ (FN h.aK.b0 λr M=>aT (.tail _ (.tail _ M))) ⟨aT (.tail _ (.head _)),aT (.head _)⟩ (λ_=>gE)) rfl rfl ?_;rintro v E G ⟨q,rfl,gR,fT,rfl,rfl⟩;refine⟨bA,iQ,?_⟩;refine bE iL rfl rfl rfl ?_;refine bE q2 rfl rfl rfl ?_;refine bE q2 rfl rfl rfl ?_;refine bE zT rfl rfl rfl ?_;apply(qV);refine g5 (a8 (bK (bK ?_)));have qT:l0 x.aK.b0 ⟨iO,lV⟩=true:=by exact aQT
 have sO:q.l.length=x.aK.b0.aC.aJ.l.length:=by rw[fT];exact a1i wO.b0 qT gE
 refine hB (T:=90) (f:=bC.cells) (aN:=2) q [] cF bD aW gR e8 ?_;refine eM gD ?_;have cK:∀r∈R,aL r (sU q.V::dU lV::dU iO::R):=λr M=>aT (.tail _ (.tail _ (.tail _ M)));have bH:=a6J wO.b0 qT gE;apply(SS);refine U ?_ ?_<;>intro aQ;·
  apply PP∘A3;refine lH (E:=L) (G:=R) w2 ?aP ?dI ?bO;case aP=>exact absurd (by first|exact bH|exact bH.1) aQ
  case dI=>exact bA
  case bO=>exact λr M=>aT (by simp[M])
 apply D9∘e7∘j0∘fD;refine dT rfl (aWm q.V x.aK.cO x.c7 x.time _ _ mA (jB.mono cK) (h.c7.mono cK) (by show q.l.length<=1000;omega) D h.aND h.IK h.time) rfl ?_;rintro v E G ⟨eF,fW,rfl,aAp,aAq,rfl,kY⟩;refine aI iL rfl ?_;apply CO∘wI∘j2;refine hB (T:=90) (f:=bC.cells) (aN:=2) eF [] cF bD aW aAp e8 ?_;refine eM gD ?_;apply BL∘SH;refine lH (E:=L) (G:=sU eF.V::R) w2 ?aP ?dI ?bO;case aP=>exact⟨eF.V,rfl,by show eF.l=_;rw[aAq,aFZ x.aK A x.c7.l x.time gA ID,<-fT],rfl,rfl⟩
 case dI=>exact bA
 case bO=>
  exact λr M=>by
   rcases List.mem_cons.1 M with h|h;·rw[h];exact aT (.head _)
   ·exact((cK r h).mono kY).mono λr M=>aT (.tail _ M)
def Rl(h:A->B:=by exact aI xR rfl):=h
def aFQ(h:A->B:=by exact bE zT rfl rfl rfl):=h
def aKK(h:A->B:=by exact qJ rfl (r9 (f:=fG.cells) (xs:=x.eQ) N rfl rfl rfl aW rfl rfl (zB) bD D) rfl rfl):=h
def aLc(h:A->B:=by exact qJ rfl Xf rfl rfl):=h
def aXW(h:A->B:=by exact qJ rfl (pO (f:=fG.cells) (p:=(⟨Vl,x.eQ.l⟩:J fG)) (a:=(⟨x.time,k,t,n⟩:fG)) N rfl rfl rfl rfl (Ty) cF p2 rfl qI) rfl rfl):=h
def aGg(h:A->B:=by exact aI mM rfl):=h
def aEz(h:A->B:=by exact bE aDg rfl rfl rfl):=h
def a7d(g:hL)(q:bZ)(L:aR)(R:aO):oK:=λv E G=>∃y:cL,v=y.val/\h3 g q y/\kU y G/\L=E/\∀r∈R,aL r G
def SC(g:hL)(p:bZ)(x:cL)(k t n:Int)(L:aR)(R:aO)(K:h3 g p x)(bO:kU x R)(aX:p.eQ.length<=400):
 aM prog 220 [x.val,.int .i64 k,.int .i64 t,.int .i64 n].toArray L R (a7d g (nT p k t n) L R):=by
 have zB:=bO.eQ;have OA:x.eQ.l=p.eQ:=K.eQ;have j1:x.eQ.l.length<=400:=by rw[OA];exact aX
 refine b6 32 call220 func220 rfl rfl rfl ?_;apply(dB);intro eD;apply(dZ);intro h6;apply(j2);refine a1w (cN 10 11++[9]) ((⟨λg=>[(9,g.1.val)],λg=>g.1.L 150 fG.cells++(⟨h6,uD.cells,54⟩::⟨eD,x.cells,54⟩::L),λ_=>R,λ_=>0⟩:fB {q:J fG//q.ok 4 fG.cells/\q.l=x.eQ.l++[(⟨x.time,k,t,n⟩:fG)]})) ?_ ?_;·
  skip
  refine Kn N [] [0,1,3,4,5,6,7,8,2,9,10] [11] ([bN.mk eD _ _]) [] 11 dO bI rfl rfl bA λLQ=>?_;refine nS 0 LQ fM bI rfl rfl rfl rfl rfl xS ?_;refine nS 1 LQ fM bI rfl rfl rfl rfl rfl I1 ?_;refine nS 3 LQ fM bI rfl rfl rfl rfl rfl xS ?_;refine nS 4 LQ fM bI rfl rfl rfl rfl rfl I1 ?_;refine nS 5 LQ fM bI rfl rfl rfl rfl rfl zS ?_;refine nS 6 LQ fM bI rfl rfl rfl rfl rfl zS ?_;refine nS 7 LQ fM bI rfl rfl rfl rfl rfl zS ?_;refine nS 8 LQ fM bI rfl rfl rfl rfl rfl aQW ?_;refine mC [2,9] LQ fM bI ?_;refine pB ?_ ?_;·
   skip
   apply(aKK);rintro v E G ⟨Vl,rfl,Ty,rfl,rfl⟩;apply(gJ);refine mC [9] LQ fM bI ?_;apply mR∘aLc;rintro v E G ⟨C3,rfl,rfl,H7⟩;replace H7:=H7.symm;subst H7;exact aOM
  apply mR∘aLc;rintro v E G ⟨C3,rfl,rfl,H7⟩;replace H7:=H7.symm;subst H7;apply(gJ);refine mC [2] LQ fM bI ?_;apply mR∘aKK;rintro v E G ⟨Vl,rfl,Ty,rfl,rfl⟩;exact aOM
 rintro⟨gI,b4U,jT⟩ cH;try dsimp only
 dsimp only[cL.cells];have b4V:gI.l.length=x.eQ.l.length+1:=by rw[jT];simp
 refine hB (T:=150) (f:=fG.cells) (aN:=4) gI [] cF bD aW b4U e8 ?_;refine eM gD ?_;have sN:∀r∈R,aL r (iI gI.V::R):=λr M=>aT (.tail _ M);apply tD∘pR∘HS;refine U ?_ ?_<;>intro aQ;·refine VE (y:=gI.V) (m:=gI.l.length-400) mA D aCS aW ?_;have Fk:∀r∈iI gI.V::R,aL r (iI (m9 gI.V (gI.l.length-400) 4)::iI gI.V::R):=λr M=>aT (.tail _ M);apply BL∘VV;refine aI aS9 rfl ?_;apply vD∘gU∘NA∘Rl∘CQ;refine bQ L (iI (m9 gI.V (gI.l.length-400) 4)::iI gI.V::R) (sD rfl Ih) ?_;exact⟨({x with eQ:=m9 gI.V (gI.l.length-400) 4}:cL),rfl,K.yC (by show gI.l.drop _=_;rw[O7,b4V,jT]),⟨(bO.aK.mono sN).mono Fk,(bO.held.mono sN).mono Fk,(bO.c7.mono sN).mono Fk,(bO.eG.mono sN).mono Fk,(bO.aV.mono sN).mono Fk,(bO.cU.mono sN).mono Fk,aT (.head _)⟩,rfl,λr M=>(sN r M).mono Fk⟩
 apply D9∘NA∘Rl∘CQ;refine bQ L (iI gI.V::R) (sD rfl Ih) ?_;exact⟨({x with eQ:=gI.V}:cL),rfl,K.yC (by show gI.l=_;rw[O7,jT,show x.eQ.l.length+1-400=0 by omega,Bx]),⟨bO.aK.mono sN,bO.held.mono sN,bO.c7.mono sN,bO.eG.mono sN,bO.aV.mono sN,bO.cU.mono sN,aT (.head _)⟩,rfl,sN⟩
def aJA(g:hL)(p:bZ)(x:cL)(z:Int)(L:aR)(R:aO)(eT:Inv g p)(K:h3 g p x)(bO:kU x R)(eW:0<=z/\z<p.aV.length):
 aM prog 265 [x.val,.int .i64 z].toArray L R (a7d g (w4 g p z) L R):=by
 have AN:=bO.aV;have sP:=eT.Ik;have kK:=eT.BU;have a9r:z.toNat<x.aV.l.length:=by rw[K.aV];omega
 have qD:=bJ (l:=x.aV.l) (k:=z.toNat) default a9r;obtain⟨c,cG⟩:∃c,c=x.aV.l.getD z.toNat default:=⟨_,rfl⟩;rw[<-cG]at qD;rw[K.aV]at cG;refine b6 49 call265 func265 rfl rfl rfl ?_;apply(dB);intro eH;apply(dZ);intro eD;apply(j2);refine iS N [] [0,1,2,3,4,5,6,7,8] [9] ([bN.mk eH _ _]) _ dO bI bA aC9 ?_;refine fP xR rfl rfl rfl rfl ?_;apply zO∘BO;refine fP Oj rfl rfl rfl rfl ?_;apply CC∘tE;refine rQ rfl (SC g p x 1 z c.i4 _ _ K bO eT.eQ) rfl rfl ?_;rintro v E G ⟨y,rfl,aS,iG,rfl,kJ⟩;refine⟨bA,iQ,?_⟩;obtain⟨gS,rfl⟩:∃gS,gS=G:=⟨_,rfl⟩;have vK:=eT.yC 1 z c.i4;have TY:y.cU.a2.l=g.cI:=aS.cI;have Vc:y.cU.aZ.l=p.Y:=aS.Y;have b51:y.cU.cB=g.bX:=aS.bX;have aNs:y.time=p.time:=aS.time;have rZ:=eT.ZN;have o4:=iG.cU.cI;have jB:=iG.cU.Y;have aBp:z.toNat<y.cU.a2.l.length:=by rw[TY];omega
 have qG:=bJ (l:=y.cU.a2.l) (k:=z.toNat) 0 aBp;have A0:=rZ.X5 z.toNat D;rw[<-TY,<-Vc]at A0;obtain⟨s,aH⟩:∃s,s=y.cU.a2.l.getD z.toNat 0:=⟨_,rfl⟩;rw[<-aH]at qG A0;have wN:=bJ (l:=y.cU.aZ.l) (k:=s.toNat) default D;obtain⟨w,dH⟩:∃w,w=y.cU.aZ.l.getD s.toNat default:=⟨_,rfl⟩;rw[<-dH]at wN;have v8:u7 y.cU.aZ.l y.cU.a2.l y.cU.cB s y.time=0:=by rw[TY,Vc,b51,aNs,u7,if_neg (by rw[eT.y6];decide),if_neg (by rw[Vc]at A0;omega),if_pos eT.Vs]
 apply(oX);refine g5 (a8 (bK (c2 ?_)));apply(BM);refine aI Oj rfl ?_;apply VU∘BM;refine aI a4e rfl ?_;apply sH∘F1∘e7∘aGg∘NF;refine dT rfl (aZw y.cU s y.time _ _ iG.cU) rfl ?_;rintro v E G ⟨rE,xO,bX,rfl,⟨Uh,Uj⟩,TM,rfl,rfl⟩;refine aI iL rfl ?_;apply(CS);intro o0;apply jZ∘rS∘nJ;refine U ?_ ?_<;>intro aQ;·
  obtain⟨Ui,Me,rfl⟩:=TM v8;refine hB (T:=3) (f:=a1) (aN:=1) xO [] cF bD aW Uj e8 ?_;refine eM gD ?_;refine hB (T:=76) (f:=bS.cells) (aN:=5) rE [] cF bD aW Uh e8 ?_;refine eM gD ?_;have sN:∀r∈gS,aL r (s4 rE.V::dU xO.V::gS):=λr M=>aT (.tail _ (.tail _ M));have zE:g.cI.getD z.toNat 0=s:=by rw[aH,TY]
  have ET:p.Y.getD s.toNat default=w:=by rw[dH,Vc]
  have GJ:rE.l=p7 p.Y s p.time:=by rw[Ui,Vc,aNs]
  have OB:h3 g {nT p 1 z (p.aV.getD z.toNat default).i4 with Y:=p7 p.Y s p.time} ({y with cU:=⟨rE.V,xO.V,y.cU.cB⟩}:cL):=by rw[cG]at aS;exact{aS with Y:=GJ,cI:=Me.trans TY}
  have aNr:kU ({y with cU:=⟨rE.V,xO.V,y.cU.cB⟩}:cL) (s4 rE.V::dU xO.V::gS):=⟨iG.aK.mono sN,iG.held.mono sN,iG.c7.mono sN,iG.eG.mono sN,iG.aV.mono sN,⟨aT (.head _),aT (.tail _ (.head _))⟩,iG.eQ.mono sN⟩;apply eB∘aGg∘e7;refine P8 N rfl rfl rfl rfl sX aB aB aB ?_;apply rF∘dE∘b9;refine U ?_ ?_<;>intro bL;·apply eB∘Rl∘cE;refine dT rfl (SC g _ _ 2 s 0 _ _ OB aNr (eT.yC _ _ _).eQ) rfl ?_;rintro v E G ⟨u,rfl,dL,AY,rfl,kY⟩;apply sI∘Rl∘CQ;refine bQ L _ (sD rfl Ih) ?_;(have e:w4 g p z=nT {nT p 1 z (p.aV.getD z.toNat default).i4 with Y:=p7 p.Y s p.time} 2 s 0:=by rw[w4,zE,ET,if_pos bL]);exact⟨u,rfl,by rw[e];exact dL,AY,rfl,λr M=>((kJ r M).mono sN).mono kY⟩
  apply e0∘Rl∘CQ;refine bQ L _ (sD rfl Ih) ?_;have e:w4 g p z={nT p 1 z (p.aV.getD z.toNat default).i4 with Y:=p7 p.Y s p.time}:=by rw[w4,zE,ET,if_neg (by rw[bL];decide)]
  exact⟨_,rfl,by rw[e];exact OB,aNr,rfl,λr M=>(kJ r M).mono sN⟩
 exact absurd v8 aQ
def b06(f:hJ)(z:Int)(L:aR)(R:aO)(aF:k0 f R)(i2:jS f.aZ.l f.a2.l f.cB=0)(eW:0<=z/\z<f.a2.l.length):
 aM prog 268 [f.val,.int .i64 z].toArray L R (λv E G=>v=.bool ((vU f.aZ.l f.a2.l f.cB (f.a2.l.getD z.toNat 0)).any λk=>P5 (f.aZ.l.getD k.toNat default))/\L=E/\R=G):=by
 have jB:=aF.Y;have o4:=aF.cI;have qG:=bJ (l:=f.a2.l) (k:=z.toNat) 0 D;refine b6 42 call268 func268 rfl rfl rfl ?_;apply(dB);intro eH;apply nG∘j2;refine gZ N [0,1,2,3,4,5,6,7] ([bN.mk eH _ _]) dO bI bA ?_;refine bE mM rfl rfl rfl ?_;apply(l1);refine bE Oj rfl rfl rfl ?_;apply(k4);refine tP rfl (a67 f (f.a2.l.getD z.toNat 0) _ _ aF) rfl rfl ?_;rintro v E G ⟨q,rfl,gR,fT,rfl,rfl⟩;refine⟨bA,iQ,?_⟩;apply aFQ∘L4∘nP;refine dS [(2,.pointer _),(5,.slice _ _ _),(6,.int _ _)] bV λfK=>?_;have WX:∀y∈q.l,0<=y/\y<f.aZ.l.length:=λy aS=>by exact aP0
 refine hB (T:=3) (f:=a1) (aN:=1) q [] cF bD aW gR e8 ?_;refine eM gD ?_;have WW:aL (dU q.V) (dU q.V::R):=aT (.head _);have sO:q.l.length<=32:=by rw[fT];exact Pa
 have Un:=jB.mono λr M=>aT (R:=dU q.V::R) (.tail _ M);refine gY ([4,6]++cN 14 28) (λg:{k:Nat//k<=q.l.length/\∀j:Nat,j<k->P5 (f.aZ.l.getD (q.l.getD j 0).toNat default)=false}=>[(6,.int .i64 ((g.1:Nat):Int))]) (λg=>q.l.length-g.1) (⟨0,by omega,λj a6=>by omega⟩) ?_;rintro⟨k,aG,hC⟩ cH;try dsimp only
 apply(uM);refine U ?_ ?_<;>intro aQ;·
  have AW:=bJ (l:=q.l) (k:=k) 0 D;have Uk:=WX _ (hV AW);have wN:=bJ (l:=f.aZ.l) (k:=(q.l.getD k 0).toNat) default D;refine eP (a8 (bK (fR (bK ?_))));refine gZ N [0,1,2,3,4,5,6,7,8,9,10,11,12,13,14,15,16,17,18,19,20,21] _ dO bI hA ?_;apply(g7);refine bE oS rfl rfl rfl ?_;apply JO∘k4∘aEz∘z7;refine bE (NQ rfl) rfl rfl rfl ?_;apply(sS);refine lQ (k:=30) aY (λmW=>?_) (λmW=>?_);·
   replace mW:=bB mW;(iterate 10 apply(iU));apply(l2);refine vS rfl ?_;apply(FV);refine lH (E:=L) (G:=R) (sD rfl RJ) ?aP ?dI ?bO;case aP=>exact aOY
   case dI=>exact bA
   case bO=>exact λr M=>aT (.tail _ M)
  replace mW:=bB mW;apply(g7);refine bE oS rfl rfl rfl ?_;apply JO∘k4∘aEz∘z7;refine bE BA rfl rfl rfl ?_;apply(l2);refine U ?_ ?_<;>intro bL;·
   apply(FV);refine lH (E:=L) (G:=R) (sD rfl RJ) ?aP ?dI ?bO;case aP=>exact aOY
   case dI=>exact bA
   case bO=>exact λr M=>aT (.tail _ M)
  apply(mT);exact hP ⟨k+1,by omega,λj a6=>by
  rcases hF j k with h|h;·exact hC j h
  ·(obtain rfl:j=k:=by omega);rw[P5,Bool.or_eq_false_iff];exact⟨by simpa using mW,decide_eq_false bL⟩⟩ gW bV bA eN hO
 apply(SJ);refine lH (E:=L) (G:=R) (sD rfl RJ) ?aP ?dI ?bO;case aP=>exact⟨by rw[<-fT,Zv λj a6=>hC j D],rfl,rfl⟩
 case dI=>exact bA
 case bO=>exact λr M=>aT (.tail _ M)
end
end Go.Proofs.YtchfclmokpbldaaGreat
namespace Go.Proofs.YtchfclmokpbldaaGreat
open Go.Aw Go Go.Proofs.Tryz
set_option maxRecDepth 20000
attribute [local irreducible] cQ dF dV aM cP eC e5 e1 e2 e6 eX e4 J.L
def a5k(h:A->B:=by exact iS N [] [0,1,2,3,4,5] [6] ([bN.mk eH _ _]) _ dO bI bA aC9):=h
def a7E(h:A->B:=by exact fP xR rfl rfl rfl rfl):=h
def a4W(h:A->B:=by exact aI mM rfl):=h
def aLh(h:A->B:=by exact aI aRn rfl):=h
def aD2(h:A->B:=by exact aI (jA N ((⟨L0,rI.aV.l⟩:J b8)) _ rfl rfl rfl rfl bR (i:=fZ) dA jC) rfl):=h
def aDH(h:A->B:=by exact aI xR rfl):=h
def a7J(a0:hL)(p:bZ)(x:cL)(t:Int)(L:aR)(R:aO)(eT:Inv a0 p)(K:h3 a0 p x)(bO:kU x R)(fH:p.time<=t/\t<=2147483648):
 aM prog 217 [x.val,.int .i64 t].toArray L R (a7d a0 (bP a0 p t) L R):=by
 have NX:=eT.at fH.1 fH.2;have cY:u6 ({x with time:=t}:cL) R:=u6.of (x:=({x with time:=t}:cL)) (p:=({p with time:=t}:bZ)) NX {K with time:=rfl} bO.aK bO.c7;have gE:lB x.aK.b0.aC a0.b0:=fX.xA K.aK NX.xA;have pG:x.c7.l=p.c7:=K.c7;have tX:x.eG.l=p.eG:=K.eG;have kK:x.aV.l=p.aV:=K.aV;have aMa:=eT.BU;have sP:=eT.Ik;have wO:=eT.OQ.len;have a2s:=NX.iH;have Gs:=a2s.KL;have Sr:Inv a0 ({p with time:=t,eG:=oR a0.aK p.c7 p.eG (e9 a0 ({p with time:=t}:bZ)) t,aV:=o1 a0.aK (nR a0 ({p with time:=t}:bZ)) p.aV t}:bZ):=NX.aB6;refine b6 150 call217 func217 rfl rfl rfl ?_;apply(dB);intro eH;apply(dZ);intro eD;apply FX∘vZ∘j2;refine gZ N [0,1,2,3,4,5,6,8,7,9,10,11,12,13,14,15,16] ([bN.mk eH _ _]) dO bI bA ?_;apply(lA);refine bE q1 rfl rfl rfl ?_;apply g7∘g7;refine bE xR rfl rfl rfl ?_;apply(hK);refine tP rfl (a0C ({x with time:=t}:cL) a0.b0 _ _ cY gE) rfl rfl ?_;rintro v E G ⟨aA,rfl,a9F,rfl,rfl⟩;refine⟨bA,iQ,?_⟩;refine tP rfl (aUZ x.aK x.c7 x.eG aA t _ _ ⟨bO.aK.mono λr M=>aT (.tail _ M),bO.c7.mono λr M=>aT (.tail _ M),bO.eG.mono λr M=>aT (.tail _ M),aT (.head _),cY.IK⟩) rfl rfl ?_;rintro v E G ⟨wT,lF,rfl,⟨aAE,aAI⟩,aAF,aAJ,rfl,rfl⟩;refine⟨bA,iQ,?_⟩;refine bE iL rfl rfl rfl ?_;iterate 3 refine bE q2 rfl rfl rfl ?_
 refine bE zT rfl rfl rfl ?_;refine bE zT rfl rfl rfl ?_;apply qV∘IP;have Ls:aA.l=e9 a0 ({p with time:=t}:bZ):=by rw[a9F];show HL x.aK a0.b0 x.c7.l t=_;rw[fX.vI K.aK,pG];rfl
 have TP:wT.l=nR a0 ({p with time:=t}:bZ):=by rw[aAF,fX.GW K.aK,pG,tX,Ls];rfl
 have aAG:lF.l=oR a0.aK p.c7 p.eG (e9 a0 ({p with time:=t}:bZ)) t:=by rw[aAJ,fX.oR K.aK,pG,tX,Ls]
 refine hB (T:=3) (f:=a1) (aN:=1) wT [] cF bD aW aAE e8 ?_;refine eM gD ?_;refine hB (T:=153) (f:=fU.cells) (aN:=3) lF [] cF bD aW aAI e8 ?_;refine eM gD ?_;have kJ:∀r∈R,aL r (CJ lF.V::dU wT.V::sU aA::R):=λr M=>aT (.tail _ (.tail _ (.tail _ M)));apply BL∘NA∘e7;refine aI q1 rfl ?_;apply gU∘gK;refine dT rfl (aZN x.aK wT.V x.aV t _ _ (bO.aK.mono kJ) X0 (bO.aV.mono kJ)) rfl ?_;rintro v E G ⟨eY,o7,rfl,⟨TN,aAQ⟩,aMW,aM4,rfl,rfl⟩;refine aI iL rfl ?_;iterate 3 apply(IQ)
 apply wI∘x2;have Gm:eY.l=o1 a0.aK (nR a0 ({p with time:=t}:bZ)) p.aV t:=by exact aPu
 have sO:o7.l=(x6 a0.aK (nR a0 ({p with time:=t}:bZ)) p.aV t):=by exact aPv
 refine hB (T:=3) (f:=a1) (aN:=1) o7 [] cF bD aW aAQ e8 ?_;refine eM gD ?_;refine hB (T:=71) (f:=b8.cells) (aN:=3) eY [] cF bD aW TN e8 ?_;refine eM gD ?_;apply BL∘FT∘CB;obtain⟨gS,BZ⟩:∃gS,gS=sE eY.V::dU o7.V::CJ lF.V::dU wT.V::sU aA::R:=⟨_,rfl⟩;have NZ:∀r∈R,aL r gS:=λr M=>aT (by rw[BZ];exact .tail _ (.tail _ (.tail _ (.tail _ (.tail _ M)))));have Ug:aL (sE eY.V) gS:=aT Xp;have aAP:aL (dU o7.V) gS:=aT Xi;have aAH:aL (CJ lF.V) gS:=aT a3W;have aAC:aL (dU wT.V) gS:=aT (by rw[BZ];exact .tail _ (.tail _ (.tail _ (.head _))));refine wK Xm ?_;have b5j:o7.l.length<=16:=by exact aP4
 obtain⟨RE,Vb⟩:∃RE:cL,RE={x with time:=t,eG:=lF.V,aV:=eY.V}:=⟨_,rfl⟩;have b2t:h3 a0 ({p with time:=t,eG:=oR a0.aK p.c7 p.eG (e9 a0 ({p with time:=t}:bZ)) t,aV:=o1 a0.aK (nR a0 ({p with time:=t}:bZ)) p.aV t}:bZ) RE:=by rw[Vb];exact{K with time:=rfl,eG:=aAG,aV:=Gm}
 have b2v:kU RE gS:=by rw[Vb];exact⟨bO.aK.mono NZ,bO.held.mono NZ,bO.c7.mono NZ,aAH,Ug,bO.cU.mono NZ,bO.eQ.mono NZ⟩
 refine eM (E:=⟨eD,uD.cells,54⟩::⟨eH,RE.cells,54⟩::L) (by rw[Vb];rfl) ?_;apply(NE);refine dS [(1,.int _ _),(2,.pointer _),(4,.pointer _),(5,.slice _ _ _),(9,.slice _ _ _),(11,.int _ _)] bV λfK=>?_;refine k2 ([11]++cN 51 12) ((⟨λg=>[(11,.int .i64 ((g.1.1:Nat):Int))],λg=>⟨eD,uD.cells,54⟩::⟨eH,g.1.2.1.cells,54⟩::L,λg=>g.1.2.2,λg=>o7.l.length-g.1.1⟩:fB {g:Nat×cL×aO//g.1<=o7.l.length/\h3 a0 (CZ a0 ({p with time:=t,eG:=oR a0.aK p.c7 p.eG (e9 a0 ({p with time:=t}:bZ)) t,aV:=o1 a0.aK (nR a0 ({p with time:=t}:bZ)) p.aV t}:bZ) (o7.l.take g.1)) g.2.1/\kU g.2.1 g.2.2/\∀r∈gS,aL r g.2.2})) (⟨(0,RE,gS),by dsimp only;omega,b2t,b2v,n1 _⟩) ?_;rintro⟨⟨k,y,S⟩,aG,Q1,iG,eL⟩ cH;try dsimp only
 dsimp only[cL.cells];dsimp only at aG Q1 iG eL;have vK:Inv a0 (CZ a0 ({p with time:=t,eG:=oR a0.aK p.c7 p.eG (e9 a0 ({p with time:=t}:bZ)) t,aV:=o1 a0.aK (nR a0 ({p with time:=t}:bZ)) p.aV t}:bZ) (o7.l.take k)):=Sr.aV _;apply(uM);refine U ?_ ?_<;>intro aQ;·have AW:=bJ (l:=o7.l) (k:=k) 0 D;have b5k:=a0F (s:=a0.aK) (v:=nR a0 ({p with time:=t}:bZ)) (c:=p.aV) p.aV.length (o7.l.getD k 0) (by(have e:yU a0.aK (nR a0 ({p with time:=t}:bZ)) p.aV p.aV.length=o7.l:=by rw[sO,x6,if_neg aCT]);rw[e];exact hV AW);have b5i:=aAP.mono eL;have cT:=aH6 a0 ({p with time:=t,eG:=oR a0.aK p.c7 p.eG (e9 a0 ({p with time:=t}:bZ)) t,aV:=o1 a0.aK (nR a0 ({p with time:=t}:bZ)) p.aV t}:bZ) o7.l AW;refine eP (a8 (bK (fR ?_)));apply a5k∘a7E∘EA;refine fP pL rfl rfl rfl rfl ?_;apply(tE);refine rQ rfl (aJA a0 (CZ a0 ({p with time:=t,eG:=oR a0.aK p.c7 p.eG (e9 a0 ({p with time:=t}:bZ)) t,aV:=o1 a0.aK (nR a0 ({p with time:=t}:bZ)) p.aV t}:bZ) (o7.l.take k)) y (o7.l.getD k 0) _ _ vK Q1 iG (by rw[a4N];show _/\_<((o1 a0.aK (nR a0 ({p with time:=t}:bZ)) p.aV t).length:Int);rw[<-Gm,show eY.l.length=p.aV.length by rw[Gm];exact Sr.BU.trans aMa.symm];omega)) rfl rfl ?_;rintro v E G ⟨u,rfl,dL,AY,rfl,TA⟩;refine⟨bA,iQ,?_⟩;apply oX∘JN;exact eO ⟨(k+1,u,_),by dsimp only;omega,by dsimp only;rw[cT];exact dL,AY,λr M=>(eL r M).mono TA⟩
 obtain rfl:k=o7.l.length:=by omega
 obtain⟨jX,a10⟩:∃jX,jX=iH a0 ({p with time:=t}:bZ):=⟨_,rfl⟩;have a86:CZ a0 ({p with time:=t,eG:=oR a0.aK p.c7 p.eG (e9 a0 ({p with time:=t}:bZ)) t,aV:=o1 a0.aK (nR a0 ({p with time:=t}:bZ)) p.aV t}:bZ) (o7.l.take o7.l.length)=jX:=by rw[a10,DK (iK _),sO];rfl
 rw[a86]at Q1 vK;rw[<-a10]at a2s Gs;have a9p:y.aV.l=jX.aV:=Q1.aV;have aAR:y.aD=jX.aD:=Q1.aD;have An:t=jX.time:=by rw[a10];exact(aHA (g:=a0) (p:=({p with time:=t,eG:=oR a0.aK p.c7 p.eG (e9 a0 ({p with time:=t}:bZ)) t,aV:=o1 a0.aK (nR a0 ({p with time:=t}:bZ)) p.aV t}:bZ)) (x6 a0.aK (nR a0 ({p with time:=t}:bZ)) p.aV t)).symm
 have b99:y.time=t:=Q1.time.trans An.symm;have aNt:y.cU.a2.l=a0.cI:=Q1.cI;have W2:y.cU.aZ.l=jX.Y:=Q1.Y;have WY:y.cU.cB=a0.bX:=Q1.bX;apply n9∘fD∘e7;refine aI DT rfl ?_;refine cD rfl (aUm y.aV y.aD _ _ iG.aV) ?_;apply(e7);refine P8 N rfl rfl rfl rfl sX aB aB aB ?_;apply(j2);have a9S:nQ y.aV.l y.aD=nQ jX.aV jX.aD:=by rw[a9p,aAR]
 obtain⟨zP,J9⟩:∃zP,zP=nQ jX.aV jX.aD:=⟨_,rfl⟩;rw[a9S,<-J9];have a11:FM y.cU.aZ.l y.cU.a2.l y.cU.cB t=0:=by rw[W2,aNt,WY,FM,if_neg (by rw[vK.y6];decide),if_pos (by have:=vK.Vs;rw[<-An]at this;exact this)]
 apply eB∘e7∘a4W∘cE;refine dT rfl (aY2 y.cU t _ _ iG.cU) rfl ?_;rintro v E G ⟨CD,EY,b7d,p1,to,rfl,⟨aA5,aA7,aA1,aA3⟩,Us,rfl,rfl⟩;refine aI iL rfl ?_;iterate 4 apply(IQ)
 apply(dZ);intro n3;apply jZ∘wI∘x2;obtain⟨aA4,aA6,rfl,Ut,aA2⟩:=Us a11;refine hB (T:=3) (f:=a1) (aN:=1) to [] cF bD aW aA3 e8 ?_;refine eM gD ?_;refine hB (T:=3) (f:=a1) (aN:=1) p1 [] cF bD aW aA1 e8 ?_;refine eM gD ?_;refine hB (T:=3) (f:=a1) (aN:=1) EY [] cF bD aW aA7 e8 ?_;refine eM gD ?_;refine hB (T:=76) (f:=bS.cells) (aN:=5) CD [] cF bD aW aA5 e8 ?_;refine eM gD ?_;apply eB∘a4W∘e7;refine P8 N rfl rfl rfl rfl sX aB aB aB ?_;apply(CB);obtain⟨hG,C5⟩:∃hG,hG=s4 CD.V::dU EY.V::dU p1.V::dU to.V::S:=⟨_,rfl⟩;have tA:∀r∈S,aL r hG:=λr M=>aT aDb;have aNi:aL (dU p1.V) hG:=aT a3X;have aNj:aL (dU to.V) hG:=aT aDc;have Z1:k0 ⟨CD.V,EY.V,y.cU.cB⟩ hG:=⟨aT Xq,aT a32⟩;refine wK a37 ?_;have a8p:CD.l=({jX with aD:=nQ jX.aV jX.aD,Y:=(nA jX.Y a0.bX t).Y}:bZ).Y:=by rw[aA4,W2,WY]
 have St:p1.l=(nA jX.Y a0.bX t).bY:=by rw[Ut,W2,WY]
 have Su:to.l=(nA jX.Y a0.bX t).RA:=by rw[aA2,W2,WY]
 have Sx:=Qn (Y:=jX.Y) (bX:=a0.bX) (t:=t) jX.Y.length;have Up:=vK.ZN.A7;have Gx:p1.l.length<=32:=by rw[St];exact G0 Sx.1 Up
 have b5D:to.l.length<=32:=by rw[Su];exact G0 Sx.2 Up
 have Sq:Inv a0 ({jX with aD:=nQ jX.aV jX.aD,Y:=(nA jX.Y a0.bX t).Y}:bZ):=by have O:Inv a0 ({jX with aD:=nQ jX.aV jX.aD}:bZ):={vK with aD:=a7K _ _ vK.aD.1};have X:=O.Nb (Y:=(nA jX.Y a0.bX t).Y) (by have aU:=Ix (bX:=a0.bX) (t:=t) vK.y6 jX.Y.length (iK _);(have e:∀u,u=t->tM jX.Y (nA jX.Y a0.bX t).Y u:=λu dL=>by rw[dL];exact aU);exact e _ An.symm);exact X
 obtain⟨MB,aBg⟩:∃MB:cL,MB={y with cU:=⟨CD.V,EY.V,y.cU.cB⟩,aD:=zP}:=⟨_,rfl⟩;have b2u:h3 a0 ({jX with aD:=nQ jX.aV jX.aD,Y:=(nA jX.Y a0.bX t).Y}:bZ) MB:=by rw[aBg];exact{Q1 with Y:=a8p,cI:=aA6.trans aNt,aD:=J9}
 have b2w:kU MB hG:=by rw[aBg];exact⟨iG.aK.mono tA,iG.held.mono tA,iG.c7.mono tA,iG.eG.mono tA,iG.aV.mono tA,Z1,iG.eQ.mono tA⟩
 refine tO (E:=⟨eD,uD.cells,54⟩::⟨eH,MB.cells,54⟩::L) (by rw[aBg];exact bA) eN ?_;apply(NE);refine dS [(2,.pointer _),(4,.pointer _),(5,.slice _ _ _),(13,.slice _ _ _),(14,.slice _ _ _),(16,.int _ _)] bV λoA=>?_;refine k2 ([16]++cN 80 12) ((⟨λg=>[(16,.int .i64 ((g.1.1:Nat):Int))],λg=>⟨eD,uD.cells,54⟩::⟨eH,g.1.2.1.cells,54⟩::L,λg=>g.1.2.2,λg=>p1.l.length-g.1.1⟩:fB {g:Nat×cL×aO//g.1<=p1.l.length/\h3 a0 (v3 3 ({jX with aD:=nQ jX.aV jX.aD,Y:=(nA jX.Y a0.bX t).Y}:bZ) (p1.l.take g.1)) g.2.1/\kU g.2.1 g.2.2/\∀r∈hG,aL r g.2.2})) (⟨(0,MB,hG),by dsimp only;omega,b2u,b2w,n1 _⟩) ?_;rintro⟨⟨fI,z,YO⟩,l5,a2C,o4,J1⟩ cH;try dsimp only
 dsimp only[cL.cells];dsimp only at l5 a2C o4 J1;apply(uM);refine U ?_ ?_<;>intro bL;·have Ao:=bJ (l:=p1.l) (k:=fI) 0 D;have cT:=Yl 3 ({jX with aD:=nQ jX.aV jX.aD,Y:=(nA jX.Y a0.bX t).Y}:bZ) p1.l Ao;have bAa:=aNi.mono J1;refine eP (a8 (bK (fR ?_)));apply a5k∘a7E∘EA;refine fP Wu rfl rfl rfl rfl ?_;apply(tE);refine rQ rfl (SC a0 _ z 3 (p1.l.getD fI 0) 0 _ _ a2C o4 (Sq.Az 3 (p1.l.take fI)).eQ) rfl rfl ?_;rintro v E G ⟨u,rfl,dL,AY,rfl,TA⟩;refine⟨bA,iQ,?_⟩;apply oX∘JN;exact eO ⟨(fI+1,u,_),by dsimp only;omega,by dsimp only;rw[cT];exact dL,AY,λr M=>(J1 r M).mono TA⟩
 obtain rfl:fI=p1.l.length:=by omega
 rw[DK (iK _)]at a2C;have a8l:Inv a0 (v3 3 ({jX with aD:=nQ jX.aV jX.aD,Y:=(nA jX.Y a0.bX t).Y}:bZ) p1.l):=Sq.Az 3 _;apply(PZ);refine dS [(2,.pointer _),(4,.pointer _),(5,.slice _ _ _),(14,.slice _ _ _),(17,.int _ _)] bV λUD=>?_;refine k2 ([17]++cN 92 12) ((⟨λg=>[(17,.int .i64 ((g.1.1:Nat):Int))],λg=>⟨eD,uD.cells,54⟩::⟨eH,g.1.2.1.cells,54⟩::L,λg=>g.1.2.2,λg=>to.l.length-g.1.1⟩:fB {g:Nat×cL×aO//g.1<=to.l.length/\h3 a0 (v3 2 (v3 3 ({jX with aD:=nQ jX.aV jX.aD,Y:=(nA jX.Y a0.bX t).Y}:bZ) p1.l) (to.l.take g.1)) g.2.1/\kU g.2.1 g.2.2/\∀r∈YO,aL r g.2.2})) (⟨(0,z,YO),by dsimp only;omega,a2C,o4,n1 _⟩) ?_;rintro⟨⟨o5,a3J,Px⟩,DA,Vd,aBl,EK⟩ cH;try dsimp only
 dsimp only[cL.cells];dsimp only at DA Vd aBl EK;apply(uM);refine U ?_ ?_<;>intro cC;·have Ao:=bJ (l:=to.l) (k:=o5) 0 D;have cT:=Yl 2 (v3 3 ({jX with aD:=nQ jX.aV jX.aD,Y:=(nA jX.Y a0.bX t).Y}:bZ) p1.l) to.l Ao;have bAb:=(aNj.mono J1).mono EK;refine eP (a8 (bK (fR ?_)));apply a5k∘a7E∘EA;refine fP aRr rfl rfl rfl rfl ?_;apply(tE);refine rQ rfl (SC a0 _ a3J 2 (to.l.getD o5 0) 0 _ _ Vd aBl (a8l.Az 2 (to.l.take o5)).eQ) rfl rfl ?_;rintro v E G ⟨u,rfl,dL,AY,rfl,TA⟩;refine⟨bA,iQ,?_⟩;apply oX∘JN;exact eO ⟨(o5+1,u,_),by dsimp only;omega,by dsimp only;rw[cT];exact dL,AY,λr M=>(EK r M).mono TA⟩
 obtain rfl:o5=to.l.length:=by omega
 obtain⟨m0,Eu⟩:∃m0,m0=KL a0 jX:=⟨_,rfl⟩;have a87:v3 2 (v3 3 ({jX with aD:=nQ jX.aV jX.aD,Y:=(nA jX.Y a0.bX t).Y}:bZ) p1.l) to.l=m0:=by rw[Eu,St,Su,KL];simp only[<-An]
 rw[DK (iK _),a87]at Vd;rw[<-Eu]at Gs;obtain⟨nI,Sy⟩:∃nI,nI=nR a0 ({p with time:=t}:bZ):=⟨_,rfl⟩;rw[<-Sy]at TP;have a8r:m0.aV.length=a0.aK.a2.l.length:=Gs.BU;have dY:a3J.aV.l=m0.aV:=Vd.aV;have b44:=(((aAC.mono eL).mono tA).mono J1).mono EK;apply(PZ);refine dS [(2,.pointer _),(4,.pointer _),(5,.slice _ _ _),(18,.int _ _)] bV λa29=>?_;refine k2 ([18,19]++cN 104 45) ((⟨λg=>[(18,.int .i64 ((g.1.1:Nat):Int))],λg=>⟨eD,uD.cells,54⟩::⟨eH,g.1.2.1.cells,54⟩::L,λg=>g.1.2.2,λg=>m0.aV.length-g.1.1⟩:fB {g:Nat×cL×aO//g.1<=m0.aV.length/\h3 a0 (m5 a0 nI m0 g.1) g.2.1/\kU g.2.1 g.2.2/\∀r∈Px,aL r g.2.2})) (⟨(0,a3J,Px),by dsimp only;omega,Vd,aBl,n1 _⟩) ?_;rintro⟨⟨fZ,rI,MW⟩,B4,W9,OC,N0⟩ cH;try dsimp only
 dsimp only[cL.cells];dsimp only at B4 W9 OC N0;have Ln:Inv a0 (m5 a0 nI m0 fZ):=Gs.m5 nI fZ;have b2W:=OC.aV;have WH:rI.aV.l=(m5 a0 nI m0 fZ).aV:=W9.aV;have Tf:rI.aV.l.length=m0.aV.length:=by rw[WH,a1a]
 apply(q9);refine U ?_ ?_<;>intro dX;·
  have qD:=bJ (l:=rI.aV.l) (k:=fZ) default D;obtain⟨c,mQ⟩:∃c,c=rI.aV.l.getD fZ default:=⟨_,rfl⟩;rw[<-mQ]at qD;have Uq:rI.cU.aZ.l=(m5 a0 nI m0 fZ).Y:=W9.Y;have Hd:rI.cU.a2.l=a0.cI:=W9.cI;have Um:rI.cU.cB=a0.bX:=W9.bX;have Z0:m5 a0 nI m0 (fZ+1)=JH a0 nI (m5 a0 nI m0 fZ) fZ:=rfl;have GC:Rr a0 (m5 a0 nI m0 fZ).Y fZ=(vU rI.cU.aZ.l rI.cU.a2.l rI.cU.cB (rI.cU.a2.l.getD (fZ:Int).toNat 0)).any (λk=>P5 (rI.cU.aZ.l.getD k.toNat default)):=by rw[Uq,Hd,Um];rfl
  apply FY∘aLh∘sH∘JR;apply iR (Z:=[_,_,_,_]) (j:=7) (a9:=118) rfl rfl aB rfl aY rfl;·intro hM;replace hM:=bB hM;apply e7∘a4W∘cE;refine cD rfl (b06 rI.cU (fZ:Int) _ _ OC.cU (by rw[Uq,Hd,Um];exact Ln.y6) (by rw[Hd];omega)) ?_;exact g4
  intro OD;apply(b9);refine U ?_ ?_<;>intro dY;·(have tW:¬((m5 a0 nI m0 fZ).aV.getD fZ default).off=true/\¬Rr a0 (m5 a0 nI m0 fZ).Y fZ=false:=by rw[<-WH,<-mQ,GC];simpa using dY);have aNu:=W9.aK;(have zE:fZ<rI.aK.a2.l.length:=by rw[fX.a2L aNu];omega);have qG:=bJ (l:=rI.aK.a2.l) (k:=fZ) default zE;have aBn:=OC.aK.a2;have aAX:=aL.jN aBn qG;have aAD:=b44.mono N0;apply(LB);refine hT (r9 (f:=b8.cells) (xs:=rI.aV) N rfl rfl rfl aW rfl rfl (b2W) bD D) rfl ?_;rintro v E G ⟨L0,rfl,aMN,rfl,rfl⟩;apply vD∘h9∘h9∘BM∘aLh∘sH∘gU;refine cD rfl (aGW (rI.aK.a2.l.getD fZ default).jN wT.V _ _ aAX aAD) ?_;apply aD2∘l6;refine jH (j5 N ((⟨L0,rI.aV.l⟩:J b8)) (⟨true,c.clear,c.i4⟩) rfl rfl rfl rfl cF bR bD bR aW aB aB) ?_;rintro v E G ⟨rfl,rfl⟩;apply aD2∘l6;have b26:=J.qX (f:=b8.cells) (aN:=3) (p:=⟨L0,rI.aV.l⟩) (i:=fZ) (x:=⟨true,c.clear,c.i4⟩) bD aMN;have a9s:(rI.aV.l.set fZ ⟨true,c.clear,c.i4⟩)[fZ]?=some ⟨true,c.clear,c.i4⟩:=tJ D;refine jH (j5 N ((⟨L0,rI.aV.l.set fZ ⟨true,c.clear,c.i4⟩⟩:J b8)) (⟨true,c.clear,tL (rI.aK.a2.l.getD fZ default).jN.l wT.l⟩) rfl rfl rfl rfl cF bR bD bR aW aB aB) ?_;rintro v E G ⟨rfl,rfl⟩;apply LF∘FT∘b9;obtain⟨v7,ZZ⟩:∃v7,v7=rI.aV.l.set fZ ⟨true,c.clear,tL (rI.aK.a2.l.getD fZ default).jN.l wT.l⟩:=⟨_,rfl⟩;(have Te:v7.length=rI.aV.l.length:=by rw[ZZ,q0]);(have WJ:(⟨L0,v7⟩:J b8).V.val=(⟨L0,rI.aV.l⟩:J b8).V.val:=by simp only[J.V,a4.val,Te]);have a9u:(⟨L0,v7⟩:J b8).ok 3 b8.cells:=J.o6 bD aMN Te;refine eM (E:=(⟨L0,v7⟩:J b8).L 71 b8.cells++(⟨eD,uD.cells,54⟩::⟨eH,({rI with aV:=(⟨L0,v7⟩:J b8).V}:cL).cells,54⟩::L)) (by simp only[cL.cells,WJ];rw[ZZ];simp only[xQ];rfl) ?_;refine hB (T:=71) (f:=b8.cells) (aN:=3) (⟨L0,v7⟩:J b8) [] cF bD aW a9u e8 ?_;refine eM gD ?_;(have Fx:tL (rI.aK.a2.l.getD fZ default).jN.l wT.l=tL (a0.aK.a2.l.getD fZ default).jN.l nI:=by rw[fX.jN aNu fZ,TP]);obtain⟨IM,Af⟩:∃IM:bZ,IM={m5 a0 nI m0 fZ with aV:=(m5 a0 nI m0 fZ).aV.set fZ ⟨true,((m5 a0 nI m0 fZ).aV.getD fZ default).clear,tL (a0.aK.a2.l.getD fZ default).jN.l nI⟩}:=⟨_,rfl⟩;(have Gl:v7=IM.aV:=by rw[ZZ,Af,Fx,mQ,WH]);(have a8m:Inv a0 IM:=by exact aQO);obtain⟨Wo,aBm⟩:∃Wo:cL,Wo={rI with aV:=(⟨L0,v7⟩:J b8).V}:=⟨_,rfl⟩;(have a88:h3 a0 IM Wo:=by rw[aBm];rw[Af]at Gl|-;exact{W9 with aV:=Gl});have En:∀r∈MW,aL r (sE (⟨L0,v7⟩:J b8).V::MW):=λr M=>aT (.tail _ M);(have b53:kU Wo (sE (⟨L0,v7⟩:J b8).V::MW):=by rw[aBm];exact⟨OC.aK.mono En,OC.held.mono En,OC.c7.mono En,OC.eG.mono En,aT (.head _),OC.cU.mono En,OC.eQ.mono En⟩);(have LS:m5 a0 nI m0 (fZ+1)=w4 a0 IM (fZ:Int):=by rw[Z0,JH,if_neg (not_or.2 tW),Af]);rw[<-aBm];dsimp only[cL.cells];apply eB∘aDH∘cE;refine dT rfl (aJA a0 IM Wo (fZ:Int) _ _ a8m a88 b53 (by rw[<-Gl];omega)) rfl ?_;rintro v E G ⟨u,rfl,dL,AY,rfl,TA⟩;apply jZ∘VO;exact eO ⟨(fZ+1,u,_),by dsimp only;omega,by dsimp only;rw[LS];exact dL,AY,λr M=>((N0 r M).mono En).mono TA⟩
  apply(mT);exact eO ⟨(fZ+1,rI,_),by dsimp only;omega,by dsimp only;rw[Z0,JH,if_pos (by rw[<-WH,<-mQ,GC];simpa using dY)];exact W9,OC,N0⟩
 obtain rfl:fZ=m0.aV.length:=by omega
 apply n9∘aDH∘CQ;refine bQ L _ (sD rfl Ih) ?_;have a89:m5 a0 nI m0 m0.aV.length=bP a0 p t:=by rw[bP,<-Sy,<-a10,<-Eu]
 exact⟨rI,rfl,by rw[<-a89];exact W9,OC,rfl,λr M=>(((((NZ r M).mono eL).mono tA).mono J1).mono EK).mono N0⟩
end Go.Proofs.YtchfclmokpbldaaGreat
