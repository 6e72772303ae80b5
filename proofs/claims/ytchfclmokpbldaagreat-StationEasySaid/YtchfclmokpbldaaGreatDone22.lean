/-
  Merged texts. By an AI agent.
-/
import Derived.Test.YtchfclmokpbldaaGreatStaG
import Derived.Test.YtchfclmokpbldaaGreatTelW
import Derived.Test.YtchfclmokpbldaaGreatSeqS
import Derived.Test.YtchfclmokpbldaaGreatCflowS
import Derived.Test.YtchfclmokpbldaaGreatSiteS
import Derived.Test.YtchfclmokpbldaaGreatRoundA
import Derived.Test.YtchfclmokpbldaaGreatRefC
import Derived.Test.YtchfclmokpbldaaGreatRestN
import Derived.Test.YtchfclmokpbldaaGreatSiteD
import Derived.Test.YtchfclmokpbldaaGreatFeedT
set_option linter.all false
set_option maxHeartbeats 4000000
set_option maxRecDepth 20000
variable{A B:Prop}
namespace Go.Proofs.YtchfclmokpbldaaGreat
open Go.Aw Go Go.Proofs.Tryz
section
def a0y(h:A->B:=by exact aI (oU (iD:=[]) (dD:=[_,_,_,_,_,_,_,_,_,_,_,_,_,_,_,_,_,_,_,_,_,_,_]) N rfl rfl rfl rfl) rfl):=h
def a0c(h:B:=by exact⟨uD,F4,by rw[W];rfl,aKm R,λh=>by omega,λ_=>rfl,rfl,rfl⟩):=h
def aJ6(h:A->B:=by exact aI mM rfl):=h
def JB{a7:Type}{P:Program}{n:Nat}{code:Code}{t:Nat->Value}{L:aR}{R:aO}{Q:gF}{f:a7->List Value}{aN:Nat}(aF:∀x,(f x).length=aN)(yB:0<aN)(h:cQ P n code t L ((⟨none,0,[]⟩:a4 a7).gN aN f []::R) Q):cQ P n code t L R Q:=
 aVU (T:=3) (p:=(J.nil:J a7)) (f:=f) [] J.iJ aF yB e8 h
def F4:aO:=[OM ⟨none,0,[]⟩,Bm ⟨none,0,[]⟩,Em ⟨none,0,[]⟩,V8 ⟨none,0,[]⟩,CI ⟨none,0,[]⟩,Iz ⟨none,0,[]⟩,VL ⟨none,0,[]⟩,dU ⟨none,0,[]⟩,gX ⟨none,0,[]⟩,gT ⟨none,0,[]⟩,CJ ⟨none,0,[]⟩,sE ⟨none,0,[]⟩,s4 ⟨none,0,[]⟩,iI ⟨none,0,[]⟩]
def aU2{P:Program}{n:Nat}{code:Code}{t:Nat->Value}{L:aR}{R:aO}{Q:gF}(h:cQ P n code t L (F4++R) Q):cQ P n code t L R Q:=by refine JB (f:=fG.cells) (aN:=4) bD aW ?_;refine JB (f:=bS.cells) (aN:=5) bD aW ?_;refine JB (f:=b8.cells) (aN:=3) bD aW ?_;refine JB (f:=fU.cells) (aN:=3) bD aW ?_;refine JB (f:=eE.cells) (aN:=4) bD aW ?_;refine JB (f:=rL) (aN:=1) bD aW ?_;refine JB (f:=a1) (aN:=1) bD aW ?_;refine JB (f:=kW.cells) (aN:=4) bD aW ?_;refine JB (f:=qM.cells) (aN:=6) bD aW ?_;refine JB (f:=gP.cells) (aN:=8) bD aW ?_;refine JB (f:=kI.cells) (aN:=3) bD aW ?_;refine JB (f:=lR.cells) (aN:=4) bD aW ?_;refine JB (f:=qN.cells) (aN:=10) bD aW ?_;refine JB (f:=yX.cells) (aN:=2) bD aW ?_;exact h
def aKm(R:aO):kU uD (F4++R):=by have m:∀s∈F4,aL s (F4++R):=λs aH=>aT (r7 _ aH);refine⟨⟨⟨m _ ?_,m _ ?_,m _ ?_,m _ ?_⟩,m _ ?_,m _ ?_,m _ ?_,m _ ?_⟩,m _ ?_,m _ ?_,m _ ?_,m _ ?_,⟨m _ ?_,m _ ?_⟩,m _ ?_⟩;all_goals simp[F4,uD]
def Ya(Y:List bS):Nat->List bS
 |0=>Y
 |k+1=>p7 (Ya Y k) (k:Int) 0
def aZW(Y:List bS):List bS:=Ya Y Y.length
def C0(s:eA)(f:hJ):Int:=
 if nO s≠0 then nO s else if jS f.aZ.l f.a2.l f.cB≠0 then jS f.aZ.l f.a2.l f.cB
 else if f.a2.l.length≠s.a2.l.length then 17 else if∃x∈f.aZ.l,x.cZ≠0 then 8 else 0
def vJ(s:eA)(f:hJ)(A:List Bool):hL:=⟨s,f.a2.l,f.cB,A⟩
def CK:eE:=⟨-1,0,⟨0,0⟩⟩
def YH(s:eA)(f:hJ):bZ:=⟨0,[],0,List.replicate s.cO.l.length CK,List.replicate s.fC.l.length ⟨true,-1,0⟩,List.replicate s.a2.l.length ⟨true,-1,0⟩,aZW f.aZ.l,xK,[]⟩
def a5Y{Y:List bS}{cI:List Int}{bX:Int}(h:jS Y cI bX=0): ∀k,tM Y (Ya Y k) 0
 |0=>.refl h 0
 |k+1=>(a5Y h k).a2Y _
def b0T{s:eA}{f:hJ}(h:C0 s f=0):nO s=0/\jS f.aZ.l f.a2.l f.cB=0/\f.a2.l.length=s.a2.l.length/\∀x∈f.aZ.l,x.cZ=0:=by
 rw[C0]at h;split at h;·omega
 split at h;·omega
 split at h;·cases h
 split at h;·cases h
 rename_i O X aU cK;exact⟨Decidable.not_not.1 O,Decidable.not_not.1 X,Decidable.not_not.1 aU,λx K=>by
  rcases DM (x.cZ=0)with fY|fY;·exact fY
  ·exact absurd ⟨x,K,fY⟩ cK⟩
def a4v{s:eA}{f:hJ}{A:List Bool}(h:C0 s f=0)(gE:lB s.b0.aC A):Inv (vJ s f A) (YH s f):=by
 obtain⟨O,X,aU,cK⟩:=b0T h;have aG:=a5Y (bX:=f.cB) X f.aZ.l.length;refine⟨O,gE,⟨pJ _,by show(0:Int)<=2147483648;decide⟩,Hz,λx K=>?_,Hz,λw dH=>?_,Hz,aG.jS X ⟨pJ _,by decide⟩,?_,aU,⟨by show(0:Int)<=0;decide,.inl rfl⟩,EZ _,⟨λx K=>(by cases K),EZ _⟩⟩;·rw[List.eq_of_mem_replicate K,v2,CK];dsimp only;omega
 ·rw[List.eq_of_mem_replicate dH];exact⟨⟨by decide,by decide,by decide,.inl rfl⟩,pJ _⟩
 ·exact(aG.time ⟨⟨pJ _,by decide⟩,λx K=>by rw[cK x K];exact pJ _⟩).2
attribute [local irreducible] cQ dF dV aM cP eC e5 e1 e2 e6 eX e4 J.L
def aZa(s:eA)(f:hJ)(A:List Bool)(L:aR)(R:aO):oK:=λv E G=>∃(y:cL) (S:aO),v=.tuple #[y.val,.int .i64 (C0 s f)]/\kU y G/\(C0 s f=0->h3 (vJ s f A) (YH s f) y)/\(C0 s f≠0->y=uD)/\L=E/\S++R=G
def aDP(s:eA)(f:hJ)(A:List Bool)(L:aR)(R:aO)(aH:zY s R)(aF:k0 f R)(gE:lB s.b0.aC A):
 aM prog 16 [s.val,f.val].toArray L R (aZa s f A L R):=by
 have b97:=aF.Y.mono λr M=>aT (lZ F4 M);refine b6 101 call16 func16 rfl rfl rfl ?_;apply(dB);intro eH;apply(iV);intro eS;apply(dZ);intro eD;apply(P1);refine aU2 ?_;have Ev:∀r∈R,aL r (F4++R):=λr M=>aT (lZ _ M);have Mg:=aH.mono Ev;have v9:=aF.mono Ev;apply(eB);refine aI q1 rfl ?_;refine cD rfl (a0d s _ _ Mg) ?_;apply(j7);refine U ?_ ?_<;>intro aQ;·
  apply dC∘a0y∘tQ;refine bQ L (F4++R) oC ?_;have W:C0 s f=nO s:=by rw[C0,if_pos aQ]
  exact a0c
 apply hN∘aJ6;refine cD rfl (ZC f _ _ v9) ?_;apply(j7);refine U ?_ ?_<;>intro bL;·
  apply dC∘a0y∘tQ;refine bQ L (F4++R) oC ?_;have W:C0 s f=jS f.aZ.l f.a2.l f.cB:=by rw[C0,if_neg aQ,if_pos bL]
  exact a0c
 apply hN∘kD∘kD∘rR;refine U ?_ ?_<;>intro cC;·
  apply dC∘a0y∘p8;refine bQ L (F4++R) oC ?_;have W:C0 s f=17:=by rw[C0,if_neg aQ,if_neg bL,if_pos D]
  exact a0c
 have GK:nO s=0:=Decidable.not_not.1 aQ;have i2:jS f.aZ.l f.a2.l f.cB=0:=Decidable.not_not.1 bL;have rZ:=xZ i2;have GL:=rZ.A7;have sP:=rZ.w1;have wO:=(JT GK).len;apply(NI);refine dS [(2,.pointer _),(3,.pointer _),(4,.pointer _),(33,.slice _ _ _),(34,.int _ _),(35,.int _ _)] bV λfK=>?_;refine gY ([5,9]++cN 35 9) (λg:{k:Nat//k<=f.aZ.l.length/\∀j:Nat,j<k->(f.aZ.l.getD j default).cZ=0}=>[(35,.int .i64 ((g.1:Nat):Int))]) (λg=>f.aZ.l.length-g.1) (⟨0,by omega,λj a6=>by omega⟩) ?_;rintro⟨k,aG,hC⟩ cH;try dsimp only
 apply(h0);refine U ?_ ?_<;>intro dX;·
  have b7:=bJ (l:=f.aZ.l) (k:=k) default D;apply(j9);refine aI pL rfl ?_;apply(SO);intro jR;apply z8∘rR;refine U ?_ ?_<;>intro dY;·apply dC∘a0y∘jZ∘dM∘ON;refine bQ L (F4++R) oC ?_;(have W:C0 s f=8:=by rw[C0,if_neg aQ,if_neg bL,if_neg D,if_pos ⟨_,hV b7,dY⟩]);exact a0c
  apply(mU);exact aCc
 have aL3:∀x∈f.aZ.l,x.cZ=0:=λx K=>by obtain⟨j,a6,rfl⟩:=Hy K;have:=hC j D;rwa[m8,DN a6]at this
 have W:C0 s f=0:=by rw[C0,if_neg aQ,if_neg bL,if_neg D,if_neg (λ⟨x,K,h⟩=>h (aL3 x K))]
 have b1:∀q∈F4,aL q (F4++R):=λq cJ=>aT (r7 _ cJ);have rC:Pz (⟨s,0,⟨none,0,[]⟩,0,⟨none,0,[]⟩,⟨none,0,[]⟩,⟨none,0,[]⟩,f,xK,⟨none,0,[]⟩⟩:cL):=⟨GK,EZ _,EZ _,EZ _,EZ _,(by show f.aZ.l.length<=1000;omega),(by show f.a2.l.length<=1000;omega),EZ _⟩;have B1:=aKm R;have a9d:kU (⟨s,0,⟨none,0,[]⟩,0,⟨none,0,[]⟩,⟨none,0,[]⟩,⟨none,0,[]⟩,f,xK,⟨none,0,[]⟩⟩:cL) (F4++R):=⟨Mg,B1.held,B1.c7,B1.eG,B1.aV,v9,B1.eQ⟩;apply(Hk);refine gZ N [0,1,2,3,4,5,6] _ dO bI hA ?_;refine bE q1 rfl rfl rfl ?_;refine bE mM rfl rfl rfl ?_;refine lW rfl (a7M _ _) ?_;refine bE (oU (iD:=[(0,(Value.agg _).cells.toList),(6,(Value.agg _).cells.toList),(7,(Value.agg _).cells.toList)]) (dD:=[_,_,_,_,_,_,_,_,_,_,_,_,_,_,_,_,_,_,_,_,_,_,_]) N rfl rfl rfl rfl) rfl rfl rfl ?_;refine tP rfl (aIb (⟨s,0,⟨none,0,[]⟩,0,⟨none,0,[]⟩,⟨none,0,[]⟩,⟨none,0,[]⟩,f,xK,⟨none,0,[]⟩⟩:cL) _ _ rC a9d) rfl rfl ?_;rintro v E G ⟨s',c4,EG,dK,lF,eY,c9,fL,rfl,fE,rfl,rfl⟩;refine⟨bA,iQ,?_⟩;apply(qH);intro i0;apply(uC);refine g5 (a8 (bK (bK ?_)));obtain⟨gS,BZ⟩:∃gS,gS=fL++(F4++R):=⟨_,rfl⟩;refine wK Xm ?_;have a8n:aGe (⟨s,0,⟨none,0,[]⟩,0,⟨none,0,[]⟩,⟨none,0,[]⟩,⟨none,0,[]⟩,f,xK,⟨none,0,[]⟩⟩:cL) s' c4 EG dK lF eY c9 gS:=by rw[BZ];exact fE
 have NZ:∀r∈R,aL r gS:=λr M=>aT (by rw[BZ];exact lZ _ (lZ _ M));have b42:dK.l=[]:=fE.em;have b45:lF.l=[]:=fE.a1R;have b4Y:eY.l=[]:=fE.a1N;have b40:c9.l=[]:=fE.a1P;have b98:EG.aZ.l=f.aZ.l:=fE.Sj;apply eB∘qP;refine dS [(2,.pointer _),(4,.pointer _),(10,.pointer _),(51,.int _ _),(52,.int _ _)] bV λoA=>?_;refine k2 ([11]++cN 52 12) ((⟨λg=>[(52,.int .i64 ((g.1.1:Nat):Int))],λg=>⟨i0,(⟨s',0,c4,0,dK.V,lF.V,eY.V,g.1.2.1,xK,c9.V⟩:cL).cells,54⟩::(c9.L 150 fG.cells++(eY.L 71 b8.cells++(lF.L 153 fU.cells++(dK.L 93 eE.cells++(⟨eD,uD.cells,54⟩::⟨eS,f.cells,42⟩::⟨eH,s.cells,38⟩::L))))),λg=>g.1.2.2,λg=>f.aZ.l.length-g.1.1⟩:fB {g:Nat×hJ×aO//g.1<=f.aZ.l.length/\(g.2.1.aZ.l=Ya f.aZ.l g.1/\g.2.1.a2.l=f.a2.l/\g.2.1.cB=f.cB)/\k0 g.2.1 g.2.2/\∀r∈gS,aL r g.2.2})) (⟨(0,EG,gS),by dsimp only;omega,⟨fE.Sj,fE.a1S,fE.a1Q⟩,a8n.cU,n1 _⟩) ?_;rintro⟨⟨g9,jY,sC⟩,hE,⟨AQ,QL,kE⟩,C8,a2a⟩ cH;try dsimp only
 dsimp only[cL.cells];dsimp only at hE AQ QL kE C8 a2a;apply(h0);refine U ?_ ?_<;>intro h1;·
  have a9U:=a5Y (bX:=f.cB) i2 g9;have b3v:jS jY.aZ.l jY.a2.l jY.cB=0:=by rw[AQ,QL,kE];exact a9U.jS i2 ⟨pJ _,by decide⟩
  have Ab:jY.aZ.l.length=f.aZ.l.length:=by rw[AQ];exact a9U.len
  have b5C:JD jY.aZ.l 0:=by rw[AQ];exact a9U.time ⟨⟨pJ _,by decide⟩,λx K=>by rw[aL3 x K];exact pJ _⟩
  have v8:u7 jY.aZ.l jY.a2.l jY.cB (g9:Int) 0=0:=by rw[u7,if_neg (by rw[b3v];decide),if_neg D,if_pos b5C]
  apply oJ∘dM;refine eZ (a8 (c2 ?_));apply e7∘aJ6∘cE;refine dT rfl (aKg jY (g9:Int) 0 _ _ C8) rfl ?_;rintro v E G ⟨rE,xO,bX,rfl,⟨Uh,Uj⟩,TM,rfl,rfl⟩;refine aI iL rfl ?_;apply CO∘e7;refine P8 N rfl rfl rfl rfl sX aB aB aB ?_;refine eZ (hI (a8 ?_));obtain⟨Ui,Me,rfl⟩:=TM v8;refine hB (T:=3) (f:=a1) (aN:=1) xO [] cF bD aW Uj e8 ?_;refine eM gD ?_;refine hB (T:=76) (f:=bS.cells) (aN:=5) rE [] cF bD aW Uh e8 ?_;refine eM gD ?_;apply eB∘s6;exact eO ⟨(g9+1,⟨rE.V,xO.V,jY.cB⟩,s4 rE.V::dU xO.V::sC),by dsimp only;omega,⟨by show rE.l=_;rw[Ui,AQ];rfl,Me.trans QL,kE⟩,⟨aT (.head _),aT (.tail _ (.head _))⟩,λr M=>(a2a r M).mono λr M=>aT (.tail _ (.tail _ M))⟩
 obtain rfl:g9=f.aZ.l.length:=by omega
 apply xN∘qP;refine dS [(2,.pointer _),(4,.pointer _),(10,.pointer _),(66,.int _ _),(67,.int _ _)] bV λUD=>?_;refine k2 (cN 67 9) ((⟨λg=>[(67,.int .i64 ((g.1.1:Nat):Int))],λg=>⟨i0,(⟨s',0,c4,0,g.1.2.V,lF.V,eY.V,jY,xK,c9.V⟩:cL).cells,54⟩::(c9.L 150 fG.cells++(eY.L 71 b8.cells++(lF.L 153 fU.cells++(g.1.2.L 93 eE.cells++(⟨eD,uD.cells,54⟩::⟨eS,f.cells,42⟩::⟨eH,s.cells,38⟩::L))))),λ_=>sC,λg=>s.cO.l.length-g.1.1⟩:fB {g:Nat×J eE//g.1<=s.cO.l.length/\g.2.ok 4 eE.cells/\g.2.l=List.replicate g.1 CK})) (⟨(0,dK),by dsimp only;omega,fE.Au,b42⟩) ?_;rintro⟨⟨fI,KG⟩,l5,a9Z,WQ⟩ cH;try dsimp only
 dsimp only[cL.cells];dsimp only at l5 a9Z WQ;have b9N:KG.l.length=fI:=by rw[WQ,Hz]
 apply(h0);refine U ?_ ?_<;>intro h2;·refine eP (a8 (bK (fR (c2 ?_))));apply(fD);refine aI aTk rfl ?_;refine hT Xf rfl ?_;rintro v E G ⟨b8Q,rfl,rfl,a8U⟩;replace a8U:=a8U.symm;subst a8U;refine hT (pO (f:=eE.cells) (p:=KG) (a:=CK) N rfl rfl rfl rfl (a9Z) cF p2 rfl qI) rfl ?_;rintro v E G ⟨b6F,rfl,b4H,rfl,rfl⟩;apply FT∘uJ;exact eO ⟨(fI+1,⟨b6F,KG.l++[CK]⟩),by dsimp only;omega,b4H,by dsimp only;rw[WQ,aCp]⟩
 obtain rfl:fI=s.cO.l.length:=by omega
 apply xN∘qP;refine dS [(2,.pointer _),(4,.pointer _),(10,.pointer _),(78,.int _ _),(79,.int _ _)] bV λa29=>?_;refine k2 (cN 79 9) ((⟨λg=>[(79,.int .i64 ((g.1.1:Nat):Int))],λg=>⟨i0,(⟨s',0,c4,0,KG.V,g.1.2.V,eY.V,jY,xK,c9.V⟩:cL).cells,54⟩::(c9.L 150 fG.cells++(eY.L 71 b8.cells++(g.1.2.L 153 fU.cells++(KG.L 93 eE.cells++(⟨eD,uD.cells,54⟩::⟨eS,f.cells,42⟩::⟨eH,s.cells,38⟩::L))))),λ_=>sC,λg=>s.fC.l.length-g.1.1⟩:fB {g:Nat×J fU//g.1<=s.fC.l.length/\g.2.ok 3 fU.cells/\g.2.l=List.replicate g.1 (⟨true,-1,0⟩:fU)})) (⟨(0,lF),by dsimp only;omega,fE.aNz,b45⟩) ?_;rintro⟨⟨o5,XH⟩,DA,aBa,vP⟩ cH;try dsimp only
 dsimp only[cL.cells];dsimp only at DA aBa vP;have bAf:XH.l.length=o5:=by rw[vP,Hz]
 apply(h0);refine U ?_ ?_<;>intro n8;·refine eP (a8 (bK (fR ?_)));refine iS N [] [0,1,2,3] [4,5,6] (_) _ dO bI bA fM ?_;apply(mH);refine rQ rfl (aZ4 _ _) rfl rfl ?_;rintro v E G ⟨rfl,rfl,rfl⟩;refine⟨bA,iQ,?_⟩;refine Eb Xg rfl rfl rfl ?_;rintro v E G ⟨Lc,rfl,rfl,IB⟩;replace IB:=IB.symm;subst IB;apply(NG);refine uN (pO (f:=fU.cells) (p:=XH) (a:=⟨true,-1,0⟩) N rfl rfl rfl rfl (aBa) cF p2 rfl qI) rfl rfl rfl ?_;rintro v E G ⟨a2N,rfl,a2l,rfl,rfl⟩;apply gJ∘PQ∘PV;exact eO ⟨(o5+1,⟨a2N,XH.l++[⟨true,-1,0⟩]⟩),by dsimp only;omega,a2l,by dsimp only;rw[vP,aCp]⟩
 obtain rfl:o5=s.fC.l.length:=by omega
 apply xN∘qP;refine dS [(4,.pointer _),(10,.pointer _),(90,.int _ _),(91,.int _ _)] bV λb7c=>?_;refine k2 (cN 91 9) ((⟨λg=>[(91,.int .i64 ((g.1.1:Nat):Int))],λg=>⟨i0,(⟨s',0,c4,0,KG.V,XH.V,g.1.2.V,jY,xK,c9.V⟩:cL).cells,54⟩::(c9.L 150 fG.cells++(g.1.2.L 71 b8.cells++(XH.L 153 fU.cells++(KG.L 93 eE.cells++(⟨eD,uD.cells,54⟩::⟨eS,f.cells,42⟩::⟨eH,s.cells,38⟩::L))))),λ_=>sC,λg=>s.a2.l.length-g.1.1⟩:fB {g:Nat×J b8//g.1<=s.a2.l.length/\g.2.ok 3 b8.cells/\g.2.l=List.replicate g.1 (⟨true,-1,0⟩:b8)})) (⟨(0,eY),by dsimp only;omega,fE.aNy,b4Y⟩) ?_;rintro⟨⟨fZ,Hi⟩,B4,a9m,cC⟩ cH;try dsimp only
 dsimp only[cL.cells];dsimp only at B4 a9m cC;have b9u:Hi.l.length=fZ:=by rw[cC,Hz]
 apply(h0);refine U ?_ ?_<;>intro EM;·refine eP (a8 (bK (fR (c2 ?_))));apply(fD);refine aI aRT rfl ?_;refine hT Xg rfl ?_;rintro v E G ⟨b1m,rfl,rfl,Fj⟩;replace Fj:=Fj.symm;subst Fj;refine hT (pO (f:=b8.cells) (p:=Hi) (a:=⟨true,-1,0⟩) N rfl rfl rfl rfl (a9m) cF p2 rfl qI) rfl ?_;rintro v E G ⟨aBN,rfl,aAl,rfl,rfl⟩;apply FT∘uJ;exact eO ⟨(fZ+1,⟨aBN,Hi.l++[⟨true,-1,0⟩]⟩),by dsimp only;omega,aAl,by dsimp only;rw[cC,aCp]⟩
 obtain rfl:fZ=s.a2.l.length:=by omega
 refine hB (T:=93) (f:=eE.cells) (aN:=4) KG [] cF bD aW a9Z e8 ?_;refine eM gD ?_;refine hB (T:=153) (f:=fU.cells) (aN:=3) XH [] cF bD aW aBa e8 ?_;refine eM gD ?_;refine hB (T:=71) (f:=b8.cells) (aN:=3) Hi [] cF bD aW a9m e8 ?_;refine eM gD ?_;refine hB (T:=150) (f:=fG.cells) (aN:=4) c9 [] cF bD aW fE.OE e8 ?_;refine eM gD ?_;obtain⟨hG,C5⟩:∃hG,hG=iI c9.V::sE Hi.V::CJ XH.V::gT KG.V::sC:=⟨_,rfl⟩;refine wK a37 ?_;have aLK:∀r∈sC,aL r (hG++R):=λr M=>aT (by rw[C5];exact .tail _ (.tail _ (.tail _ (.tail _ (r7 _ M)))));have aLJ:∀r∈gS,aL r (hG++R):=λr M=>(a2a r M).mono aLK;have Lo:∀r∈R,aL r hG:=λr M=>((NZ r M).mono a2a).mono λr M=>aT aDb;have eV:aL (iI c9.V) (hG++R):=aT Xq;have fN:aL (sE Hi.V) (hG++R):=aT a32;have n5:aL (CJ XH.V) (hG++R):=aT a3X;have F7:aL (gT KG.V) (hG++R):=aT aDc;apply(n9);refine aI xR rfl ?_;apply(oH);refine lH (E:=L) (G:=hG++R) oC ?aP ?dI ?bO;case aP=>exact⟨(⟨s',0,c4,0,KG.V,XH.V,Hi.V,jY,xK,c9.V⟩:cL),hG,by rw[W],⟨a8n.aK.mono aLJ,a8n.held.mono aLJ,F7,n5,fN,C8.mono aLK,eV⟩,λ_=>⟨fE.C4,rfl,fE.a1O,rfl,WQ,vP,cC,AQ,QL,kE,rfl,b40⟩,λh=>absurd W h,rfl,rfl⟩
 case dI=>exact bA
 case bO=>
  exact λr M=>by
   rcases List.mem_append.1 M with h|h;·exact aT h
   ·exact Lo r h
end
section
variable{g:hL}{p:bZ}
structure BF(p q:bZ):Prop where
 c7:q.c7=p.c7
 held:q.held=p.held
 eK:q.eK=p.eK
def BF.refl(p:bZ):BF p p:=⟨rfl,rfl,rfl⟩
def BF.trans{p q r:bZ}(h:BF p q)(k:BF q r):BF p r:=⟨k.c7.trans h.c7,k.held.trans h.held,k.eK.trans h.eK⟩
def aGx(z:Int):BF p (w4 g p z):=by rw[w4];split<;>exact⟨rfl,rfl,rfl⟩
def aHl: ∀(l:List Int) {p:bZ},BF p (CZ g p l)
 |[],p=>.refl p
 |z::l,p=>(aGx z).trans (aHl l)
def a6s(kind:Int): ∀(l:List Int) {p:bZ},BF p (v3 kind p l)
 |[],p=>.refl p
 |z::l,p=>BF.trans (q:=nT p kind z 0) ⟨rfl,rfl,rfl⟩ (a6s kind l)
def b01(dR:List Int)(z:Nat):BF p (JH g dR p z):=by
 rw[JH];split;·exact .refl p
 ·exact BF.trans (q:={p with aV:=p.aV.set z ⟨true,(p.aV.getD z default).clear,tL (g.aK.a2.l.getD z default).jN.l dR⟩}) ⟨rfl,rfl,rfl⟩ (aGx _)
def aEB(dR:List Int): ∀k,BF p (m5 g dR p k)
 |0=>.refl p
 |k+1=>(aEB dR k).trans (b01 dR k)
def aUN(t:Int):BF p (bP g p t):=by rw[bP];refine BF.trans ?_ (aEB _ _);rw[KL];refine BF.trans ?_ (a6s _ _);refine BF.trans ?_ (a6s _ _);refine BF.trans (q:=iH g {p with time:=t}) ?_ ⟨rfl,rfl,rfl⟩;rw[iH];exact BF.trans (q:={p with time:=t,eG:=_,aV:=_}) ⟨rfl,rfl,rfl⟩ (aHl _)
def aWO(p:bZ):Prop:=∀c∈p.aV,c.off=true
def aXc{l:List b8}(h:∀c∈l,c.off=true){i:Nat}(aE:i<l.length):(l.getD i default).off=true:=h _ (hV (bJ (l:=l) (k:=i) default aE))
def aEt(dR:List Int)(h:aWO p): ∀k,k<=p.aV.length->m5 g dR p k=p
 |0,_=>rfl
 |k+1,aG=>by
  rw[m5,aEt dR h k D,JH,if_pos (.inl (aXc h D))]
end
section
variable{a:b3}{s:cS}{x:SG}(h:Zk a s x)
include h
include h
end
section
attribute [local irreducible] cQ dF dV aM cP eC e5 e1 e2 e6 eX e4 J.L
end
section
variable(b ZG:Nat)
end
section
attribute [local irreducible] cQ dF dV aM cP eC e5 e1 e2 e6 eX e4 J.L
section
variable(b ZG:Nat)
end
section
variable{s:eA}{len qQ dG:Int}(h:Ow s len qQ dG)
include h
def aYt:h5 s.b0=0:=by
 obtain⟨O,X,aU,cK,fY,i7,nL,_,NW,⟨JZ,b9k⟩,_⟩:=h;obtain⟨⟨⟨⟨B9,eY,c9⟩,⟨Ho,bAO,bAP⟩⟩,⟨b9b,mI,aA⟩,⟨b84,b85,qQ⟩⟩,Mz,Lf,UL,ps⟩:=s;dsimp only at O X aU cK;subst O X aU cK;have:len=1\/len=2\/len=3\/len=4:=by omega
 rcases this with rfl|rfl|rfl|rfl<;>rfl
def a7N:PI s:=by
 have bT:=aYt h;obtain⟨O,X,aU,cK,fY,i7,⟨z,nL,k6,iX,OX,a3J⟩,_,NW,M⟩:=h;refine⟨bT,by rw[fY,i7,nL,NW];simp,λi aE=>?_,λc cG=>?_,λy aS=>?_,λp aP=>?_⟩;·
  rw[fY]at aE|-;obtain rfl:i=0:=by simp only[wD,UH]at aE;omega
  rw[wL,if_neg aW,if_neg,if_neg (by rintro⟨k,aG,_⟩;omega)];rw[PM,X];show¬¬((0:Int)<=0/\(0:Int)<1);decide
 ·
  rw[i7]at cG;rw[List.mem_singleton.1 cG,K1,if_neg,if_neg (by show¬((0:Int)<0\/(1099511627776:Int)<0);decide),if_pos aB,JE,if_pos];·show(100:Int)<=1000000/\(0:Int)<=60/\(60:Int)<100/\0<=qQ/\qQ<=100000;omega
  ·rw[fY,X];show¬(0:Int)≠0;decide
 ·
  rw[nL]at aS;rw[List.mem_singleton.1 aS,BQ,k6,i7,X,if_neg (by show¬HA _ 1≠0;decide),if_neg D,if_neg];rintro⟨i,aE,a5⟩;rw[OX]at aE a5;obtain rfl:i=0:=by simp only[wD,UH]at aE;omega
  revert a5;show¬AC 1 [0] 0;decide
 ·rw[NW]at aP;simp only[sW,vR,or_false]at aP;omega
end
end
section
variable{s:eA}{len qQ dG:Int}(h:Ow s len qQ dG)
include h
def b0Y{t:Int}(fH:0<=t/\t<=2147483648):sT s 1 1 t=0:=by obtain⟨z,nL,_⟩:=h.dN;rw[sT,(a7N h).AM,if_neg aW,if_neg (by rw[nL,h.aJ];simp),if_neg D]
def aXM{c:List b8}{aA:List bC}{t:Int}(cG:c.length=1)(aF:aA.length=1)(fH:0<=t/\t<=2147483648):oZ s c aA xK 0 0 t=qW s c aA 0 t:=by rw[oZ,cG,aF,b0Y h fH,if_neg aW,if_neg aW,if_neg];rw[h.aBQ];decide
end
def a2Y(n:Nat):List bS:=(List.range n).map λ(i:Nat)=>⟨(i:Int)-1,0,-1,false,false⟩
section
variable{s:eA}{len qQ dG:Int}{f:hJ}{A:List Bool}(h:Ow s len qQ dG)
include h
def a6P{n:Nat}(b1:1<=n/\n<=3)(O:f.aZ.l=LM n)(X:f.a2.l=[(n:Int)-1])(aU:f.cB=3):C0 s f=0:=by
 obtain⟨z,nL,_⟩:=h.dN;have i2:jS f.aZ.l f.a2.l f.cB=0:=by
  rw[O,X,aU];have:n=1\/n=2\/n=3:=by omega
  rcases this with rfl|rfl|rfl<;>decide
 rw[C0,(a7N h).AM,if_neg aW,i2,if_neg aW,if_neg (by rw[X,nL];simp),if_neg];rintro⟨x,K,JZ⟩;rw[O,LM,List.mem_map]at K;obtain⟨i,_,rfl⟩:=K;exact JZ rfl
def Na:List bS:=[⟨-1,0,0,false,false⟩]
def zK(t:Int):bZ:=⟨t,[],0,[CK],[⟨true,-1,t⟩],[⟨true,-1,0⟩],Na,xK,[]⟩
def aHP(O:f.aZ.l=LM 1):YH s f=zK 0:=by obtain⟨z,nL,_⟩:=h.dN;rw[YH,h.OP,h.fC,nL,O];rfl
def aV1(O:f.aZ.l=LM 1)(X:f.a2.l=[0])(aU:f.cB=3)(eT:Inv (vJ s f A) (zK 0)):bP (vJ s f A) (zK 0) 2=zK 2:=by
 obtain⟨z,nL,A0,_⟩:=h.dN;have mV:=eT.at (t:=2) (by show(0:Int)<=2;decide) aW;have a2w:=mV.Wb;have aG:∀t,p6 s.cO.l [CK] 0 t=kH:=λt=>by rw[p6,if_neg];rintro⟨_,_,JZ⟩;exact absurd (show(-1:Int)=0 from JZ) aW
 have cT:v4 (KZ qQ).nF ⟨true,-1,0⟩ kH 2=⟨true,-1,2⟩:=rfl;have cY:nR (vJ s f A) {zK 0 with time:=2}=[0]:=by
  rw[nR,GW,if_neg (by rw[a2w];decide)];show[LL s.cO.l [CK] _ (s.fC.l.getD 0 default) ⟨true,-1,0⟩ 2]=[0];rw[h.fC];show[LL s.cO.l [CK] _ (KZ qQ) ⟨true,-1,0⟩ 2]=[0];have:LL s.cO.l [CK] (e9 (vJ s f A) {zK 0 with time:=2}) (KZ qQ) ⟨true,-1,0⟩ 2=0:=by rw[LL,if_neg (show¬(KZ qQ).kind=5 by show¬(1:Int)=5;decide),if_neg (show¬(KZ qQ).kind=2 by show¬(1:Int)=2;decide),if_neg (show¬(KZ qQ).kind=3 by show¬(1:Int)=3;decide),if_neg (show¬(KZ qQ).kind=4 by show¬(1:Int)=4;decide)];show(if(v4 _ _ (p6 s.cO.l [CK] 0 2) 2).over=false then(-1:Int)else if uP (p6 s.cO.l [CK] 0 2) 100=1 then 1 else 0)=0;rw[aG,cT];decide
  rw[this]
 have dH:oR s [CK] [⟨true,-1,0⟩] (e9 (vJ s f A) {zK 0 with time:=2}) 2=[⟨true,-1,2⟩]:=by have b5J:pI s [CK] [⟨true,-1,0⟩] (e9 (vJ s f A) {zK 0 with time:=2}) 2=0:=a2w;rw[oR,if_neg (by rw[b5J];decide)];show[DZ s.cO.l [CK] (s.fC.l.getD 0 default) ⟨true,-1,0⟩ 2]=_;rw[h.fC];show[DZ s.cO.l [CK] (KZ qQ) ⟨true,-1,0⟩ 2]=_;rw[DZ,if_pos (show(KZ qQ).kind=1 from rfl)];show[v4 _ _ (p6 s.cO.l [CK] 0 2) 2]=_;rw[aG,cT]
 have mQ:pU s [0] [⟨true,-1,0⟩] 2=0:=by rw[pU,(a7N h).AM,if_neg aW,if_neg (by rw[nL,h.fC];simp),if_neg aW]
 have cG:o1 s [0] [⟨true,-1,0⟩] 2=[⟨true,-1,0⟩]:=by rw[o1,if_neg (by rw[mQ];decide)];show[R0 (tL (s.a2.l.getD 0 default).jN.l [0]) ⟨true,-1,0⟩ 2]=_;rw[nL];show[R0 (tL z.jN.l [0]) ⟨true,-1,0⟩ 2]=_;rw[A0];decide
 have b1:x6 s [0] [⟨true,-1,0⟩] 2=[]:=by rw[x6,if_neg (by rw[mQ];decide)];show(if tL _ _≠-1/\true=false then _ else[])=([]:List Int);rw[if_neg (λh=>by cases h.2)]
 have uS:iH (vJ s f A) {zK 0 with time:=2}=zK 2:=by rw[iH,cY];show CZ _ {zK 0 with time:=2,eG:=oR s [CK] [⟨true,-1,0⟩] (e9 (vJ s f A) {zK 0 with time:=2}) 2,aV:=o1 s [0] [⟨true,-1,0⟩] 2} (x6 s [0] [⟨true,-1,0⟩] 2)=_;rw[dH,cG,b1];rfl
 rw[bP];rw[uS];have BV:KL (vJ s f A) (zK 2)=zK 2:=by rw[KL];show v3 2 (v3 3 {zK 2 with aD:=nQ [⟨true,-1,0⟩] xK,Y:=(nA Na f.cB 2).Y} (nA Na f.cB 2).bY) (nA Na f.cB 2).RA=_;rw[aU];have:nA Na 3 2=⟨Na,[],[]⟩:=rfl;rw[this,nQ,if_pos (.inl rfl)];rfl
 rw[BV];exact aEt _ (λc cG=>by rw[List.mem_singleton.1 cG]) _ (iK _)
def b0B(O:f.aZ.l=LM 1)(X:f.a2.l=[0])(aU:f.cB=3)(gE:lB s.b0.aC A):
 x0 (vJ s f A) (YH s f) 0 0 2=({zK 2 with eQ:=[⟨2,7,0,20⟩]},20):=by
 have b2:=a6P (f:=f) h (n:=1) ⟨by decide,by decide⟩ O (by rw[X];rfl) aU;have eT:=a4v (A:=A) b2 gE;rw[aHP h O]at eT|-;have mV:=aV1 h O X aU eT;have aLT:=eT.settle (t:=2) (by show(0:Int)<=2;decide) aW;rw[mV]at aLT;have gA:=aLT.a78;obtain⟨z,nL,A0,_⟩:=h.dN;have W:oZ s [⟨true,-1,0⟩] (e9 (vJ s f A) (zK 2)) xK 0 0 2=20:=by rw[aXM h rfl (by rw[gA];show s.b0.aC.aJ.l.length=1;rw[h.aJ];rfl) ⟨by decide,by decide⟩,qW,if_neg aW,nL];show P4 s _ ⟨true,-1,0⟩ z 2=20;rw[P4,if_neg aW,if_pos (.inl (.inl aW))]
 rw[x0,if_neg (by rw[nU];show¬((2:Int)<0\/_);decide)];dsimp only;rw[mV];show(if oZ s [⟨true,-1,0⟩] (e9 (vJ s f A) (zK 2)) xK 0 0 2≠0 then(nT (zK 2) 7 0 (oZ s [⟨true,-1,0⟩] (e9 (vJ s f A) (zK 2)) xK 0 0 2),oZ s [⟨true,-1,0⟩] (e9 (vJ s f A) (zK 2)) xK 0 0 2)else _)=_;rw[W,if_pos aW];rfl
end
section
def a0e(h:A->B:=by exact bE oS rfl rfl rfl):=h
def aJu(h:A->B:=by exact gZ N [0,1,2,3,4,5,6,7,8] ([]) dO bI bA):=h
def aE2(h:A->B:=by exact bE Cl rfl rfl rfl):=h
def aHD(h:A->B:=by exact bE aDf rfl rfl rfl):=h
def aIf(h:A->B:=by exact aI mM rfl):=h
def aKU(h:A->B:=by exact aI DT rfl):=h
def aKQ:PJ prog 150 [.i,.i,.i,.i]:=
 YY [(3,[.i]),(3,[.i]),(3,[.i]),(3,[.i])] bI bI bI bI rfl (by
  intro p aP
  simp only[sW,vR,or_false]at aP
  rcases aP with rfl|rfl|rfl|rfl<;>exact yJ bI)
def b0c:PJ prog 159 [.i,.b]:=
 YY [(3,[.i]),(4,[.b])] bI bI bI bI rfl (by
  intro p aP
  simp only[sW,vR,or_false]at aP
  rcases aP with rfl|rfl
  ·exact yJ bI
  ·exact Di bI)
def b0C{T:TypeId}{iW:jD}(h:hW N.g1 T=some iW):∃i,prog.info? T=some i:=by obtain⟨i,u,z,aE,_⟩:=JI (N.ok _ _ h);exact⟨i,aE⟩
def a7H{d:Nat}:X7 prog (d+2) 90 [.i,.i]:=by obtain⟨i,aE⟩:=b0C (T:=90) rfl;exact aTI (c9:=[(3,[.i]),(3,[.i])]) bI bI aE bI bI (by intro p aP;simp only[sW,vR,or_false]at aP;rcases aP with rfl|rfl<;>exact yJ bI)
def aXD:PJ prog 93 [.i,.i,.i,.i]:=
 YY [(3,[.i]),(3,[.i]),(90,[.i,.i])] bI bI bI bI rfl (by
  intro p aP
  simp only[sW,vR,or_false]at aP
  rcases aP with rfl|rfl|rfl
  ·exact yJ bI
  ·exact yJ bI
  ·exact a7H)
def aVw:PJ prog 157 [.i,.i,.i,.i,.b,.b,.i,.i,.i,.i]:=
 YY [(3,[.i]),(3,[.i]),(3,[.i]),(3,[.i]),(4,[.b]),(4,[.b]),(90,[.i,.i]),(90,[.i,.i])] bI bI bI bI rfl (by
  intro p aP
  simp only[sW,vR,or_false]at aP
  rcases aP with rfl|rfl|rfl|rfl|rfl|rfl|rfl|rfl
  ·exact yJ bI
  ·exact yJ bI
  ·exact yJ bI
  ·exact yJ bI
  ·exact Di bI
  ·exact Di bI
  ·exact a7H
  ·exact a7H)
attribute [local irreducible] cQ dF dV aM cP eC e5 e1 e2 e6 eX e4 J.L
def aUa(x y:a4 fG)(L:aR)(R:aO)(K:aL (iI x) R)(aS:aL (iI y) R)(W:x.l=y.l):
 aM prog 64 [x.val,y.val].toArray L R (λv E G=>v=.bool true/\L=E/\R=G):=by
 have IF:x.l.length=y.l.length:=by rw[W]
 refine G9 call64 K λQZ=>?_;refine b6 26 call64 func64 rfl rfl rfl ?_;apply VY∘pR∘pR∘rR;refine U ?_ ?_<;>intro aQ;·exact a4b
 apply(yZ);refine dS [(0,.slice _ _ _),(1,.slice _ _ _),(5,.int _ _)] bV λfK=>?_;refine gY ([4,5]++cN 11 15) (λg:{k:Nat//k<=x.l.length}=>[(5,.int .i64 ((g.1:Nat):Int))]) (λg=>x.l.length-g.1) (⟨0,by omega⟩) ?_;rintro⟨k,aG⟩ cH;try dsimp only
 apply(uM);refine U ?_ ?_<;>intro bL;·
  have pX:=bJ (l:=x.l) (k:=k) default D;have W8:y.l[k]?=some (x.l.getD k default):=by rw[<-W];exact pX
  refine eP (a8 (bK (fR (bK ?_))));apply aJu∘a0e∘JO∘Bj∘a0e∘JO∘Bj;refine bE (Cz aKQ rfl rfl DO DO rfl) rfl rfl rfl ?_;exact Nd
 exact Ny
def aXd(x y:a4 eE)(L:aR)(R:aO)(K:aL (gT x) R)(aS:aL (gT y) R)(W:x.l=y.l):
 aM prog 61 [x.val,y.val].toArray L R (λv E G=>v=.bool true/\L=E/\R=G):=by
 have IF:x.l.length=y.l.length:=by rw[W]
 refine G9 call61 K λQZ=>?_;refine b6 26 call61 func61 rfl rfl rfl ?_;apply VY∘pR∘pR∘rR;refine U ?_ ?_<;>intro aQ;·exact a4b
 apply(yZ);refine dS [(0,.slice _ _ _),(1,.slice _ _ _),(5,.int _ _)] bV λfK=>?_;refine gY ([4,5]++cN 11 15) (λg:{k:Nat//k<=x.l.length}=>[(5,.int .i64 ((g.1:Nat):Int))]) (λg=>x.l.length-g.1) (⟨0,by omega⟩) ?_;rintro⟨k,aG⟩ cH;try dsimp only
 apply(uM);refine U ?_ ?_<;>intro bL;·
  have pX:=bJ (l:=x.l) (k:=k) default D;have W8:y.l[k]?=some (x.l.getD k default):=by rw[<-W];exact pX
  refine eP (a8 (bK (fR (bK ?_))));apply aJu∘a0e∘JO∘Bj∘a0e∘JO∘Bj;refine bE (Cz aXD rfl rfl DO DO rfl) rfl rfl rfl ?_;exact Nd
 exact Ny
def aX9(m w:h4)(L:aR)(R:aO)(a3:K4 m R)(dH:K4 w R)(O:m.places.l=w.places.l)(X:m.aJ.l=w.aJ.l)(b1:m.places.l.length<=1000/\m.aJ.l.length<=1000):
 aM prog 127 [m.val,w.val].toArray L R (λv E G=>v=.bool true/\L=E/\R=G):=by
 have jT:=a3.places;have zC:=dH.places;have N8:=a3.aJ;have TQ:=dH.aJ;have Ab:m.places.l.length=w.places.l.length:=by rw[O]
 have WP:m.aJ.l.length=w.aJ.l.length:=by rw[X]
 refine b6 59 call127 func127 rfl rfl rfl ?_;apply(dB);intro eH;apply(iV);intro eS;apply F1∘kD∘kD∘p9;apply cA (Z:=[_,_,_,_,_,_,_]) (j:=7) (a9:=14) rfl rfl aB rfl aY rfl;·intro hM;replace hM:=bB hM;exact(kD) Co
 intro OD;apply(b9);refine U ?_ ?_<;>intro aQ;·apply(PR);refine lG L R ?_;exact absurd WP D
 apply(yZ);refine dS [(2,.pointer _),(3,.pointer _),(5,.int _ _)] bV λfK=>?_;refine gY ([4,5]++cN 23 18) (λg:{k:Nat//k<=m.places.l.length}=>[(5,.int .i64 ((g.1:Nat):Int))]) (λg=>m.places.l.length-g.1) (⟨0,by omega⟩) ?_;rintro⟨k,aG⟩ cH;try dsimp only
 apply(q9);refine U ?_ ?_<;>intro bL;·
  have pX:=bJ (l:=m.places.l) (k:=k) default D;have W8:w.places.l[k]?=some (m.places.l.getD k default):=by rw[<-O];exact pX
  refine eP (a8 (bK (fR (bK ?_))));refine gZ N [0,1,2,3,4,5,6,7,8,9,10] _ dO bI hA ?_;apply HQ∘Bi∘HQ∘Bi;refine bE (Cz b0c rfl rfl DO DO rfl) rfl rfl rfl ?_;exact Nd
 apply(PZ);refine dS [(2,.pointer _),(3,.pointer _),(6,.int _ _)] bV λoA=>?_;refine gY ([4,6]++cN 41 18) (λg:{j:Nat//j<=m.aJ.l.length}=>[(6,.int .i64 ((g.1:Nat):Int))]) (λg=>m.aJ.l.length-g.1) (⟨0,by omega⟩) ?_;rintro⟨j,a6⟩ cH;try dsimp only
 apply(q9);refine U ?_ ?_<;>intro dX;·
  have pX:=bJ (l:=m.aJ.l) (k:=j) default D;have W8:w.aJ.l[j]?=some (m.aJ.l.getD j default):=by rw[<-X];exact pX
  refine eP (a8 (bK (fR (bK ?_))));refine gZ N [0,1,2,3,4,5,6,7,8,9,10] _ dO bI hA ?_;apply l1∘aE2∘aHD∘l1∘aE2∘aHD;refine bE (Cz aVw rfl rfl DO DO rfl) rfl rfl rfl ?_;apply(wV);refine U ?_ ?_<;>intro dY;·apply(FV);refine lG L R ?_;exact absurd dY aRW
  apply(mT);exact eO (⟨j+1,by omega⟩)
 exact Ny
def aYR(x y:cL)(L:aR)(R:aO)(K:kU x R)(aS:kU y R)(a5:pN x.held.l)(eV:x.time=y.time)(fN:x.eK=y.eK)(n5:x.held.l=y.held.l)(F7:x.c7.l=y.c7.l)(Ek:x.eG.l=y.eG.l)(b1z:x.aV.l=y.aV.l)(a75:x.cU.aZ.l=y.cU.aZ.l/\x.cU.a2.l=y.cU.a2.l/\x.cU.cB=y.cU.cB)(b1A:x.aD=y.aD)(b1B:x.eQ.l=y.eQ.l)(aLA:x.aK.b0.aC.places.l=y.aK.b0.aC.places.l/\x.aK.b0.aC.aJ.l=y.aK.b0.aC.aJ.l)(b1x:x.aK.a2.l.length=y.aK.a2.l.length)
 (b1:x.aK.b0.aC.places.l.length<=1000/\x.aK.b0.aC.aJ.l.length<=1000):
 aM prog 53 [x.val,y.val].toArray L R (λv E G=>v=.bool true/\L=E/\R=G):=by
 have b3I:=K.held;have a2d:=aS.held;have y8:pN y.held.l:=by rw[<-n5];exact a5
 refine b6 94 call53 func53 rfl rfl rfl ?_;apply(dB);intro eH;apply(iV);intro eS;apply nG∘j8∘j0∘sG;apply iR (Z:=[_,_,_,_,_,_,_]) (j:=5) (a9:=10) rfl rfl aB rfl aY rfl;·intro kL;replace kL:=bB kL;exact(HP∘HP) KV
 intro XC;apply(dE);apply iR (Z:=[_,_,_,_,_,_,_,_,_]) (j:=14) (a9:=19) rfl rfl aB rfl aY rfl;·intro pF;replace pF:=bB pF;apply(HP);refine aI (aG7 N rfl rfl rfl rfl b3I a5) rfl ?_;apply(HP);refine aI (aG7 N rfl rfl rfl rfl a2d y8) rfl ?_;refine aI (b0a N rfl rfl rfl (by rw[n5])) rfl ?_;exact g4
 intro Q4;apply(dE);apply iR (Z:=[_,_,_,_,_]) (j:=25) (a9:=30) rfl rfl aB rfl aY rfl;·intro N4;replace N4:=bB N4;apply(j0);refine cD rfl (aXd x.c7 y.c7 _ _ K.c7 aS.c7 F7) ?_;exact g4
 intro bAq;apply(dE);apply iR (Z:=[_,_,_,_,_]) (j:=32) (a9:=37) rfl rfl aB rfl aY rfl;·intro aMl;replace aMl:=bB aMl;apply(j0);refine cD rfl (aWF x.eG y.eG _ _ K.eG aS.eG Ek) ?_;exact g4
 intro bAs;apply(dE);apply iR (Z:=[_,_,_,_,_]) (j:=39) (a9:=44) rfl rfl aB rfl aY rfl;·intro aMm;replace aMm:=bB aMm;apply(j0);refine cD rfl (aWY x.aV y.aV _ _ K.aV aS.aV b1z) ?_;exact g4
 intro bAv;apply(dE);apply iR (Z:=[_,_,_,_,_]) (j:=46) (a9:=51) rfl rfl aB rfl aY rfl;·intro aMn;replace aMn:=bB aMn;apply e7∘aIf∘e7∘aIf;refine cD rfl (aYp x.cU y.cU _ _ K.cU aS.cU a75.1 a75.2.1 a75.2.2) ?_;exact g4
 intro bAw;apply(dE);apply iR (Z:=[_,_,_,_,_]) (j:=53) (a9:=58) rfl rfl aB rfl aY rfl;·intro aMo;replace aMo:=bB aMo;apply e7∘aKU∘e7∘aKU;refine aI (aKo aYV rfl rfl DO DO rfl) rfl ?_;exact g4
 intro bAx;apply(dE);apply iR (Z:=[_,_,_,_,_]) (j:=60) (a9:=65) rfl rfl aB rfl aY rfl;·intro aMp;replace aMp:=bB aMp;apply(j0);refine cD rfl (aUa x.eQ y.eQ _ _ K.eQ aS.eQ b1B) ?_;exact g4
 intro bAy;apply(dE);apply iR (Z:=[_,_,_,_,_,_,_,_,_]) (j:=67) (a9:=72) rfl rfl aB rfl aY rfl;·
  intro aMq;replace aMq:=bB aMq;iterate 3 apply(e7)
  apply(nZ);iterate 3 apply(e7)
  apply(nZ);refine cD rfl (aX9 x.aK.b0.aC y.aK.b0.aC _ _ K.aK.b0.T1 aS.aK.b0.T1 aLA.1 aLA.2 b1) ?_;exact g4
 intro bAz;apply(dE);apply iR (Z:=[_,_,_,_,_,_,_,_,_]) (j:=78) (a9:=83) rfl rfl aB rfl aY rfl;·intro aMr;replace aMr:=bB aMr;exact(CT∘CT) KV
 intro bAA;apply(uK);refine lG L R ?_;exact⟨by rw[eV,fN,b1A,b1x];simp[z0,Pc],rfl,rfl⟩
def h3.aB7{g:hL}{p:bZ}{x y:cL}{L:aR}{R:aO}(eT:Inv g p)(K:h3 g p x)(aS:h3 g p y)(O:kU x R)(X:kU y R):
 aM prog 53 [x.val,y.val].toArray L R (λv E G=>v=.bool true/\L=E/\R=G):=by have ZV:=(yR eT.b0).aC;have e:=K.aK.trans aS.aK.symm;refine aYR x y L R O X (by rw[K.held];exact eT.held.1) (K.time.trans aS.time.symm) (K.eK.trans aS.eK.symm) (K.held.trans aS.held.symm) (K.c7.trans aS.c7.symm) (K.eG.trans aS.eG.symm) (K.aV.trans aS.aV.symm) ⟨K.Y.trans aS.Y.symm,K.cI.trans aS.cI.symm,K.bX.trans aS.bX.symm⟩ (K.aD.trans aS.aD.symm) (K.eQ.trans aS.eQ.symm) ⟨fX.places e,fX.aJ e⟩ (fX.a2L e) ?_;rw[fX.places K.aK,fX.aJ K.aK];have:=ZV.places;have:=ZV.aJ;omega
end
section
attribute [local irreducible] cQ dF dV aM cP eC e5 e1 e2 e6 eX e4 J.L
def Jz(h:A->B:=by exact aI X1 rfl):=h
def a0h(h:A->B:=by exact kB I1 rfl rfl):=h
def aJl(h:A->B:=by exact kB a4f rfl rfl):=h
def aUf(L:aR)(R:aO):aM prog 51 ([]:List Value).toArray L R (λv E G=>v=.bool true/\L=E/\R=G):=by
 refine b6 62 call51 func51 rfl rfl rfl ?_;apply LA∘j2;refine Qu 1 ?_;apply(eB);refine dT rfl (aDB ⟨none,0,[]⟩ _ _ ⟨aT (.head _),λi q cJ=>by simp at cJ⟩) rfl ?_;rintro v E G ⟨c,rfl,K,rfl,rfl⟩;refine dT rfl (aM.aOv (.a7Z .aD) (aIw c _ 0 _ K (EZ _))) rfl ?_;rintro v E G ⟨_,rfl,s,len,qQ,dG,f,n,g9,rfl,c5,rC,⟨hE,o2⟩,⟨aH,aF,Ev⟩,rfl⟩;refine aI iL rfl ?_;apply(CS);intro gL;apply(dZ);intro eH;apply jZ∘HT;obtain⟨rfl,rfl,rfl,rfl,_⟩:=o2 (EZ _);have sN:∀r∈R,aL r G:=λr M=>Ev r (.tail _ (.tail _ M));obtain⟨A,gE⟩:=aJ9 s.b0.aC;refine tO (E:=⟨eH,f.cells,42⟩::⟨gL,s.cells,38⟩::L) (aCF _ _) eN ?_;have b2:=a6P (f:=f) c5 rC.IR rC.Y rC.cI rC.bX;have eT:=a4v (A:=A) b2 gE;have cJ:=b0B (f:=f) (A:=A) c5 rC.Y rC.cI rC.bX gE;apply(eB);refine aI q1 rfl ?_;refine aI mM rfl ?_;refine dT rfl (aDP s f A _ _ aH aF gE) rfl ?_;rintro v E G ⟨x,sC,rfl,Aq,TW,_,rfl,rfl⟩;rw[b2];have K:=TW b2;refine aI iL rfl ?_;apply(CS);intro eS;apply jZ∘mO;refine aI xR rfl ?_;refine dT rfl (aJt (vJ s f A) (YH s f) x 0 0 2 _ _ eT K Aq) rfl ?_;rintro v E G ⟨y,e3,rfl,aS,iG,rfl,rfl⟩;rw[cJ]at aS|-;refine aI iL rfl ?_;apply(CS);intro gQ;apply jZ∘x2;obtain⟨z,nL,_⟩:=c5.dN;have aNq:x.aV.l=[⟨true,-1,0⟩]:=by rw[K.aV,aHP c5 rC.Y];rfl
 have aBh:y.eQ.l=[⟨2,7,0,20⟩]:=aS.eQ;have EN:x.aV.l.length=1:=by rw[aNq];rfl
 have j1:y.eQ.l.length=1:=by rw[aBh];rfl
 have qD:x.aV.l[0]?=some ⟨true,-1,0⟩:=by rw[aNq];rfl
 have wA:y.eQ.l[0]?=some ⟨2,7,0,20⟩:=by rw[aBh];rfl
 have aBc:=Aq.mono (G:=e3++(sC++G)) λr M=>aT (lZ _ M);have AN:=aBc.aV;have zB:=iG.eQ;have cY:u6 x (e3++(sC++G)):=u6.of eT K aBc.aK aBc.c7;have b3y:(HL x.aK (vJ s f A).b0 x.c7.l x.time).length=1:=by rw[h3.vI K,eT.a78];exact congrArg List.length c5.aJ
 apply tR∘sG;refine HC (k:=25) aY (λfQ=>?_) (λfQ=>?_);·
  replace fQ:=bB fQ;refine kB xS rfl rfl ?_;apply(a0h);refine kB yG rfl rfl ?_;refine kB BA rfl rfl ?_;apply Jz∘dE;refine HC (k:=31) aY (λgH=>?_) (λgH=>?_);·
   replace gH:=bB gH;refine kB xS rfl rfl ?_;apply a0h∘aJl;refine kB Ou rfl rfl ?_;refine kB Cj rfl rfl ?_;apply Jz∘dE;refine HC (k:=38) aY (λvM=>?_) (λvM=>?_);·
    replace vM:=bB vM;refine kB zS rfl rfl ?_;refine kB BA rfl rfl ?_;apply Jz∘dE;refine HC (k:=42) aY (λAR=>?_) (λAR=>?_);·
     replace AR:=bB AR;refine kB xS rfl rfl ?_;apply(a0h);refine kB yG rfl rfl ?_;refine kB BA rfl rfl ?_;apply Jz∘dE;refine HC (k:=48) aY (λN4=>?_) (λN4=>?_);·
      replace N4:=bB N4;refine kB xS rfl rfl ?_;apply a0h∘aJl;refine kB a4c rfl rfl ?_;refine kB (oU (iD:=[(0,(Value.int _ _).cells.toList),(1,(Value.int _ _).cells.toList),(3,(Value.int _ _).cells.toList)]) (dD:=[_,_,_,_]) N rfl rfl rfl rfl) rfl rfl ?_;refine kB (aKo aKQ rfl rfl DO DO rfl) rfl rfl ?_;apply Jz∘dE;refine HC (k:=56) aY (λWM=>?_) (λWM=>?_);·
       replace WM:=bB WM;refine kB xR rfl rfl ?_;refine It rfl (a6y x (vJ s f A).b0 _ _ cY (fX.xA K.aK eT.xA)) rfl rfl ?_;rintro v E G ⟨aA,rfl,gA,rfl,rfl⟩;refine kB yG rfl rfl ?_;refine kB BA rfl rfl ?_;apply Jz∘uK;refine lH (E:=L) (G:=R) (sD rfl RJ) ?aP ?dI ?bO;case aP=>exact⟨by simp[gA,b3y],rfl,rfl⟩
       case dI=>exact bA
       case bO=>exact λr M=>(sN r M).mono λr M=>aT (by simp[M])
      replace WM:=bB WM;exact absurd (show true=false from WM) aW
     replace N4:=bB N4;(first|exact absurd rfl N4|(simp at N4;done)|(simp[EN,j1]at N4;done)|exact absurd aW N4)
    replace AR:=bB AR;(first|exact absurd rfl AR|(simp at AR;done)|(simp[EN,j1]at AR;done)|exact absurd aW AR)
   replace vM:=bB vM;(first|exact absurd rfl vM|(simp at vM;done)|(simp[EN,j1]at vM;done)|exact absurd aW vM)
  replace gH:=bB gH;(first|exact absurd rfl gH|(simp at gH;done)|(simp[EN,j1]at gH;done)|exact absurd aW gH)
 replace fQ:=bB fQ;(first|exact absurd rfl fQ|(simp at fQ;done)|(simp[EN,j1]at fQ;done)|exact absurd aW fQ)
def Jy(h:A->B:=by exact aI xR rfl):=h
structure U8 where
 kind:Int
 n:Int
 m:Int
 l8:Int
 bytes:List Int
structure kC where
 kind:Int
 n:Int
 m:Int
 l8:Int
 bytes:a4 Int
def kC.cells(x:kC):List Value:=[.int .i64 x.kind,.int .i64 x.n,.int .i64 x.m,.int .i64 x.l8,x.bytes.val]
abbrev kC.val(x:kC):Value:=.agg #[.int .i64 x.kind,.int .i64 x.n,.int .i64 x.m,.int .i64 x.l8,x.bytes.val]
def kC.p(x:kC):U8:=⟨x.kind,x.n,x.m,x.l8,x.bytes.l⟩
instance:Inhabited kC:=⟨⟨0,0,0,0,⟨none,0,[]⟩⟩⟩
instance:Inhabited U8:=⟨⟨0,0,0,0,[]⟩⟩
structure Ov(a:U8):Prop where
 n:-1000<=a.n/\a.n<=1000
 m:-1000<=a.m/\a.m<=1000
 l8:-2147483648<=a.l8/\a.l8<=2147483648
 bytes:pN a.bytes
 len:a.bytes.length<=100000
def BT(a:U8):Prop:=a.kind=0\/a.kind=1\/a.kind=2
instance(a:U8):Decidable (BT a):=by unfold BT;infer_instance
def aEn{a:U8}(b2:¬a.kind=0)(O:¬a.kind=1):decide (a.kind=2)=decide (BT a):=by
 rcases DM (a.kind=2)with h|h;·rw[decide_eq_true h,decide_eq_true (p:=BT a) (.inr (.inr h))]
 ·rw[decide_eq_false h,decide_eq_false (p:=BT a) (by unfold BT;omega)]
def q4(g:hL)(p:bZ)(a:U8):bZ×Int:=
 if BT a then FD g p a.bytes (p.time+a.l8)
 else if a.kind=3 then AF g p a.n (a.m-1) (p.time+a.l8)
 else if a.kind=4 then x0 g p a.n a.m (p.time+a.l8)
 else if a.kind=5 then z1 g p a.n (p.time+a.l8)
 else if a.kind=6 then zU g p (p.time+a.l8)
 else FC g p (p.time+a.l8)
def Inv.done{g:hL}{p:bZ}(h:Inv g p){a:U8}(bT:Ov a):Inv g (q4 g p a).1:=by
 rw[q4];split;·exact h.b1J bT.bytes _
 split;·exact h.b09 _ _ _
 split;·exact h.b1c _ _ _
 split;·exact h.b1t _ _
 split;·exact h.close _
 ·exact h.b7b _
def aWG(g:hL)(p:bZ)(x:cL)(a:kC)(L:aR)(R:aO)(eT:Inv g p)(K:h3 g p x)(bO:kU x R)(N1:aL (gX a.bytes) R)(bT:Ov a.p)(QK:0<=p.eK/\p.eK<=1152921504606846976):
 aM prog 62 [x.val,a.val].toArray L R (Dv g (q4 g p a.p) L R):=by
 have r2:=eT.time;have LZ:=K.time;have dH:-2147483648<=a.l8/\a.l8<=2147483648:=bT.l8;have a3:-1000<=a.m/\a.m<=1000:=bT.m;have b2B:a.p.kind=a.kind:=rfl;refine b6 69 call62 func62 rfl rfl rfl ?_;apply(dB);intro eH;apply(iV);intro eS;apply(dZ);intro eD;apply mO∘j0∘k3∘LH;refine eZ (a8 (fR (bK (bK (c2 ?_)))));apply(vX);refine F3 [14,16,17] ((⟨λq=>[(14,.bool q.1)],λ_=>⟨eD,uD.cells,54⟩::⟨eS,a.cells,144⟩::⟨eH,x.cells,54⟩::L,λ_=>R,λ_=>0⟩:fB {b:Bool//b=decide (BT a.p)})) ?_ ?_;·
  skip
  refine U ?_ ?_<;>intro aQ;·refine eP ?_;exact wU ⟨decide (a.kind=0),by rw[decide_eq_true aQ];exact(decide_eq_true (p:=BT a.p) (.inl aQ)).symm⟩
  apply(oI);refine U ?_ ?_<;>intro bL;·refine eP ?_;exact wU ⟨decide (a.kind=1),by rw[decide_eq_true bL];exact(decide_eq_true (p:=BT a.p) (.inr (.inl bL))).symm⟩
  apply eB∘XJ∘nG∘DI;exact wU ⟨decide (a.kind=2),aEn (a:=a.p) aQ bL⟩
 rintro⟨a7X,TE⟩ cH;try dsimp only
 have b5U:((BT a.p:Prop)↔a7X=true):=by rw[TE];simp
 refine U ?_ ?_<;>intro cC;·
  have uV:BT a.p:=by simpa[TE]using cC
  have nD:q4 g p a.p=FD g p a.bytes.l (x.time+a.l8):=by rw[q4,if_pos uV,LZ];rfl
  apply dC∘Jy∘gK;refine dT rfl (aZq g p x a.bytes (x.time+a.l8) _ _ eT K bO N1 bT.bytes bT.len QK) rfl ?_;exact Wy
 have uV:¬BT a.p:=by simpa[TE]using cC
 apply(oI);refine U ?_ ?_<;>intro dX;·
  have nD:q4 g p a.p=AF g p a.n (a.m-1) (x.time+a.l8):=by rw[q4,if_neg uV,if_pos (show a.p.kind=3 from dX),LZ];rfl
  apply dC∘Jy∘j0∘j3∘cE;refine dT rfl (aVv g p x a.n (a.m-1) (x.time+a.l8) _ _ eT K bO) rfl ?_;exact Wy
 apply(oI);refine U ?_ ?_<;>intro dY;·
  have nD:q4 g p a.p=x0 g p a.n a.m (x.time+a.l8):=by rw[q4,if_neg uV,if_neg a3K,if_pos (show a.p.kind=4 from dY),LZ];rfl
  apply dC∘Jy∘fD∘gK;refine dT rfl (aJt g p x a.n a.m (x.time+a.l8) _ _ eT K bO) rfl ?_;exact Wy
 apply(oI);refine U ?_ ?_<;>intro h1;·
  have nD:q4 g p a.p=z1 g p a.n (x.time+a.l8):=by rw[q4,if_neg uV,if_neg a3K,if_neg (show¬a.p.kind=4 from dY),if_pos (show a.p.kind=5 from h1),LZ];rfl
  apply dC∘Jy∘gK;refine dT rfl (aYr g p x a.n (x.time+a.l8) _ _ eT K bO) rfl ?_;exact Wy
 apply(oI);refine U ?_ ?_<;>intro h2;·
  have nD:q4 g p a.p=zU g p (x.time+a.l8):=by rw[q4,if_neg uV,if_neg a3K,if_neg (show¬a.p.kind=4 from dY),if_neg (show¬a.p.kind=5 from h1),if_pos (show a.p.kind=6 from h2),LZ];rfl
  apply dC∘Jy∘cE;refine dT rfl (aWn g p x (x.time+a.l8) _ _ eT K bO) rfl ?_;exact Wy
 have nD:q4 g p a.p=FC g p (x.time+a.l8):=by rw[q4,if_neg uV,if_neg a3K,if_neg (show¬a.p.kind=4 from dY),if_neg (show¬a.p.kind=5 from h1),if_neg (show¬a.p.kind=6 from h2),LZ];rfl
 refine eP (hI (a8 (bK (c2 ?_))));apply Jy∘cE;refine dT rfl (aZC g p x (x.time+a.l8) _ _ eT K bO) rfl ?_;rintro v E G ⟨y,S,rfl,aS,iG,rfl,rfl⟩;apply CO∘oH;refine bQ L (S++R) oC ?_;exact⟨y,S,by rw[nD],by rw[nD];exact aS,iG,rfl,rfl⟩
end
end Go.Proofs.YtchfclmokpbldaaGreat
