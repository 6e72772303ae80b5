/-
  Merged texts. By an AI agent.
-/
import Derived.Test.YtdiajbdaadlfhaaGreatDoorReadW
import Derived.Test.YtdiajbdaadlfhaaGreatDoorCircR
import Derived.Test.YtdiajbdaadlfhaaGreatDoorCongrS
import Derived.Test.YtdiajbdaadlfhaaGreatDoorLaw11b
import Derived.Test.YtdiajbdaadlfhaaGreatDoorLinW
import Derived.Test.YtdiajbdaadlfhaaGreatDoorFits
import Derived.Test.YtdiajbdaadlfhaaGreatDoorSiteD
import Derived.Test.YtdiajbdaadlfhaaGreatDoorStaC
import Derived.Test.YtdiajbdaadlfhaaGreatDoorRestN
import Derived.Test.YtdiajbdaadlfhaaGreatDoorStrB
import Derived.Test.YtdiajbdaadlfhaaGreatDoorStaA
set_option linter.all false
set_option maxHeartbeats 4000000
set_option maxRecDepth 20000
variable{A B:Prop}
namespace Go.Proofs.YtdiajbdaadlfhaaGreatDoor
open Go.Aw Go Go.Proofs.Tryz
section
attribute [local irreducible] cO dG dP aM cI dR fA e2 e5 fB eQ e9 J.L
def a0q(h:A->B:=by exact aA (aHe rfl rfl kM kM) rfl):=h
def aTV(es:List eO)(m:Int)(L:aW)(R:aP)(aZ:∀e∈es,wB e)(bA:es.length<=400)(b3:uN m∈L):
 aM prog 31 [sv (wH es)].toArray L R (λv E R'=>∃q:J eO,v=.tuple #[q.val,.int .i64 0,.int .i64 0]/\q.ok 16 eO.cells/\q.l=es/\q.L 55 eO.cells++L=E/\R=R'):=by
 have l2:=aV6 aZ;have yJ:=aYa (es:=es);have yH:∀k,(k0 (es.take k)).length<=(k0 es).length:=λk=>by have h:=a5I (es.take k) (es.drop k);rw[List.take_append_drop]at h;rw[h,hL];omega
 refine cX 87 call31 func31 rfl rfl rfl ?_;apply C9∘eA∘kB;refine aA m8 rfl ?_;refine aA NS rfl ?_;apply(y8);refine aJ ?_ ?_<;>intro bI;·
  apply C9∘eA∘uG;refine kN (E:=L) (R':=R) Wy ?aG ?b3 ?b8;case aG=>exact absurd bI D
  case b3=>exact bC
  case b8=>exact λr O=>aU sF
 apply gI∘tH∘p5∘pR;refine e3 [(0,.string _),(5,.slice _ _ _),(6,.int _ _),(7,.int _ _)] cB λg9=>?_;refine oM (dJ 2 14++dJ 19 68) ((⟨λg=>[(5,g.1.2.val),(6,.int .i64 (((k0 (es.take g.1.1)).length:Nat):Int)),(7,.int .i64 ((g.1.1:Int)+1))],λg=>g.1.2.L 55 eO.cells++L,λ_=>R,λg=>es.length-g.1.1⟩:e0 {g:Nat×J eO//g.1<=es.length/\g.2.ok 16 eO.cells/\g.2.l=es.take g.1})) (⟨(0,J.nil),rW _,J.iJ,rfl⟩) cB JB eX ?_;rintro⟨⟨k,q⟩,Y,g7,eZ⟩ c1;try dsimp only
 dsimp only at Y g7 eZ;have b8V:=yH k;obtain⟨W0,tW,b2b,b9o,fZ,ws,cE,aLN⟩:=aTq Y aZ;have yK:q.l.length=k:=by rw[eZ,HS];omega
 refine cC (iH (cC (dM ?_)));refine aA m8 rfl ?_;apply(cJ);refine aA (aRt M rfl rfl rfl D D) rfl ?_;refine eD rfl (aVV ((wH es).drop (k0 (es.take k)).length) [10] m _ _ a4K Ni) ?_;rw[b2b];refine aA jE rfl ?_;iterate 3 apply(A8)
 refine aA pX rfl ?_;refine aA pX rfl ?_;apply xF∘J5;refine CT rfl ?_;apply(k5);refine aA m8 rfl ?_;refine dN rfl (aJR W0 m _ _ D Ni) rfl ?_;rintro v E R' ⟨x,rfl,K,rfl,rfl⟩;rw[cE]at K;have zU:aN (s2 x) (s2 x::R):=aU (.head _);have PQ:x.l[0]?=some fZ:=by rw[K];rfl
 have xY:x.l.length=ws.length+1:=by rw[K];rfl
 apply tH∘gQ∘OJ;refine aA CQ rfl ?_;apply(dD);refine aJ ?_ ?_<;>intro dE;·
  obtain⟨rfl,rfl,rfl,rfl⟩:fZ=At/\k=es.length/\W0=y3 es/\ws=[Lib.itoa (C1 (k0 es))]:=by
   rcases aLN with h|⟨h,_⟩;·exact h
   ·exact absurd dE h
  have bAh:x.l.length=2:=xY;refine cC ?_;refine Jf zU λG9=>?_;refine UE (m:=1) zU aX D aX ?_;apply(vE);refine aA aCj rfl ?_;refine dN rfl (Qd (m1 x 1 1) [C1 (k0 es)] _ _ mL aCt (λn bA=>by have:=a1k (k0 es);rw[List.mem_singleton.1 bA];constructor<;>omega) eY) rfl ?_;rintro v E R' ⟨p,rfl,iN,dC,rfl,rfl⟩;refine aA jE rfl ?_;apply C8∘xF∘J5;refine CT rfl ?_;refine gG (bY (cC (cC ?_)));have b9K:p.l.length=1:=by rw[dC];rfl
  have i1:p.l[0]?=some (C1 (k0 es)):=by rw[dC];rfl
  have Us:(wH es).take (k0 (es.take es.length)).length=k0 es:=by rw[BB];exact aRp
  refine jR M [0,1,2,3,4,5,6,7] (p.L 3 aR++[]) mixed aQ bC ?_;refine b7 qX rfl rfl rfl ?_;refine b7 Xp rfl rfl rfl ?_;refine b7 QF rfl rfl rfl ?_;refine b7 m8 rfl rfl rfl ?_;apply(j7);refine b7 (aVL M rfl rfl rfl D D) rfl rfl rfl ?_;refine xZ rfl (aFM ((wH es).take (k0 (es.take es.length)).length) _ _ (by rw[Us];omega)) ?_;rw[Us];refine b7 X1 rfl rfl rfl ?_;apply(A9);refine aJ ?_ ?_<;>intro fW;·
   apply OA∘kS∘LQ;refine eS (bY (mE (i7 (i7 (lO (i7 (E1 (lO ?_))))))));refine kN (E:=L) (R':=R) Wy ?aG ?b3 ?b8;case aG=>exact absurd trivial fW
   case b3=>exact bC
   case b8=>exact λr O=>aU sF
  apply(FC);refine aA m8 rfl ?_;refine aA NS rfl ?_;apply a0q∘a0q;refine aA m8 rfl ?_;refine aA NS rfl ?_;apply(nD);refine aJ ?_ ?_<;>intro lJ;·
   apply eV∘Y4∘kS∘LQ;refine eS (bY (mE (i7 (i7 (lO (i7 (E1 (lO ?_))))))));refine kN (E:=L) (R':=R) Wy ?aG ?b3 ?b8;case aG=>exfalso;rw[BB]at lJ;omega
   case b3=>exact bC
   case b8=>exact λr O=>aU sF
  apply OI∘kS∘LQ;refine eS (bY (mE (i7 (lO (i7 (E1 (lO ?_)))))));refine kN (E:=q.L 55 eO.cells++L) (R':=R) Wy ?aG ?b3 ?b8;case aG=>exact⟨q,rfl,g7,by rw[eZ,BB],rfl,rfl⟩
  case b3=>exact bC
  case b8=>exact λr O=>aU sF
 obtain⟨e,bE,rfl⟩:∃e,es[k]?=some e/\W0=p7 e:=by
  rcases aLN with⟨h,_⟩|⟨_,h⟩;·exact absurd h dE
  ·exact h
 have yI:=aZ _ (hS bE);have b2Y:=(List.getElem?_eq_some_iff.1 bE).1;have b1N:=aJh bE;have b1O:=congrArg List.length b1N;rw[hL,hL,rE]at b1O;apply(gI);refine aA m8 rfl ?_;refine eD rfl (aSc e m _ _ yI Ni) ?_;refine aA jE rfl ?_;apply(OG);intro wL;apply l5∘xF∘J5;refine CT rfl ?_;apply FC∘y8;refine aJ ?_ ?_<;>intro qM;·
  apply OA∘kS∘LQ;refine eS (bY (mE (i7 (lO (i7 (E1 (lO ?_)))))));refine kN (E:=L) (R':=R) Wy ?aG ?b3 ?b8;case aG=>exact absurd qM D
  case b3=>exact bC
  case b8=>exact λr O=>aU sF
 apply(OI);refine aA Bc rfl ?_;refine g2 aPI rfl ?_;rintro v E R' ⟨b8a,rfl,rfl,a9a⟩;replace a9a:=a9a.symm;subst a9a;refine g2 (jZ (f:=eO.cells) (p:=q) (a:=e) M rfl rfl rfl rfl (g7) cL j8 rfl kG) rfl ?_;rintro v E R' ⟨b6e,rfl,b3O,rfl,rfl⟩;apply(kS);refine eS (bY (dM ?_));apply(cJ);refine aA m8 rfl ?_;refine aA NS rfl ?_;apply a0q∘a0q∘eA∘Y5;exact lP ⟨(k+1,⟨b6e,q.l++[e]⟩),by dsimp only;omega,b3O,by dsimp only;rw[eZ,BA,bE];rfl⟩ hM ⟨rfl,congrArg (Value.int _) kM,congrArg (Value.int _) kM,trivial⟩ bC (λr O=>aU (.tail _ O)) kM
def aDz(uW:eC)(es:List eO)(m:Int)(L:aW)(R:aP)(a1:oY uW R)(bM:uW.places.l.length<=64/\uW.Z.l.length<=128)(aZ:∀e∈es,wB e)(bA:es.length<=400)(b3:uN m∈L):
 aM prog 8 [uW.val,sv (wH es)].toArray L R (λw E R'=>∃(o8:eC) (S:aP),w=.tuple #[o8.val,.int .i64 (tL uW.places.l uW.Z.l 0 es).2.1,.int .i64 (tL uW.places.l uW.Z.l 0 es).2.2]/\oY o8 (S++R)/\(o8.places.l,o8.Z.l)=(tL uW.places.l uW.Z.l 0 es).1/\L=E/\S++R=R'):=by
 refine cX 36 call8 func8 rfl rfl rfl ?_;apply(fC);intro eN;apply(dO);intro dU;apply eA∘p5;refine aA m8 rfl ?_;refine dN rfl (aTV es m _ _ aZ bA Ni) rfl ?_;rintro v E R' ⟨q,rfl,g7,eZ,rfl,rfl⟩;refine aA jE rfl ?_;iterate 3 apply(A8)
 apply kS∘eA∘FA∘pG;refine CT rfl ?_;apply(CI);refine rY (A:=[]) (aI:=16) [] bH aX g7 eW ?_;apply DX∘e1∘lG∘gQ;refine dN rfl (aXc uW q.W _ _ ⟨a1.places.mono λr O=>aU (.tail _ O),a1.Z.mono λr O=>aU (.tail _ O)⟩ mL bM) rfl ?_;rintro v E R' ⟨PT,eF,rfl,M0,hD,rfl,rfl⟩;have hD:(PT.places.l,PT.Z.l)=(tL uW.places.l uW.Z.l 0 es).1:=by rw[hD,<-eZ]
 iterate 3 apply(A8)
 apply E7∘sO;refine cF L _ (Bs rfl QA rG rG) ?_;exact⟨PT,eF++[Jm q.W],by rw[<-eZ],by rw[kF];exact M0,hD,rfl,by rw[kF];rfl⟩
def aWy(x y:bP Int)(L:aW)(R:aP)(K:aN (dW x) R)(bB:aN (dW y) R)(bA:x.l.length<=1000):
 aM prog 74 [x.val,y.val].toArray L R (λv E R'=>∃p:J Int,v=p.val/\p.ok 1 aR/\p.l=yA x.l y.l/\p.L 3 aR++L=E/\R=R'):=by
 refine cX 24 call74 func74 rfl rfl rfl ?_;apply eV∘tH∘r2∘r3;refine e3 [(1,.slice _ _ _),(5,.slice _ _ _),(8,.slice _ _ _),(9,.int _ _),(10,.int _ _)] cB λg9=>?_;refine oM ([5,7]++dJ 10 13) ((⟨λg=>[(10,.int .i64 ((g.1.1:Nat):Int)),(5,g.1.2.val)],λg=>g.1.2.L 3 aR++L,λ_=>R,λg=>x.l.length-g.1.1⟩:e0 {g:Nat×J Int//g.1<=x.l.length/\g.2.ok 1 aR/\g.2.l=yA (x.l.take g.1) y.l})) (⟨(0,J.nil),by dsimp only;omega,J.iJ,by rfl⟩) cB JB eX ?_;rintro⟨⟨k,p⟩,pN,fJ,jH⟩ c1;try dsimp only
 dsimp only at pN fJ jH;have dC:=aFT (x.l.take k) y.l;rw[<-jH,HS]at dC;apply(gU);refine aJ ?_ ?_<;>intro bI;·
  have bE:=bR (l:=x.l) (k:=k) 0 D;apply(jK);refine aA rF rfl ?_;apply U3∘k2;refine eD rfl (aJj y (x.l.getD k 0) _ _ bB) ?_;apply(AJ);refine aJ ?_ ?_<;>intro cK;·apply y6∘w1;rintro v E R' ⟨vI,rfl,rfl,G4⟩;replace G4:=G4.symm;subst G4;refine g2 (jZ (f:=aR) (p:=p) (a:=x.l.getD k 0) M rfl rfl rfl rfl (fJ) cL j8 rfl kG) rfl ?_;rintro v E R' ⟨aBa,rfl,a96,rfl,rfl⟩;apply(LO);exact eG ⟨(k+1,(⟨aBa,_⟩:J Int)),by dsimp only;omega,a96,by dsimp only;rw[aSk bE cK,jH]⟩
  apply(k9);exact eG ⟨(k+1,p),by dsimp only;omega,fJ,by dsimp only;rw[aR3 bE cK,jH]⟩
 obtain rfl:k=x.l.length:=by omega
 rw[BB]at jH;apply(R2);refine cF (p.L 3 aR++L) R BH ?_;exact⟨p,rfl,fJ,jH,rfl,rfl⟩
def aFj{A:aW}{R:aP}{p q:J Int}(aG:pA (p.L 3 aR) A)(bZ:pA (q.L 3 aR) A)(PV:p.ok 1 aR)(Fw:q.ok 1 aR)(bA:p.l.length<=1000):
 aM prog 74 [p.val,q.val].toArray A R (λv E R'=>∃z:J Int,v=z.val/\z.ok 1 aR/\z.l=yA p.l q.l/\z.L 3 aR++A=E/\R=R'):=by
 have h:=aWy p.W q.W [] ([dW p.W,dW q.W]++R) mL QH bA;have U:=aM.TB (S:=[dW p.W,dW q.W]) (Post:=λv E=>∃z:J Int,v=z.val/\z.ok 1 aR/\z.l=yA p.l q.l/\z.L 3 aR++[]=E) (nA.aC (L:=A)) (λw aD bF s aF=>by
  simp only[nX,pO,or_false]at aF;rcases aF with rfl|rfl;·exact wD bF aG PV bH aX eW
  ·exact wD bF bZ Fw bH aX eW) (h.mono λv E R' ⟨z,hO,a2,a3,a4,a5⟩=>⟨⟨z,hO,a2,a3,a4⟩,a5⟩)
 exact aM.aBq U λv hA R' ⟨E,e,⟨z,hO,a2,a3,a4⟩,a5⟩=>⟨z.L 3 aR++A,by rw[<-e,<-a4,rV];exact Gj,z,hO,a2,a3,rfl,a5⟩
structure rJ where
 t:J Int
 s:J Int
 c:J Int
 l:J Int
abbrev rJ.val(v:rJ):Value:=.agg #[v.t.val,v.s.val,v.c.val,v.l.val]
def rJ.get(v:rJ):a0A:=⟨v.t.l,v.s.l,v.c.l,v.l.l⟩
structure rJ.YR(v:rJ):Prop where
 t:v.t.ok 1 aR
 s:v.s.ok 1 aR
 c:v.c.ok 1 aR
 l:v.l.ok 1 aR
abbrev rJ.L(v:rJ)(X:aW):aW:=v.l.L 3 aR++(v.c.L 3 aR++(v.s.L 3 aR++(v.t.L 3 aR++X)))
abbrev rJ.nil:rJ:=⟨.nil,.nil,.nil,.nil⟩
def rJ.iJ:rJ.nil.YR:=⟨J.iJ,J.iJ,J.iJ,J.iJ⟩
def rJ.a5O{X:aW}:rJ.nil.L X=X:=by simp only[rJ.L,pC,nJ]
def aFs{P:Nat->Bool}{k:Nat}(h:P k=true):HY P (k+1)=HY P k++[(k:Int)]:=by rw[HY,if_pos h]
def aJP{P:Nat->Bool}{k:Nat}(h:P k=false):HY P (k+1)=HY P k:=by rw[HY,if_neg (by rw[h];decide)]
def Yb(h:A->B:=by exact fE TX rfl rfl rfl rfl):=h
def aKe(h:A->B:=by exact aA Xk rfl):=h
def aFx{fl tP:List bG}{i:Nat}:Nx fl tP i=true↔AO (fl.getD i default)≠0/\AO (tP.getD i default)≠AO (fl.getD i default):=by simp only[Nx,lY,decide_eq_true_eq]
def aGD{fl tP:List bG}{iW:List BO}{i:Nat}:Rg fl tP iW i=true↔(YH fl iW).getD i 0=1/\(YH tP iW).getD i 0≠1:=by simp only[Rg,lY,decide_eq_true_eq]
def aFt{b:Bool}(h:¬b=true):b=false:=by cases b<;>simp_all
def a0k{m:eC}{A a4N:List Bool}(h:mU m A)(cD:mU m a4N):z7 a4N m.places.l.length=z7 A m.places.l.length:=by rw[h.XM cD]
def aSi(HL KP:eC)(fl tP:bP bG)(iW:bP BO)(A B:List Bool)(JD JE:List Int)(L:aW)(R:aP)(bX:oY HL R)(aT:oY KP R)(iF:aN (wG fl) R)(Ku:aN (wG tP) R)(Tl:aN (Om iW) R)
 (aAK:iB HL=0) (aAL:iB KP=0) (S0:fl.l.length=HL.Z.l.length) (b3n:tP.l.length=KP.Z.l.length) (yI:HL.Z.l.length<=KP.Z.l.length) (a2z:a6O iW.l) (a2y:iW.l.length<=1000) (hD:mU HL A) (qK:mU KP B) (a8x:EF HL fl.l JD) (a1U:EF KP tP.l JE):
 aM prog 40 [HL.val,fl.val,KP.val,tP.val,iW.val].toArray L R (λw E R'=>∃p:rJ,w=p.val/\p.YR/\p.get=a7c HL fl.l KP tP.l iW.l A B JD JE/\p.L L=E/\R=R'):=by
 have Uk:=R8 aAK;have Lb:=R8 aAL;have aMK:=Uk.Z;have Z7:=Lb.Z;have Ey:=Uk.places;have WH:=Lb.places;have jO:=a1U.len;have qN:=Ro B KP.places.l.length;refine cX 91 call40 func40 rfl rfl rfl ?_;apply(fC);intro fK;apply(nW);intro lT;apply(dO);intro lI;apply iG∘dO;intro GY;apply mY∘pE;refine e3 [(1,.slice _ _ _),(3,.slice _ _ _),(4,.slice _ _ _),(5,.pointer _),(7,.pointer _),(10,.pointer _),(11,.pointer _),(19,.int _ _),(20,.int _ _)] cB λg9=>?_;refine oM ([12,13]++dJ 20 26) ((⟨λg=>[(20,.int .i64 ((g.1.1:Nat):Int))],λg=>g.1.2.L 3 aR++(⟨GY,[g.1.2.val,Value.slice none 0 0,Value.slice none 0 0,Value.slice none 0 0],64⟩::⟨lI,[Value.slice none 0 0,Value.slice none 0 0,Value.slice none 0 0,Value.slice none 0 0],64⟩::⟨lT,KP.cells,28⟩::⟨fK,HL.cells,28⟩::L),λ_=>R,λg=>HL.Z.l.length-g.1.1⟩:e0 {g:Nat×J Int//g.1<=HL.Z.l.length/\g.2.ok 1 aR/\g.2.l=HY (Nx fl.l tP.l) g.1})) (⟨(0,J.nil),by dsimp only;omega,J.iJ,rfl⟩) cB JB eX ?_;rintro⟨⟨i,p⟩,pN,fJ,jH⟩ c1;try dsimp only
 dsimp only at pN fJ jH;have dC:=a7v (P:=Nx fl.l tP.l) i;rw[<-jH]at dC;apply(gU);refine aJ ?_ ?_<;>intro bI;·
  have V9:=bR (l:=fl.l) (k:=i) default D;have j3:=bR (l:=tP.l) (k:=i) default D;apply nC∘p5∘k2∘aKe∘aBw;refine eD rfl (a7z (fl.l.getD i default) _ _) ?_;apply q4∘vC;apply lR (aD:=[_,_,_,_,_,_,_]) (j:=2) (b4:=30) rfl rfl aK rfl b2 rfl;·intro iM;replace iM:=cP iM;apply k2∘aKe∘aBw;refine eD rfl (a7z (tP.l.getD i default) _ _) ?_;exact(cJ) v6
  intro o7;apply(dD);refine aJ ?_ ?_<;>intro cK;·apply e1∘h1∘w1;rintro v E R' ⟨aKw,rfl,rfl,PE⟩;replace PE:=PE.symm;subst PE;refine g2 (jZ (f:=aR) (p:=p) (a:=(i:Int)) M rfl rfl rfl rfl (fJ) cL j8 rfl kG) rfl ?_;rintro v E R' ⟨Vk,rfl,Ui,rfl,rfl⟩;apply q6∘tF;exact eG ⟨(i+1,(⟨Vk,_⟩:J Int)),by dsimp only;omega,Ui,by dsimp only;rw[aFs (aFx.2 cK),jH]⟩
  apply(k9);exact eG ⟨(i+1,p),by dsimp only;omega,fJ,by dsimp only;rw[aJP (aFt λh=>by have:=aFx.1 h;omega),jH]⟩
 obtain rfl:i=HL.Z.l.length:=by omega
 apply UX∘gQ;refine dN rfl (a7Q fl iW _ _ iF Tl a2z a2y D) rfl ?_;rintro v E R' ⟨vW,rfl,aMC,WB,rfl,rfl⟩;apply gQ∘gQ;refine dN rfl (a7Q tP iW _ _ Ku Tl a2z a2y D) rfl ?_;rintro v E R' ⟨gP,rfl,aMD,Z1,rfl,rfl⟩;have FT:vW.l.length=iW.l.length:=by rw[WB];simp[YH]
 have A1:gP.l.length=iW.l.length:=by rw[Z1];simp[YH]
 apply kS∘r2∘r3;refine e3 [(1,.slice _ _ _),(3,.slice _ _ _),(5,.pointer _),(7,.pointer _),(10,.pointer _),(11,.pointer _),(14,.slice _ _ _),(15,.slice _ _ _),(53,.int _ _),(54,.int _ _)] cB λs4=>?_;refine oM ([16]++dJ 54 22) ((⟨λg=>[(54,.int .i64 ((g.1.1:Nat):Int))],λg=>g.1.2.L 3 aR++(gP.L 3 aR++(vW.L 3 aR++(p.L 3 aR++(⟨GY,[p.val,g.1.2.val,Value.slice none 0 0,Value.slice none 0 0],64⟩::⟨lI,[Value.slice none 0 0,Value.slice none 0 0,Value.slice none 0 0,Value.slice none 0 0],64⟩::⟨lT,KP.cells,28⟩::⟨fK,HL.cells,28⟩::L)))),λ_=>R,λg=>iW.l.length-g.1.1⟩:e0 {g:Nat×J Int//g.1<=iW.l.length/\g.2.ok 1 aR/\g.2.l=HY (Rg fl.l tP.l iW.l) g.1})) (⟨(0,J.nil),by dsimp only;omega,J.iJ,rfl⟩) cB JB eX ?_;rintro⟨⟨j,q⟩,b6R,v2,v3⟩ c1;try dsimp only
 dsimp only at b6R v2 v3;have eZ:=a7v (P:=Rg fl.l tP.l iW.l) j;rw[<-v3]at eZ;apply(gU);refine aJ ?_ ?_<;>intro dE;·
  have V9:=bR (l:=vW.l) (k:=j) 0 D;have j3:=bR (l:=gP.l) (k:=j) 0 D;apply nC∘p5∘k2;refine aA (iV M (vW) _ rfl rfl rfl rfl bS (i:=j) c7 iY) rfl ?_;refine aA (rX M (vW) rfl rfl rfl cL bS bH bS aK) rfl ?_;apply(BQ);apply lR (aD:=[_,_,_,_,_]) (j:=5) (b4:=62) rfl rfl aK rfl b2 rfl;·intro xS;replace xS:=cP xS;apply(k2);refine aA (iV M (gP) _ rfl rfl rfl rfl bS (i:=j) c7 iY) rfl ?_;refine aA (rX M (gP) rfl rfl rfl cL bS bH bS aK) rfl ?_;exact v6
  intro a28;apply(dD);refine aJ ?_ ?_<;>intro gZ;·apply e1∘h1∘w1;rintro v E R' ⟨aZ4,rfl,rfl,Dy⟩;replace Dy:=Dy.symm;subst Dy;refine g2 (jZ (f:=aR) (p:=q) (a:=(j:Int)) M rfl rfl rfl rfl (v2) cL j8 rfl kG) rfl ?_;rintro v E R' ⟨aBf,rfl,aAc,rfl,rfl⟩;apply q6∘tF;exact eG ⟨(j+1,(⟨aBf,_⟩:J Int)),by dsimp only;omega,aAc,by dsimp only;rw[aFs (aGD.2 (by rw[<-WB,<-Z1];exact gZ)),v3]⟩
  apply(k9);exact eG ⟨(j+1,q),by dsimp only;omega,v2,by dsimp only;rw[aJP (aFt λh=>by have cD:=aGD.1 h;rw[<-WB,<-Z1]at cD;omega),v3]⟩
 obtain rfl:j=iW.l.length:=by omega
 apply(ND);refine jV M [] [0,1,3,4,2,5,6,7] [8] ([bQ.mk lT _ _,bQ.mk fK _ _]) _ mixed aQ bC aQc ?_;apply Yb∘XF∘Yb∘XF;refine mW rfl (aGF KP tP _ _ aT Ku aAL b3n) rfl rfl ?_;rintro v E R' ⟨wN,pD,rfl,b1P,b0T,rfl,rfl⟩;refine⟨bC,hC,?_⟩;have oP:∀r∈R,aN r (pD++R):=λr O=>aU sF;refine mW rfl (aGF HL fl _ _ ⟨bX.places.mono oP,bX.Z.mono oP⟩ (iF.mono oP) aAK S0) rfl rfl ?_;rintro v E R' ⟨jS,eF,rfl,Ti,b0U,rfl,rfl⟩;refine⟨bC,hC,?_⟩;have dH:=b0T.XM a1U;have eH:=b0U.XM a8x;refine mW rfl (aFj (A:=_) BD BD b1P Ti (by rw[dH];omega)) rfl rfl ?_;rintro v E R' ⟨aKA,rfl,b1Q,b0V,rfl,rfl⟩;refine⟨bC,hC,?_⟩;apply LR∘Ao∘KU;have nG:∀r∈R,aN r (eF++(pD++R)):=λr O=>aU sF;refine jV M [] [0,2,1,3,4,5] [6] ([bQ.mk lT _ _,bQ.mk fK _ _]) _ mixed aQ bC aQc ?_;apply Yb∘Yb;refine mW rfl (Qt KP _ _ ⟨aT.places.mono nG,aT.Z.mono nG⟩ Lb aAL) rfl rfl ?_;rintro v E R' ⟨VN,aC9,Zm,rfl,b2c,b0N,a8y,rfl,rfl⟩;refine⟨bC,hC,?_⟩;have G5:∀r∈R,aN r (Zm++(eF++(pD++R))):=λr O=>aU sF;refine mW rfl (Qt HL _ _ ⟨bX.places.mono G5,bX.Z.mono G5⟩ Uk aAK) rfl rfl ?_;rintro v E R' ⟨Si,a4N,aTl,rfl,b2d,b0K,FI,rfl,rfl⟩;refine⟨bC,hC,?_⟩;rw[a0k qK b0N]at a8y;rw[a0k hD b0K]at FI;refine mW rfl (aFj (A:=_) BD BD b2c b2d (by rw[a8y];omega)) rfl rfl ?_;rintro v E R' ⟨Sj,rfl,b2e,b0Z,rfl,rfl⟩;refine⟨bC,hC,?_⟩;apply LR∘Ao;refine jI (bY (cC (dM ?_)));apply vX∘y5;refine kN (E:=rJ.L ⟨p,q,aKA,Sj⟩ L) (R':=R) (qI rfl a4p) ?aG ?b3 ?b8;case aG=>exact⟨⟨p,q,aKA,Sj⟩,rfl,⟨fJ,v2,b1Q,b2e⟩,by rw[rJ.get,a7c];dsimp only;rw[jH,v3,b0V,b0Z,dH,eH,a8y,FI],rfl,rfl⟩
 case b3=>exact bC
 case b8=>exact λr O=>aU sF
def a6G(h:A->B:=by exact aA (l7 (hB:=[]) (c9:=[_,_,_,_]) M rfl rfl rfl rfl) rfl):=h
def Qr(a:bT)(s:cG)(b:bT)(t:cG)(iW:List BO)(A B:List Bool)(JD JE:List Int):a0A:=
 if JW a s b t=0 then a7c a.aE (pB a s A).2 b.aE (pB b t B).2 iW A B JD JE else⟨[],[],[],[]⟩
def aHt{a b:bT}{s t:cG}:JW a s b t=0↔L3 a s=0/\L3 b t=0/\a.aE.places.l.length<=b.aE.places.l.length/\a.aE.Z.l.length<=b.aE.Z.l.length:=by
 rw[JW];constructor;·
  intro h;split at h;·omega
  split at h;·omega
  split at h;·cases h
  omega
 ·rintro⟨G,U,aO,bW⟩;rw[if_neg D,if_neg D,if_neg D]
def a7L{a b:bT}{s t:cG}{iW:List BO}{A B:List Bool}{JD JE:List Int}(h:JW a s b t≠0):Qr a s b t iW A B JD JE=rJ.nil.get:=by rw[Qr,if_neg h];rfl
def aG7{a:bT}(h:h4 a=0):iB a.aE=0:=by
 rw[h4]at h;split at h;·exact h
 ·rename_i U;exact Decidable.not_not.1 U
def aRM(a b:bT)(s t:cG)(iW:bP BO)(A B:List Bool)(JD JE:List Int)(L:aW)(R:aP)(bX:qF a R)(aF:u3 s R)(aT:qF b R)(gJ:u3 t R)(Tl:aN (Om iW) R)
 (a2z:a6O iW.l) (a2y:iW.l.length<=1000) (hD:h4 a=0->mU a.aE A) (qK:h4 b=0->mU b.aE B) (a8x:EF a.aE (pB a s A).2 JD) (a1U:EF b.aE (pB b t B).2 JE):
 aM prog 14 [a.val,s.val,b.val,t.val,iW.val].toArray L R (λw E R'=>∃p:rJ,w=.tuple #[p.val,.int .i64 (JW a s b t)]/\p.YR/\p.get=Qr a s b t iW.l A B JD JE/\p.L L=E/\R=R'):=by
 refine cX 64 call14 func14 rfl rfl rfl ?_;apply(fC);intro fK;apply(nW);intro jN;apply(nW);intro lT;apply(nW);intro mF;apply(dO);intro lI;apply p5∘y7;refine dN rfl (Qf a s A _ _ bX aF hD) rfl ?_;rintro v E R' ⟨p,rfl,iN,dC,rfl,rfl⟩;rw[aGu];refine aA jE rfl ?_;apply C8∘eA∘yQ;refine rY (A:=[]) (aI:=2) [] bH aX iN eW ?_;refine e7 Nl ?_;have oP:∀r∈R,aN r (wG p.W::R):=λr O=>aU (.tail _ O);apply nP∘pG;refine aJ ?_ ?_<;>intro bI;·
  apply eV∘a6G∘yE;refine kN (E:=L) (R':=R) TT ?aG ?b3 ?b8;case aG=>(have V:JW a s b t=L3 a s:=by rw[JW,if_pos bI]);exact⟨rJ.nil,by rw[V];rfl,rJ.iJ,(a7L (by rw[V];exact bI)).symm,rJ.a5O,rfl⟩
  case b3=>exact bC
  case b8=>exact oP
 have ZQ:=Zw.1 (Decidable.not_not.1 bI);apply gI∘y7;refine dN rfl (Qf b t B _ _ (IC aT oP) (T9 gJ oP) qK) rfl ?_;rintro v E R' ⟨q,rfl,g7,eZ,rfl,rfl⟩;rw[aGu];refine aA jE rfl ?_;apply C8∘eA∘yQ;refine rY (A:=[]) (aI:=2) [] bH aX g7 eW ?_;refine e7 Nl ?_;have nG:∀r∈R,aN r (wG q.W::wG p.W::R):=λr O=>aU (.tail _ (.tail _ O));apply nP∘pG;refine aJ ?_ ?_<;>intro cK;·
  apply eV∘a6G∘yE;refine kN (E:=L) (R':=R) TT ?aG ?b3 ?b8;case aG=>(have V:JW a s b t=L3 b t:=by rw[JW,if_neg bI,if_pos cK]);exact⟨rJ.nil,by rw[V];rfl,rJ.iJ,(a7L (by rw[V];exact cK)).symm,rJ.a5O,rfl⟩
  case b3=>exact bC
  case b8=>exact nG
 have KG:=Zw.1 (Decidable.not_not.1 cK);have b1E:=IC bX nG;have mQ:=IC aT nG;apply k5∘xG∘xG∘q5;apply dT (aD:=[_,_,_,_,_,_,_,_,_]) (j:=9) (b4:=44) rfl rfl aK rfl b2 rfl;·intro vP;replace vP:=cP vP;exact(xG∘xG) K9
 intro Uz;apply(dD);refine aJ ?_ ?_<;>intro dE;·
  apply eV∘a6G∘y4;refine kN (E:=L) (R':=R) TT ?aG ?b3 ?b8;case aG=>(have V:JW a s b t=11:=by rw[JW,if_neg bI,if_neg cK,if_pos D]);exact⟨rJ.nil,by rw[V];rfl,rJ.iJ,(a7L (by rw[V];decide)).symm,rJ.a5O,rfl⟩
  case b3=>exact bC
  case b8=>exact nG
 have V:JW a s b t=0:=aHt.2 ⟨by omega,by omega,by omega,by omega⟩;have l2:p.l.length=a.aE.Z.l.length:=by rw[dC];exact Ow ZQ.1 ZQ.2 (hD ZQ.1)
 have yK:q.l.length=b.aE.Z.l.length:=by rw[eZ];exact Ow KG.1 KG.2 (qK KG.1)
 apply gI∘C6∘gQ∘C6∘gQ∘gQ;refine dN rfl (aSi a.aE b.aE p.W q.W iW A B JD JE _ _ b1E.TE mQ.TE QH mL (Tl.mono nG) (aG7 ZQ.1) (aG7 KG.1) l2 yK D a2z a2y (hD ZQ.1) (qK KG.1) (by show EF a.aE p.l JD;rw[dC];exact a8x) (by show EF b.aE q.l JE;rw[eZ];exact a1U)) rfl ?_;rintro v E R' ⟨z,rfl,Lo,CC,rfl,rfl⟩;apply(yD);refine kN (E:=z.L L) (R':=R) TT ?aG ?b3 ?b8;case aG=>exact⟨z,by rw[V],Lo,by rw[CC,Qr,if_pos V,<-dC,<-eZ],rfl,rfl⟩
 case b3=>exact bC
 case b8=>exact nG
def aTN{l m:List Int}{k:Nat}{x:Int}(h:l[k]?=some x):yA (l.take (k+1)) m=if x∈m then yA (l.take k) m else yA (l.take k) m++[x]:=by rw[BA,h];simp only[yA,a3I,Option.toList,aCh,List.filter_nil];by_cases K:x∈m<;>simp[K]
def aZw(a b:eC)(L:aW)(R:aP)(bX:oY a R)(aT:oY b R)(ZQ:iB a=0)(KG:iB b=0):
 aM prog 16 [a.val,b.val].toArray L R (λv E R'=>∃(p:J Int) (A B:List Bool) (S:aP),v=p.val/\p.ok 1 aR/\mU a A/\mU b B/\p.l=yA (z7 B b.places.l.length) (z7 A a.places.l.length)/\p.L 3 aR++L=E/\S++R=R'):=by
 have Uk:=R8 ZQ;have Lb:=R8 KG;have DR:=Lb.places;refine cX 28 call16 func16 rfl rfl rfl ?_;apply(fC);intro eN;apply(nW);intro e4;apply tH∘tH∘lG;refine dN rfl (Qt a _ _ bX Uk ZQ) rfl ?_;rintro v E R' ⟨p,A,pD,rfl,iN,hD,dC,rfl,rfl⟩;have mQ:oY b (pD++R):=⟨aT.1.mono λr h=>aU (kE _ h),aT.2.mono λr h=>aU (kE _ h)⟩;apply r2∘lG;refine dN rfl (Qt b _ _ mQ Lb KG) rfl ?_;rintro v E R' ⟨q,B,eF,rfl,g7,qK,eZ,rfl,rfl⟩;apply(R0);refine e3 [(5,.slice _ _ _),(6,.slice _ _ _),(12,.slice _ _ _),(13,.int _ _),(14,.int _ _)] cB λg9=>?_;refine rY (A:=[]) (aI:=1) [] bH aX g7 eW ?_;refine e7 Nl ?_;refine rY (A:=[]) (aI:=1) [] bH aX iN eW ?_;refine e7 Nl ?_;have yK:q.l.length<=64:=by rw[eZ];have:=Ro B b.places.l.length;omega
 obtain⟨hE,wP⟩:∃hE,hE=dW p.W::dW q.W::(eF++(pD++R)):=⟨_,rfl⟩;have Z5:aN (dW p.W) hE:=aU Xe;have a2L:aN (dW q.W) hE:=aU a4J;refine w8 a4F ?_;refine oM ([5,8]++dJ 14 13) ((⟨λg=>[(14,.int .i64 ((g.1.1:Nat):Int)),(5,g.1.2.val)],λg=>g.1.2.L 3 aR++(⟨e4,b.cells,28⟩::⟨eN,a.cells,28⟩::L),λ_=>hE,λg=>q.l.length-g.1.1⟩:e0 {g:Nat×J Int//g.1<=q.l.length/\g.2.ok 1 aR/\g.2.l=yA (q.l.take g.1) p.l})) (⟨(0,J.nil),rW _,J.iJ,rfl⟩) cB JB eX ?_;rintro⟨⟨k,w⟩,Y,Ab,tT⟩ c1;try dsimp only
 dsimp only at Y Ab tT;apply(gU);refine aJ ?_ ?_<;>intro bI;·
  have bE:=bR (l:=q.l) (k:=k) 0 D;obtain⟨x,K⟩:∃x,x=q.l.getD k 0:=⟨_,rfl⟩;rw[<-K]at bE;have cW:=aTN (m:=p.l) bE;have bAe:w.l.length<=64:=by rw[tT];have:=aFT (q.l.take k) p.l;rw[HS]at this;omega
  apply(jK);refine aA rF rfl ?_;apply U3∘k2;refine eD rfl (aZA p.W x _ _ Z5) ?_;apply(AJ);refine aJ ?_ ?_<;>intro cK;·apply y6∘w1;rintro v E R' ⟨b71,rfl,rfl,a8V⟩;replace a8V:=a8V.symm;subst a8V;refine g2 (jZ (f:=aR) (p:=w) (a:=x) M rfl rfl rfl rfl (Ab) cL j8 rfl kG) rfl ?_;rintro v E R' ⟨b56,rfl,b3B,rfl,rfl⟩;apply(LO);exact eG ⟨(k+1,⟨b56,w.l++[x]⟩),by dsimp only;omega,b3B,by dsimp only;rw[cW,if_neg LA,tT]⟩
  apply(k9);exact eG ⟨(k+1,w),by dsimp only;omega,Ab,by dsimp only;rw[cW,if_pos LA,tT]⟩
 obtain rfl:k=q.l.length:=by omega
 rw[BB]at tT;apply(R2);refine cF (w.L 3 aR++L) hE BH ?_;exact⟨w,A,B,dW p.W::dW q.W::(eF++pD),rfl,Ab,hD,qK,by rw[tT,eZ,dC],rfl,by rw[wP];simp only[mK,kF]⟩
end
section
def aRE{P:List gL}{Q:List cR}{e:eO}{z:List gL×List cR}(h:tA P Q e=.ok z):P.length<=z.1.length/\Q.length<=z.2.length:=by
 unfold tA at h;repeat(first
  |(injection h with h;subst h;simp only[hL,w3,rE];omega)
  |cases h
  |split at h)
def aXw{P:List gL}{Q:List cR}{e:eO}{z:List gL×List cR}(h:tJ P Q e=.ok z):P.length<=z.1.length/\Q.length<=z.2.length:=by
 unfold tJ at h;split at h;·
  split at h;·cases h
  ·
   rename_i b6X V;split at h;·(injection h with h;subst h;exact aRE V)
   ·cases h
 ·cases h
def aZh{a:bT}{y:eC}(h:h4 a=0)(bB:iB y=0)(aZ:a.aE.Z.l.length<=y.Z.l.length):h4 ⟨y,a.bD,a.a8⟩=0:=by
 have a1:=Df h;have vN:=(J9 h).W2;have a8v:¬8<a.bD.l.length:=by omega
 have aH:a.bD.l.findSome? (LX a.aE.Z.l.length)=none:=by
  cases aH:a.bD.l.findSome? (LX a.aE.Z.l.length)with
  |none=>rfl
  |some x=>
   exfalso;have bV:=a6L a1 a8v aH;obtain⟨f,_,K⟩:=K3 aH;(have PQ:x=0:=by omega);unfold LX at K;split at K;·(injection K with K;omega)
   ·
    split at K;·(injection K with K;omega)
    ·cases K
 have U:=a0R a1 a8v aH;rw[h]at U;have uS:a.bD.l.findSome? (LX y.Z.l.length)=none:=List.findSome?_eq_none_iff.2 λf a1=>by
  have:=List.findSome?_eq_none_iff.1 aH f a1;unfold LX at this|-;split at this;·cases this
  ·
   split at this;·cases this
   ·rename_i aO bW;rw[if_neg aO,if_neg D]
 have aO:=a0R (x:=⟨y,a.bD,a.a8⟩) bB a8v uS;rw[aO];split at U;·rename_i bW;exact absurd U.symm bW
 ·
  rename_i bW;rw[if_neg bW];have a7:a.a8.l.findSome? (J1 y.Z.l.length)=none:=List.findSome?_eq_none_iff.2 λd a1=>by
   have aLV:a.a8.l.findSome? (J1 a.aE.Z.l.length)=none:=by
    cases a7:a.a8.l.findSome? (J1 a.aE.Z.l.length)with
    |none=>rfl
    |some x=>
     exfalso;rw[a7]at U;have U:0=x:=U;obtain⟨d,_,K⟩:=K3 a7;unfold J1 at K;split at K;·(injection K with K;omega)
     ·cases K
   have:=List.findSome?_eq_none_iff.1 aLV d a1;unfold J1 at this|-;split at this;·cases this
   ·rw[if_neg D]
  show(a.a8.l.findSome? (J1 y.Z.l.length)).getD 0=0;rw[a7];rfl
def aSA{a:bT}{y:eC}{s:cG}(h:h4 a=0)(aH:mP a s=true)(bB:iB y=0)(aG:a.aE.places.l.length<=y.places.l.length)(aZ:a.aE.Z.l.length<=y.Z.l.length):JW a s ⟨y,a.bD,a.a8⟩ s=0:=
 aHt.2 ⟨Zw.2 ⟨h,aH⟩,Zw.2 ⟨aZh h bB aZ,aH⟩,aG,aZ⟩
def aRX{a:bT}{m:eC}{s:cG}{A:List Bool}(aG:m.places.l=a.aE.places.l)(bZ:m.Z.l=a.aE.Z.l):pB ⟨m,a.bD,a.a8⟩ s A=pB a s A:=
 (oJ.of (by unfold pI OO;rw[aG,bZ]) rfl).a8a A
def aRN{a:bT}{s:cG}{x:tE}(h:Q3 a s x):∀e∈CR a.aE.places.l a.aE.Z.l,wB e:=by
 have a1:=Df h.DI;obtain⟨_,U,aO⟩:=a1r (P:=a.aE.places.l) (Q:=a.aE.Z.l) a1;have bM:=R8 a1;have n2:=h.aNo;have HD:=h.aNp;refine aWd (λp aG=>?_) (λr O n bA=>?_) D;·
  have:=U p aG;unfold C3 at this;split at this;·cases this
  ·constructor<;>omega
 ·
  obtain⟨i,aB,rfl⟩:=Gm O;have bE:=w4 aB;have bW:=aO _ O;have dV:=bM.aS i _ bE;have gY:=h.Mh i _ bE;have:=dV.bK;have:=dV.to;have:=dV.aC;have:=dV.fQ;unfold q1 at bW;split at bW;·cases bW
  ·
   split at bW;·cases bW
   ·simp only[U8,nX,pO,or_false]at bA;exact aPh
attribute [local irreducible] cO dG dP aM cI dR fA e2 e5 fB eQ e9 J.L
def aDq{q:J eO}{A B C:aW}{R:aP}(B9:nA A B C)(qK:pA (q.L 55 eO.cells) B)(Fw:q.ok 16 eO.cells)(uQ:s3∈C)(aZ:∀e∈q.l,wB e)(bA:1<=q.l.length/\q.l.length<=400):
 aM prog 6 [q.val].toArray A R (λv E R'=>v=.tuple #[sv (wH q.l),.int .i64 0]/\A=E/\R=R'):=by have U:=aM.TB (S:=[Jm q.W]) (Post:=λv E=>v=.tuple #[sv (wH q.l),.int .i64 0]/\C=E) B9 (λw aD bF s aF=>by rw[List.mem_singleton.1 aF];exact wD bF qK Fw bH aX eW) ((aT6 q.W C ([Jm q.W]++R) mL aZ bA uQ).mono λv E R' ⟨hO,a2,a3⟩=>⟨⟨hO,a2⟩,a3⟩);exact aM.aBq (U.mono (tC:=λv hA R'=>v=.tuple #[sv (wH q.l),.int .i64 0]/\B++C=hA/\R=R') λv hA R' ⟨E,e,⟨hO,a2⟩,a3⟩=>⟨hO,by rw[<-e,<-a2],a3⟩) λv E R' ⟨G,U,aO⟩=>⟨A,by rw[<-U];exact B9.yN.symm,G,rfl,aO⟩
def aSt{e:eO}{b:Nat}{A C:aW}{R:aP}(B9:nA A [⟨b,e.cells,55⟩] C)(uQ:s3∈C)(aZ:wB e):
 aM prog 6 [.slice (some ⟨b,0,none⟩) 1 1].toArray A R (λv E R'=>v=.tuple #[sv (wH [e]),.int .i64 0]/\A=E/\R=R'):=by
 have dH:(⟨.own b 1 [],[e]⟩:J eO).L 55 eO.cells=[⟨b,e.cells,55⟩]:=by unfold J.L gT.L;show[bQ.mk b (([e]:List eO).flatMap eO.cells++[]) 55]=_;rw[rV];rfl
 exact aDq (q:=⟨.own b 1 [],[e]⟩) B9 (by rw[dH];exact λ_ h=>h) ⟨rfl,gS _,by simp only[maxLen];omega,rfl⟩ uQ (λx K=>by rw[List.mem_singleton.1 K];exact aZ) ⟨gS _,s6 rfl⟩
def aUQ(P:List gL)(Q:List cR)(m:Int)(L:aW)(R:aP)(a1:oY (l3 [] []) R)(V:iB (l3 P Q)=0)(aZ:∀e∈CR P Q,wB e)(bA:(CR P Q).length<=400)(b3:uN m∈L):
 aM prog 8 [(l3 [] []).val,sv (wH (CR P Q))].toArray L R (λw E R'=>∃(o8:eC) (S:aP),w=.tuple #[o8.val,.int .i64 ((CR P Q).length:Int),.int .i64 0]/\oY o8 (S++R)/\(o8.places.l=P/\o8.Z.l=Q)/\L=E/\S++R=R'):=by have h:=aDz (l3 [] []) (CR P Q) m L R a1 ⟨by decide,by decide⟩ aZ bA b3;rw[show(l3 [] []).places.l=[]from rfl,show(l3 [] []).Z.l=[]from rfl,aYL V]at h;exact h.mono λw E R' ⟨o8,S,G,U,aO,bW,dV⟩=>⟨o8,S,G,U,⟨congrArg Prod.fst aO,congrArg Prod.snd aO⟩,bW,dV⟩
def aVs(uW:eC)(e:eO)(m:Int)(L:aW)(R:aP)(a1:oY uW R)(bM:uW.places.l.length<=64/\uW.Z.l.length<=128)(aZ:wB e)(b3:uN m∈L):
 aM prog 8 [uW.val,sv (wH [e])].toArray L R (λw E R'=>∃(o8:eC) (k:Int) (S:aP),w=.tuple #[o8.val,.int .i64 k,.int .i64 (Jl (tJ uW.places.l uW.Z.l e))]/\oY o8 (S++R)/\(∀z,tJ uW.places.l uW.Z.l e=.ok z->o8.places.l=z.1/\o8.Z.l=z.2)/\L=E/\S++R=R'):=by have h:=aDz uW [e] m L R a1 bM (λx K=>by rw[List.mem_singleton.1 K];exact aZ) (s6 rfl) b3;have G:=aWl (P:=uW.places.l) (Q:=uW.Z.l) (e:=e);rw[G.1]at h;exact h.mono λw E R' ⟨o8,S,dH,eH,nS,B3,O2⟩=>⟨o8,_,S,dH,eH,λz dI=>by rw[G.2 z dI]at nS;exact⟨congrArg Prod.fst nS,congrArg Prod.snd nS⟩,B3,O2⟩
end
section
attribute [local irreducible] cO dG dP aM cI dR fA e2 e5 fB eQ e9 J.L
end
section
def aIu(h:A->B:=by exact b7 Xl rfl rfl rfl):=h
def aDO(h:A->B:=by exact b7 aCw rfl rfl rfl):=h
def aTw:Hm prog 49 [.i,.b]:=
 a43 [(3,[.i]),(4,[.b])] aQ aQ aQ aQ rfl (by
  intro p aG
  simp only[nX,pO,or_false]at aG
  rcases aG with rfl|rfl
  ·exact JV aQ
  ·exact Iz aQ)
def aYR{T:TypeId}{hZ:iD}(h:g5 M.gD T=some hZ):∃i,prog.info? T=some i:=by obtain⟨i,u,z,aB,_⟩:=E0 (M.ok _ _ h);exact⟨i,aB⟩
def aKb{d:Nat}:NV prog (d+2) 51 [.i,.i]:=by obtain⟨i,aB⟩:=aYR (T:=51) rfl;exact aOI
def aT8:Hm prog 53 [.i,.i,.i,.i,.b,.b,.i,.i,.i,.i]:=
 a43 [(3,[.i]),(3,[.i]),(3,[.i]),(3,[.i]),(4,[.b]),(4,[.b]),(51,[.i,.i]),(51,[.i,.i])] aQ aQ aQ aQ rfl (by
  intro p aG
  simp only[nX,pO,or_false]at aG
  rcases aG with rfl|rfl|rfl|rfl|rfl|rfl|rfl|rfl
  ·exact JV aQ
  ·exact JV aQ
  ·exact JV aQ
  ·exact JV aQ
  ·exact Iz aQ
  ·exact Iz aQ
  ·exact aKb
  ·exact aKb)
attribute [local irreducible] cO dG dP aM cI dR fA e2 e5 fB eQ e9 J.L
def aJB(m w:eC)(L:aW)(R:aP)(a1:oY m R)(cE:oY w R)(G:m.places.l=w.places.l)(U:m.Z.l=w.Z.l)(bA:m.places.l.length<=1000/\m.Z.l.length<=1000):
 aM prog 9 [m.val,w.val].toArray L R (λv E R'=>v=.bool true/\L=E/\R=R'):=by
 have n3:=a1.places;have DS:=cE.places;have Up:=a1.Z;have Lh:=cE.Z;have WB:m.places.l.length=w.places.l.length:=by rw[G]
 have Z1:m.Z.l.length=w.Z.l.length:=by rw[U]
 refine cX 59 call9 func9 rfl rfl rfl ?_;apply(fC);intro eN;apply(nW);intro e4;apply xF∘jM∘jM∘vC;apply dT (aD:=[_,_,_,_,_,_,_]) (j:=7) (b4:=14) rfl rfl aK rfl b2 rfl;·intro nV;replace nV:=cP nV;exact(jM∘jM) v6
 intro WX;apply(dD);refine aJ ?_ ?_<;>intro bI;·apply(RT);refine m5 L R ?_;exact absurd Z1 D
 apply k5∘pR;refine e3 [(2,.pointer _),(3,.pointer _),(5,.int _ _)] cB λg9=>?_;refine lF ([4,5]++dJ 23 18) (λg:{k:Nat//k<=m.places.l.length}=>[(5,.int .i64 ((g.1:Nat):Int))]) (λg=>m.places.l.length-g.1) (⟨0,by omega⟩) ?_;rintro⟨k,Y⟩ c1;try dsimp only
 apply nR∘jM∘nD;refine aJ ?_ ?_<;>intro cK;·
  have I1:=bR (l:=m.places.l) (k:=k) default D;have aAV:w.places.l[k]?=some (m.places.l.getD k default):=by rw[<-G];exact I1
  refine gG (bY (cC (iH (cC ?_))));refine jR M [0,1,2,3,4,5,6,7,8,9,10] _ mixed aQ iP ?_;apply uH∘XI∘XH∘uH∘XI∘XH;refine b7 (aIP aTw rfl rfl Nd Nd rfl) rfl rfl rfl ?_;apply(A9);refine aJ ?_ ?_<;>intro dE;·apply(OH);refine m5 L R ?_;exact absurd dE (by simp[zB,Qs])
  exact aBS
 apply D2∘pR;refine e3 [(2,.pointer _),(3,.pointer _),(6,.int _ _)] cB λs4=>?_;refine lF ([4,6]++dJ 41 18) (λg:{j:Nat//j<=m.Z.l.length}=>[(6,.int .i64 ((g.1:Nat):Int))]) (λg=>m.Z.l.length-g.1) (⟨0,by omega⟩) ?_;rintro⟨j,a6⟩ c1;try dsimp only
 apply nR∘jM∘nD;refine aJ ?_ ?_<;>intro gZ;·
  have I1:=bR (l:=m.Z.l) (k:=j) default D;have aAV:w.Z.l[j]?=some (m.Z.l.getD j default):=by rw[<-U];exact I1
  refine gG (bY (cC (iH (cC ?_))));refine jR M [0,1,2,3,4,5,6,7,8,9,10] _ mixed aQ iP ?_;apply uH∘aIu∘aDO∘uH∘aIu∘aDO;refine b7 (aIP aT8 rfl rfl Nd Nd rfl) rfl rfl rfl ?_;apply(A9);refine aJ ?_ ?_<;>intro fW;·apply(OH);refine m5 L R ?_;exact absurd fW (by simp[zB,Qs])
  apply(Cs);exact eG (⟨j+1,by omega⟩)
 exact a4B
end
end Go.Proofs.YtdiajbdaadlfhaaGreatDoor
