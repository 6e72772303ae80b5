--By an AI agent.
import Derived.Test.YtchfclmokpbldaaGreatStaG
import Derived.Test.YtchfclmokpbldaaGreatStaA
import Derived.Test.YtchfclmokpbldaaGreatCutB
import Derived.Test.YtchfclmokpbldaaGreatSolveR
import Derived.Test.YtchfclmokpbldaaGreatFeedP
import Derived.Test.YtchfclmokpbldaaGreatFlows
import Derived.Laws.IdiomStrings
set_option maxRecDepth 9999
set_option linter.all false
set_option maxHeartbeats 0
variable{A B:Prop}
namespace Go.Proofs.YtchfclmokpbldaaGreat
open Go.Aw Go Go.Proofs.Tryz
section
def a51(h:A->B:=by exact(aG aYN ·)):=h
def a5I(h:B:=by exact⟨r2,vH,by rw[X];rfl,a4Y R,λh=>by omega,λ_=>rfl,rfl,rfl⟩):=h
def aJQ(h:A->B:=by exact(aG lR ·)):=h
def L3{aV:Type}{P:Program}{n:Nat}{code:Code}{t:Nat->Value}{L:aP}{R:aJ}{Q:gA}{f:aV->List Value}{aR:Nat}(hf:∀x,(f x).length=aR)(xW:0<aR)(h:cH P n code t L ((⟨none,0,[]⟩:a0 aV).fI aR f []::R) Q):cH P n code t L R Q:=
 aN3 (T:=3) (p:=(J.nil:J aV)) (f:=f) [] J.g6 hf xW lQ h
def vH:aJ:=[O8 ⟨none,0,[]⟩,YI ⟨none,0,[]⟩,Q1 ⟨none,0,[]⟩,MN ⟨none,0,[]⟩,z9 ⟨none,0,[]⟩,Dv ⟨none,0,[]⟩,SO ⟨none,0,[]⟩,cZ ⟨none,0,[]⟩,hA ⟨none,0,[]⟩,gT ⟨none,0,[]⟩,CY ⟨none,0,[]⟩,sS ⟨none,0,[]⟩,uT ⟨none,0,[]⟩,iY ⟨none,0,[]⟩]
def aJk{P:Program}{n:Nat}{code:Code}{t:Nat->Value}{L:aP}{R:aJ}{Q:gA}(h:cH P n code t L (vH++R) Q):cH P n code t L R Q:=by refine L3 (f:=fK.cells) (aR:=4) bI bH ?_;refine L3 (f:=bL.cells) (aR:=5) bI bH ?_;refine L3 (f:=b8.cells) (aR:=3) bI bH ?_;refine L3 (f:=fR.cells) (aR:=3) bI bH ?_;refine L3 (f:=eA.cells) (aR:=4) bI bH ?_;refine L3 (f:=m3) (aR:=1) bI bH ?_;refine L3 (f:=aL) (aR:=1) bI bH ?_;refine L3 (f:=jU.cells) (aR:=4) bI bH ?_;refine L3 (f:=m9.cells) (aR:=6) bI bH ?_;refine L3 (f:=fA.cells) (aR:=8) bI bH ?_;refine L3 (f:=g9.cells) (aR:=3) bI bH ?_;refine L3 (f:=hY.cells) (aR:=4) bI bH ?_;refine L3 (f:=eL.cells) (aR:=10) bI bH ?_;refine L3 (f:=kR.cells) (aR:=2) bI bH ?_;exact h
def a4Y(R:aJ):lK r2 (vH++R):=by have m:∀s∈vH,aH s (vH++R):=λs hs=>aM (sI _ hs);refine⟨⟨⟨m _ ?_,m _ ?_,m _ ?_,m _ ?_⟩,m _ ?_,m _ ?_,m _ ?_,m _ ?_⟩,m _ ?_,m _ ?_,m _ ?_,m _ ?_,⟨m _ ?_,m _ ?_⟩,m _ ?_⟩;all_goals simp[vH,r2]
def a0s(aF:List bL):Nat->List bL
 |0=>aF
 |k+1=>rM (a0s aF k) (k:Int) 0
def b8p(aF:List bL):List bL:=a0s aF aF.length
def s7(s:dQ)(f:hI):Int:=
 if oI s≠0 then oI s else if i6 f.aT.l f.aU.l f.cA≠0 then i6 f.aT.l f.aU.l f.cA
 else if f.aU.l.length≠s.aU.l.length then 17 else if∃x∈f.aT.l,x.cQ≠0 then 8 else 0
def u3(s:dQ)(f:hI)(A:List Bool):hQ:=⟨s,f.aU.l,f.cA,A⟩
def CC:eA:=⟨-1,0,⟨0,0⟩⟩
def Er(s:dQ)(f:hI):b0:=⟨0,[],0,List.replicate s.cD.l.length CC,List.replicate s.dD.l.length ⟨true,-1,0⟩,List.replicate s.aU.l.length ⟨true,-1,0⟩,b8p f.aT.l,u9,[]⟩
def a5S{aF:List bL}{cG:List Int}{bT:Int}(h:i6 aF cG bT=0): ∀k,vE aF (a0s aF k) 0
 |0=>.refl h 0
 |k+1=>(a5S h k).a74 _
def b8b{s:dQ}{f:hI}(h:s7 s f=0):oI s=0/\i6 f.aT.l f.aU.l f.cA=0/\f.aU.l.length=s.aU.l.length/\∀x∈f.aT.l,x.cQ=0:=by
 rw[s7]at h;split at h;·omega
 split at h;·omega
 split at h;·cases h
 split at h;·cases h
 rename_i N V aQ b7;exact⟨Decidable.not_not.1 N,Decidable.not_not.1 V,Decidable.not_not.1 aQ,λx K=>by
  rcases GA (x.cQ=0)with eG|eG;·exact eG
  ·exact absurd ⟨x,K,eG⟩ b7⟩
def a9Y{s:dQ}{f:hI}{A:List Bool}(h:s7 s f=0)(gI:lS s.bU.Y A):Inv (u3 s f A) (Er s f):=by
 obtain⟨N,V,aQ,b7⟩:=b8b h;have hk:=a5S (bT:=f.cA) V f.aT.l.length;refine⟨N,gI,⟨oE _,by show(0:Int)<=2147483648;decide⟩,VG,λx K=>?_,VG,λw cV=>?_,VG,hk.i6 V ⟨oE _,by decide⟩,?_,aQ,⟨by show(0:Int)<=0;decide,.inl rfl⟩,AY _,⟨λx K=>(by cases K),AY _⟩⟩;·rw[List.eq_of_mem_replicate K,w9,CC];dsimp only;omega
 ·rw[List.eq_of_mem_replicate cV];exact⟨⟨by decide,by decide,by decide,.inl rfl⟩,oE _⟩
 ·exact(hk.time ⟨⟨oE _,by decide⟩,λx K=>by rw[b7 x K];exact oE _⟩).2
attribute [local irreducible] cH c6 dP aI cJ eD e9 e0 e1 e5 eS e8 J.L
def aO8(s:dQ)(f:hI)(A:List Bool)(L:aP)(R:aJ):oY:=λv E G=>∃(y:cF) (S:aJ),v=.tuple #[y.val,.int .i64 (s7 s f)]/\lK y G/\(s7 s f=0->h5 (u3 s f A) (Er s f) y)/\(s7 s f≠0->y=r2)/\L=E/\S++R=G
def b10(s:dQ)(f:hI)(A:List Bool)(L:aP)(R:aJ)(hs:zX s R)(hf:k9 f R)(gI:lS s.bU.Y A):
 aI prog 16 [s.val,f.val].toArray L R (aO8 s f A L R):=by
 have bES:=hf.aF.mono λr M=>aM (mA vH M);refine bW 101 call16 func16 ?_;apply(c8);intro cS;apply(iU);intro dG;apply(dA);intro cT;apply(OD);refine aJk ?_;have XK:∀r∈R,aH r (vH++R):=λr M=>aM (mA _ M);have Bn:=hs.mono XK;have vN:=hf.mono XK;apply(eK);refine aG qI ?_;refine cC rfl (a49 s _ _ Bn) ?_;apply(kB);apply(W)<;>intro aO;·
  apply cO∘a51∘tZ;refine bN L (vH++R) nL ?_;have X:s7 s f=oI s:=by rw[s7,if_pos aO]
  exact a5I
 apply iK∘aJQ;refine cC rfl (Fq f _ _ vN) ?_;apply(kB);apply(W)<;>intro bF;·
  apply cO∘a51∘tZ;refine bN L (vH++R) nL ?_;have X:s7 s f=i6 f.aT.l f.aU.l f.cA:=by rw[s7,if_neg aO,if_pos bF]
  exact a5I
 apply QR∘lM∘qP;apply(W)<;>intro b2;·
  apply cO∘a51∘q4;refine bN L (vH++R) nL ?_;have X:s7 s f=17:=by rw[s7,if_neg aO,if_neg bF,if_pos D]
  exact a5I
 have F1:oI s=0:=Decidable.not_not.1 aO;have iJ:i6 f.aT.l f.aU.l f.cA=0:=Decidable.not_not.1 bF;have rT:=zD iJ;have HM:=rT.wN;have tL:=rT.yA;have xT:=(KP F1).len;apply(QS);refine c7 [(2,.pointer _),(3,.pointer _),(4,.pointer _),(33,.slice _ _ _),(34,.int _ _),(35,.int _ _)] bP λeZ=>?_;refine gP ([5,9]++b4 35 9) (λg:{k:Nat//k<=f.aT.l.length/\∀j:Nat,j<k->(f.aT.l.getD j default).cQ=0}=>[(35,.int .i64 ((g.1:Nat):Int))]) (λg=>f.aT.l.length-g.1) (⟨0,by omega,λj aY=>by omega⟩) ?_;rintro⟨k,hk,hD⟩ bZ;try dsimp only
 apply(h2);apply(W)<;>intro dZ;·
  have hg:=bJ f.aT.l k default;apply(j7);refine aG qH ?_;apply(WJ);intro h8;apply CL∘qP;apply(W)<;>intro dX;·apply cO∘a51∘i3∘WI;refine bN L (vH++R) nL ?_;(have X:s7 s f=8:=by rw[s7,if_neg aO,if_neg bF,if_neg D,if_pos ⟨_,gU hg,dX⟩]);exact a5I
  apply(n6);exact a8k
 have a1o:∀x∈f.aT.l,x.cQ=0:=λx K=>by exact aXk
 have X:s7 s f=0:=by rw[s7,if_neg aO,if_neg bF,if_neg D,if_neg (λ⟨x,K,h⟩=>h (a1o x K))]
 have hn:∀q∈vH,aH q (vH++R):=λq hq=>aM (sI _ hq);have w3:Zn (⟨s,0,⟨none,0,[]⟩,0,⟨none,0,[]⟩,⟨none,0,[]⟩,⟨none,0,[]⟩,f,u9,⟨none,0,[]⟩⟩:cF):=⟨F1,AY _,AY _,AY _,AY _,(by show f.aT.l.length<=1000;omega),(by show f.aU.l.length<=1000;omega),AY _⟩;have AG:=a4Y R;have Ui:lK (⟨s,0,⟨none,0,[]⟩,0,⟨none,0,[]⟩,⟨none,0,[]⟩,⟨none,0,[]⟩,f,u9,⟨none,0,[]⟩⟩:cF) (vH++R):=⟨Bn,AG.held,AG.c5,AG.eF,AG.aS,vN,AG.eM⟩;apply(O9);refine gJ O [0,1,2,3,4,5,6] _ cX bE g3 ?_;refine a4 qI ?_;refine a4 lR ?_;refine k6 rfl (aBb _ _) ?_;refine a4 aZO ?_;refine q1 rfl (aPP (⟨s,0,⟨none,0,[]⟩,0,⟨none,0,[]⟩,⟨none,0,[]⟩,⟨none,0,[]⟩,f,u9,⟨none,0,[]⟩⟩:cF) _ _ w3 Ui) rfl rfl ?_;rintro v E G ⟨s',cN,BM,dH,mG,eW,bS,fP,rfl,fJ,rfl,rfl⟩;refine⟨a2,gN,?_⟩;apply(p2);intro jE;apply(sE);refine gS (aZ (a6 (a6 ?_)));obtain⟨gR,D7⟩:∃gR,gR=fP++(vH++R):=⟨_,rfl⟩;refine sU a3c ?_;have aDL:aLN (⟨s,0,⟨none,0,[]⟩,0,⟨none,0,[]⟩,⟨none,0,[]⟩,⟨none,0,[]⟩,f,u9,⟨none,0,[]⟩⟩:cF) s' cN BM dH mG eW bS gR:=by rw[D7];exact fJ
 have Q5:∀r∈R,aH r gR:=λr M=>aM (by rw[D7];exact mA _ (mA _ M));have bEl:dH.l=[]:=fJ.em;have bEn:mG.l=[]:=fJ.a6z;have bEg:eW.l=[]:=fJ.a6v;have bEi:bS.l=[]:=fJ.a6x;have bKa:BM.aT.l=f.aT.l:=fJ.a0V;apply eK∘r9;refine c7 [(2,.pointer _),(4,.pointer _),(10,.pointer _),(51,.int _ _),(52,.int _ _)] bP λnS=>?_;refine kO ([11]++b4 52 12) ((⟨λg=>[(52,.int .i64 ((g.1.1:Nat):Int))],λg=>⟨jE,(⟨s',0,cN,0,dH.U,mG.U,eW.U,g.1.2.1,u9,bS.U⟩:cF).cells,54⟩::(bS.L 150 fK.cells++(eW.L 71 b8.cells++(mG.L 153 fR.cells++(dH.L 93 eA.cells++(⟨cT,r2.cells,54⟩::⟨dG,f.cells,42⟩::⟨cS,s.cells,38⟩::L))))),λg=>g.1.2.2,λg=>f.aT.l.length-g.1.1⟩:dV {g:Nat×hI×aJ//g.1<=f.aT.l.length/\(g.2.1.aT.l=a0s f.aT.l g.1/\g.2.1.aU.l=f.aU.l/\g.2.1.cA=f.cA)/\k9 g.2.1 g.2.2/\∀r∈gR,aH r g.2.2})) (⟨(0,BM,gR),by dsimp only;omega,⟨fJ.a0V,fJ.a6A,fJ.a6y⟩,aDL.cP,mB _⟩) ?_;rintro⟨⟨eU,iA,r5⟩,e6,⟨vP,HH,kS⟩,w4,Gw⟩ bZ;try dsimp only
 dsimp only[cF.cells];dsimp only at e6 vP HH kS w4 Gw;apply(h2);apply(W)<;>intro h3;·
  have Oc:=a5S (bT:=f.cA) iJ eU;have aEY:i6 iA.aT.l iA.aU.l iA.cA=0:=by rw[vP,HH,kS];exact Oc.i6 iJ ⟨oE _,by decide⟩
  have Az:iA.aT.l.length=f.aT.l.length:=by rw[vP];exact Oc.len
  have aGy:J6 iA.aT.l 0:=by rw[vP];exact Oc.time ⟨⟨oE _,by decide⟩,λx K=>by rw[a1o x K];exact oE _⟩
  have wF:v5 iA.aT.l iA.aU.l iA.cA (eU:Int) 0=0:=by rw[v5,if_neg (by rw[aEY];decide),if_neg D,if_pos aGy]
  apply pR∘dE;refine eI (aZ (cR ?_));apply eP∘aJQ∘b1;refine cK (aJv iA (eU:Int) 0 _ _ w4) ?_;rintro v E G ⟨r0,x4,bT,rfl,⟨On,Ot⟩,RH,rfl,rfl⟩;refine aG iR ?_;apply S1∘eP;refine PW O rfl rfl rfl rfl s6 aE aE aE ?_;refine eI (gV (aZ ?_));obtain⟨Vd,Ou,rfl⟩:=RH wF;refine hG 3 aL 1 x4 [] Ot ?_;refine fU ?_;refine hG 76 bL.cells 5 r0 [] On ?_;refine fU ?_;exact(eK∘uX) aZl
 obtain rfl:eU=f.aT.l.length:=by omega
 apply AV∘r9;refine c7 [(2,.pointer _),(4,.pointer _),(10,.pointer _),(66,.int _ _),(67,.int _ _)] bP λNH=>?_;refine kO (b4 67 9) ((⟨λg=>[(67,.int .i64 ((g.1.1:Nat):Int))],λg=>⟨jE,(⟨s',0,cN,0,g.1.2.U,mG.U,eW.U,iA,u9,bS.U⟩:cF).cells,54⟩::(bS.L 150 fK.cells++(eW.L 71 b8.cells++(mG.L 153 fR.cells++(g.1.2.L 93 eA.cells++(⟨cT,r2.cells,54⟩::⟨dG,f.cells,42⟩::⟨cS,s.cells,38⟩::L))))),λ_=>r5,λg=>s.cD.l.length-g.1.1⟩:dV {g:Nat×J eA//g.1<=s.cD.l.length/\g.2.ok 4 eA.cells/\g.2.l=List.replicate g.1 CC})) (⟨(0,dH),by dsimp only;omega,fJ.Hy,bEl⟩) ?_;rintro⟨⟨eE,x0⟩,hK,Ut,JD⟩ bZ;try dsimp only
 dsimp only[cF.cells];dsimp only at hK Ut JD;have bDl:x0.l.length=eE:=by rw[JD,VG]
 apply(h2);apply(W)<;>intro hW;·refine dK (aZ (a6 (e3 (cR ?_))));apply(fH);refine aG aIz ?_;refine gO Dg rfl ?_;rintro v E G ⟨bIF,rfl,rfl,aEg⟩;replace aEg:=aEg.symm;subst aEg;refine gO aY0 rfl ?_;rintro v E G ⟨bGe,rfl,bDX,rfl,rfl⟩;apply uY∘wB;exact dU ⟨(eE+1,⟨bGe,x0.l++[CC]⟩),by dsimp only;omega,bDX,by dsimp only;rw[JD,Wt]⟩
 obtain rfl:eE=s.cD.l.length:=by omega
 apply AV∘r9;refine c7 [(2,.pointer _),(4,.pointer _),(10,.pointer _),(78,.int _ _),(79,.int _ _)] bP λWh=>?_;refine kO (b4 79 9) ((⟨λg=>[(79,.int .i64 ((g.1.1:Nat):Int))],λg=>⟨jE,(⟨s',0,cN,0,x0.U,g.1.2.U,eW.U,iA,u9,bS.U⟩:cF).cells,54⟩::(bS.L 150 fK.cells++(eW.L 71 b8.cells++(g.1.2.L 153 fR.cells++(x0.L 93 eA.cells++(⟨cT,r2.cells,54⟩::⟨dG,f.cells,42⟩::⟨cS,s.cells,38⟩::L))))),λ_=>r5,λg=>s.dD.l.length-g.1.1⟩:dV {g:Nat×J fR//g.1<=s.dD.l.length/\g.2.ok 3 fR.cells/\g.2.l=List.replicate g.1 (⟨true,-1,0⟩:fR)})) (⟨(0,mG),by dsimp only;omega,fJ.aUh,bEn⟩) ?_;rintro⟨⟨i2,F4⟩,l4,Vk,tK⟩ bZ;try dsimp only
 dsimp only[cF.cells];dsimp only at l4 Vk tK;have bE4:F4.l.length=i2:=by rw[tK,VG]
 apply(h2);apply(W)<;>intro oO;·refine dK (aZ (a6 (e3 ?_)));refine hF O [] [0,1,2,3] [4,5,6] (_) _ cX bE a2 dT ?_;apply(l1);refine k2 rfl (b21 _ _) rfl rfl ?_;rintro v E G ⟨rfl,rfl,rfl⟩;refine⟨a2,gN,?_⟩;refine MG Js rfl rfl rfl ?_;rintro v E G ⟨Fz,rfl,rfl,zL⟩;replace zL:=zL.symm;subst zL;apply(xF);refine o4 aYO rfl rfl rfl ?_;rintro v E G ⟨Pq,rfl,Hk,rfl,rfl⟩;apply KI∘TL;exact dU ⟨(i2+1,⟨Pq,F4.l++[⟨true,-1,0⟩]⟩),by dsimp only;omega,Hk,by dsimp only;rw[tK,Wt]⟩
 obtain rfl:i2=s.dD.l.length:=by omega
 apply AV∘r9;refine c7 [(4,.pointer _),(10,.pointer _),(90,.int _ _),(91,.int _ _)] bP λaHC=>?_;refine kO (b4 91 9) ((⟨λg=>[(91,.int .i64 ((g.1.1:Nat):Int))],λg=>⟨jE,(⟨s',0,cN,0,x0.U,F4.U,g.1.2.U,iA,u9,bS.U⟩:cF).cells,54⟩::(bS.L 150 fK.cells++(g.1.2.L 71 b8.cells++(F4.L 153 fR.cells++(x0.L 93 eA.cells++(⟨cT,r2.cells,54⟩::⟨dG,f.cells,42⟩::⟨cS,s.cells,38⟩::L))))),λ_=>r5,λg=>s.aU.l.length-g.1.1⟩:dV {g:Nat×J b8//g.1<=s.aU.l.length/\g.2.ok 3 b8.cells/\g.2.l=List.replicate g.1 (⟨true,-1,0⟩:b8)})) (⟨(0,eW),by dsimp only;omega,fJ.aG0,bEg⟩) ?_;rintro⟨⟨eV,NC⟩,m4,Uk,b2⟩ bZ;try dsimp only
 dsimp only[cF.cells];dsimp only at m4 Uk b2;have bB2:NC.l.length=eV:=by rw[b2,VG]
 apply(h2);apply(W)<;>intro FV;·refine dK (aZ (a6 (e3 (cR ?_))));apply(fH);refine aG aI4 ?_;refine gO Js rfl ?_;rintro v E G ⟨bAp,rfl,rfl,Nf⟩;replace Nf:=Nf.symm;subst Nf;refine gO aYT rfl ?_;rintro v E G ⟨aHl,rfl,aFP,rfl,rfl⟩;apply uY∘wB;exact dU ⟨(eV+1,⟨aHl,NC.l++[⟨true,-1,0⟩]⟩),by dsimp only;omega,aFP,by dsimp only;rw[b2,Wt]⟩
 obtain rfl:eV=s.aU.l.length:=by omega
 refine hG 93 eA.cells 4 x0 [] Ut ?_;refine fU ?_;refine hG 153 fR.cells 3 F4 [] Vk ?_;refine fU ?_;refine hG 71 b8.cells 3 NC [] Uk ?_;refine fU ?_;refine hG 150 fK.cells 4 bS [] fJ.RQ ?_;refine fU ?_;obtain⟨e4,uG⟩:∃e4,e4=iY bS.U::sS NC.U::CY F4.U::gT x0.U::r5:=⟨_,rfl⟩;refine sU Xw ?_;have a08:∀r∈r5,aH r (e4++R):=λr M=>aM (by rw[uG];exact .tail _ (.tail _ (.tail _ (.tail _ (sI _ M)))));have Uc:∀r∈gR,aH r (e4++R):=λr M=>(Gw r M).mono a08;have Nh:∀r∈R,aH r e4:=λr M=>((Q5 r M).mono Gw).mono λr M=>aM aIH;have dY:aH (iY bS.U) (e4++R):=aM Qu;have eY:aH (sS NC.U) (e4++R):=aM Xm;have nV:aH (CY F4.U) (e4++R):=aM a3v;have AE:aH (gT x0.U) (e4++R):=aM aII;apply(oD);refine aG x9 ?_;apply(pI);refine lJ (E:=L) (G:=e4++R) nL ?hp ?c2 ?bD;case hp=>exact⟨(⟨s',0,cN,0,x0.U,F4.U,NC.U,iA,u9,bS.U⟩:cF),e4,by rw[X],⟨aDL.aK.mono Uc,aDL.held.mono Uc,AE,nV,eY,w4.mono a08,dY⟩,λ_=>⟨fJ.FP,rfl,fJ.a6w,rfl,JD,tK,b2,vP,HH,kS,rfl,bEi⟩,λh=>absurd X h,rfl,rfl⟩
 case c2=>exact a2
 case bD=>exact aWs
end
section
variable{g:hQ}{p:b0}
structure DW(p q:b0):Prop where
 c5:q.c5=p.c5
 held:q.held=p.held
 eJ:q.eJ=p.eJ
def DW.refl(p:b0):DW p p:=⟨rfl,rfl,rfl⟩
def DW.trans{p q r:b0}(h:DW p q)(k:DW q r):DW p r:=⟨k.c5.trans h.c5,k.held.trans h.held,k.eJ.trans h.eJ⟩
def aOv(z:Int):DW p (zB g p z):=by rw[zB];split<;>exact⟨rfl,rfl,rfl⟩
def aOn: ∀(l:List Int) {p:b0},DW p (E6 g p l)
 |[],p=>.refl p
 |z::l,p=>(aOv z).trans (aOn l)
def aCR(kind:Int): ∀(l:List Int) {p:b0},DW p (xH kind p l)
 |[],p=>.refl p
 |z::l,p=>DW.trans (q:=o7 p kind z 0) ⟨rfl,rfl,rfl⟩ (aCR kind l)
def b5t(dO:List Int)(z:Nat):DW p (L8 g dO p z):=by
 rw[L8];split;·exact .refl p
 ·exact DW.trans (q:={p with aS:=p.aS.set z ⟨true,(p.aS.getD z default).clear,v0 (g.aK.aU.l.getD z default).jQ.l dO⟩}) ⟨rfl,rfl,rfl⟩ (aOv _)
def aMB(dO:List Int): ∀k,DW p (n8 g dO p k)
 |0=>.refl p
 |k+1=>(aMB dO k).trans (b5t dO k)
def b3a(t:Int):DW p (bM g p t):=by rw[bM];refine DW.trans ?_ (aMB _ _);rw[NG];refine DW.trans ?_ (aCR _ _);refine DW.trans ?_ (aCR _ _);refine DW.trans (q:=iV g {p with time:=t}) ?_ ⟨rfl,rfl,rfl⟩;rw[iV];exact DW.trans (q:={p with time:=t,eF:=_,aS:=_}) ⟨rfl,rfl,rfl⟩ (aOn _)
def b3V(p:b0):Prop:=∀c∈p.aS,c.off=true
def b1n{l:List b8}(h:∀c∈l,c.off=true){i:Nat}(aA:i<l.length):(l.getD i default).off=true:=h _ (gU (iL (l:=l) (k:=i) default aA))
def aL9(dO:List Int)(h:b3V p): ∀k,k<=p.aS.length->n8 g dO p k=p
 |0,_=>rfl
 |k+1,hk=>by
  rw[n8,aL9 dO h k D,L8,if_pos (.inl (b1n h D))]
end
section
variable{a:bR}{s:cE}{x:q2}(h:N0 a s x)
include h
include h
end
section
attribute [local irreducible] cH c6 dP aI cJ eD e9 e0 e1 e5 eS e8 J.L
end
section
variable(b Aa:Nat)
end
section
attribute [local irreducible] cH c6 dP aI cJ eD e9 e0 e1 e5 eS e8 J.L
def aOl(x y:a0 Int)(L:aP)(R:aJ)(K:aH (cZ x) R)(aN:aH (cZ y) R)(X:x.l=y.l):
 aI prog 56 [x.val,y.val].toArray L R (λv E G=>v=.bool true/\L=E/\R=G):=by
 have HJ:x.l.length=y.l.length:=by rw[X]
 refine nN call56 K λOZ=>?_;refine bW 26 call56 func56 ?_;apply TM∘nO∘nO∘qP;apply(W)<;>intro aO;·apply(OA);refine lG L R ?_;exact absurd aO D
 apply(zH);refine c7 [(0,.slice _ _ _),(1,.slice _ _ _),(5,.int _ _)] bP λeZ=>?_;refine gP ([4,5]++b4 11 15) (λg:{k:Nat//k<=x.l.length}=>[(5,.int .i64 ((g.1:Nat):Int))]) (λg=>x.l.length-g.1) (⟨0,by omega⟩) ?_;rintro⟨k,hk⟩ bZ;try dsimp only
 apply(uA);apply(W)<;>intro bF;·
  have N:=bJ x.l k 0;have V:=bJ y.l k 0;rw[<-X]at V;rw[X]at V;refine dK (aZ (a6 (e3 (a6 ?_))));refine gJ O [0,1,2,3,4,5,6,7,8] _ cX bE g3 ?_;refine a4 oG ?_;apply FF∘lW;refine a4 oG ?_;apply FF∘lW;refine a4 LR ?_;apply(vW);apply(W)<;>intro b2;·apply(FC);refine lG L R ?_;exact absurd (show x.l.getD k 0=y.l.getD k 0 by rw[X]) b2
  exact a8Z
 exact Jt
section
variable(b Aa:Nat)
end
section
variable{s:dQ}{len sZ ho:Int}(h:Yd s len sZ ho)
include h
def b25:hO s.bU=0:=by
 obtain⟨N,V,aQ,b7,eG,gF,iF,_,KX,⟨C5,bJa⟩,_⟩:=h;obtain⟨⟨⟨⟨EI,eW,bS⟩,⟨PE,Wc,fN⟩⟩,⟨bIW,nE,Z⟩,⟨bIP,bIQ,sZ⟩⟩,We,Ts,GI,ps⟩:=s;dsimp only at N V aQ b7;subst N V aQ b7;have:len=1\/len=2\/len=3\/len=4:=by omega
 rcases this with rfl|rfl|rfl|rfl<;>rfl
def aA0:QF s:=by
 have ha:=b25 h;obtain⟨N,V,aQ,b7,eG,gF,⟨z,iF,lY,iX,R3,a8W⟩,_,KX,M⟩:=h;refine⟨ha,by rw[eG,gF,iF,KX];simp,λi aA=>?_,λc hc=>?_,λy aN=>?_,λp hp=>?_⟩;·
  rw[eG]at aA|-;obtain rfl:i=0:=by simp only[sK,EV]at aA;omega
  rw[yK,if_neg bH,if_neg,if_neg (by rintro⟨k,hk,_⟩;omega)];rw[J7,V];show¬¬((0:Int)<=0/\(0:Int)<1);decide
 ·
  rw[gF]at hc;rw[List.mem_singleton.1 hc,H9,if_neg,if_neg (by show¬((0:Int)<0\/(1099511627776:Int)<0);decide),if_pos aE,KN,if_pos];·show(100:Int)<=1000000/\(0:Int)<=60/\(60:Int)<100/\0<=sZ/\sZ<=100000;omega
  ·rw[eG,V];show¬(0:Int)≠0;decide
 ·
  rw[iF]at aN;rw[List.mem_singleton.1 aN,CR,lY,gF,V,if_neg (by show¬H8 _ 1≠0;decide),if_neg D,if_neg];rintro⟨i,aA,hb⟩;rw[R3]at aA hb;obtain rfl:i=0:=by simp only[sK,EV]at aA;omega
  revert hb;show¬AB 1 [0] 0;decide
 ·rw[KX]at hp;simp only[vC,x7,or_false]at hp;omega
end
end
section
variable{s:dQ}{len sZ ho:Int}(h:Yd s len sZ ho)
include h
def b2K{t:Int}(dS:0<=t/\t<=2147483648):uO s 1 1 t=0:=by obtain⟨z,iF,_⟩:=h.dI;rw[uO,(aA0 h).pT,if_neg bH,if_neg (by rw[iF,h.aD];simp),if_neg D]
def b3Q{c:List b8}{Z:List a9}{t:Int}(hc:c.length=1)(hf:Z.length=1)(dS:0<=t/\t<=2147483648):p9 s c Z u9 0 0 t=sF s c Z 0 t:=by rw[p9,hc,hf,b2K h dS,if_neg bH,if_neg bH,if_neg];rw[h.Vt];decide
end
def a74(n:Nat):List bL:=(List.range n).map λ(i:Nat)=>⟨(i:Int)-1,0,-1,false,false⟩
section
variable{s:dQ}{len sZ ho:Int}{f:hI}{A:List Bool}(h:Yd s len sZ ho)
include h
def aRb{n:Nat}(hn:1<=n/\n<=3)(N:f.aT.l=SJ n)(V:f.aU.l=[(n:Int)-1])(aQ:f.cA=3):s7 s f=0:=by
 obtain⟨z,iF,_⟩:=h.dI;have iJ:i6 f.aT.l f.aU.l f.cA=0:=by
  rw[N,V,aQ];have:n=1\/n=2\/n=3:=by omega
  rcases this with rfl|rfl|rfl<;>decide
 rw[s7,(aA0 h).pT,if_neg bH,iJ,if_neg bH,if_neg (by rw[V,iF];simp),if_neg];rintro⟨x,K,C5⟩;rw[N,SJ,List.mem_map]at K;obtain⟨i,_,rfl⟩:=K;exact C5 rfl
def Wf:List bL:=[⟨-1,0,0,false,false⟩]
def B1(t:Int):b0:=⟨t,[],0,[CC],[⟨true,-1,t⟩],[⟨true,-1,0⟩],Wf,u9,[]⟩
def aQS(N:f.aT.l=SJ 1):Er s f=B1 0:=by obtain⟨z,iF,_⟩:=h.dI;rw[Er,h.LJ,h.dD,iF,N];rfl
def b9k(N:f.aT.l=SJ 1)(V:f.aU.l=[0])(aQ:f.cA=3)(dR:Inv (u3 s f A) (B1 0)):bM (u3 s f A) (B1 0) 2=B1 2:=by
 obtain⟨z,iF,DH,_⟩:=h.dI;have nX:=dR.at (t:=2) (by show(0:Int)<=2;decide) bH;have a7w:=nX.a2G;have hk:∀t,rL s.cD.l [CC] 0 t=kY:=λt=>by rw[rL,if_neg];rintro⟨_,_,C5⟩;exact absurd (show(-1:Int)=0 from C5) bH
 have cI:yI (NY sZ).nI ⟨true,-1,0⟩ kY 2=⟨true,-1,2⟩:=rfl;have hv:o5 (u3 s f A) {B1 0 with time:=2}=[0]:=by
  rw[o5,JO,if_neg (by rw[a7w];decide)];show[OJ s.cD.l [CC] _ (s.dD.l.getD 0 default) ⟨true,-1,0⟩ 2]=[0];rw[h.dD];show[OJ s.cD.l [CC] _ (NY sZ) ⟨true,-1,0⟩ 2]=[0];have:OJ s.cD.l [CC] (fC (u3 s f A) {B1 0 with time:=2}) (NY sZ) ⟨true,-1,0⟩ 2=0:=by rw[OJ,if_neg (show¬(NY sZ).kind=5 by show¬(1:Int)=5;decide),if_neg (show¬(NY sZ).kind=2 by show¬(1:Int)=2;decide),if_neg (show¬(NY sZ).kind=3 by show¬(1:Int)=3;decide),if_neg (show¬(NY sZ).kind=4 by show¬(1:Int)=4;decide)];show(if(yI _ _ (rL s.cD.l [CC] 0 2) 2).over=false then(-1:Int)else if xG (rL s.cD.l [CC] 0 2) 100=1 then 1 else 0)=0;rw[hk,cI];decide
  rw[this]
 have cV:p5 s [CC] [⟨true,-1,0⟩] (fC (u3 s f A) {B1 0 with time:=2}) 2=[⟨true,-1,2⟩]:=by have bE3:qW s [CC] [⟨true,-1,0⟩] (fC (u3 s f A) {B1 0 with time:=2}) 2=0:=a7w;rw[p5,if_neg (by rw[bE3];decide)];show[GS s.cD.l [CC] (s.dD.l.getD 0 default) ⟨true,-1,0⟩ 2]=_;rw[h.dD];show[GS s.cD.l [CC] (NY sZ) ⟨true,-1,0⟩ 2]=_;rw[GS,if_pos (show(NY sZ).kind=1 from rfl)];show[yI _ _ (rL s.cD.l [CC] 0 2) 2]=_;rw[hk,cI]
 have nQ:q6 s [0] [⟨true,-1,0⟩] 2=0:=by rw[q6,(aA0 h).pT,if_neg bH,if_neg (by rw[iF,h.dD];simp),if_neg bH]
 have hc:qA s [0] [⟨true,-1,0⟩] 2=[⟨true,-1,0⟩]:=by rw[qA,if_neg (by rw[nQ];decide)];show[WY (v0 (s.aU.l.getD 0 default).jQ.l [0]) ⟨true,-1,0⟩ 2]=_;rw[iF];show[WY (v0 z.jQ.l [0]) ⟨true,-1,0⟩ 2]=_;rw[DH];decide
 have hn:AD s [0] [⟨true,-1,0⟩] 2=[]:=by rw[AD,if_neg (by rw[nQ];decide)];show(if v0 _ _≠-1/\true=false then _ else[])=([]:List Int);rw[if_neg (λh=>by cases h.2)]
 have uF:iV (u3 s f A) {B1 0 with time:=2}=B1 2:=by rw[iV,hv];show E6 _ {B1 0 with time:=2,eF:=p5 s [CC] [⟨true,-1,0⟩] (fC (u3 s f A) {B1 0 with time:=2}) 2,aS:=qA s [0] [⟨true,-1,0⟩] 2} (AD s [0] [⟨true,-1,0⟩] 2)=_;rw[cV,hc,hn];rfl
 rw[bM];rw[uF];have BO:NG (u3 s f A) (B1 2)=B1 2:=by rw[NG];show xH 2 (xH 3 {B1 2 with aB:=o6 [⟨true,-1,0⟩] u9,aF:=(oL Wf f.cA 2).aF} (oL Wf f.cA 2).bV) (oL Wf f.cA 2).U3=_;rw[aQ];have:oL Wf 3 2=⟨Wf,[],[]⟩:=rfl;rw[this,o6,if_pos (.inl rfl)];rfl
 rw[BO];exact aL9 _ (λc hc=>by rw[List.mem_singleton.1 hc]) _ (g4 _)
def b34(N:f.aT.l=SJ 1)(V:f.aU.l=[0])(aQ:f.cA=3)(gI:lS s.bU.Y A):
 zZ (u3 s f A) (Er s f) 0 0 2=({B1 2 with eM:=[⟨2,7,0,20⟩]},20):=by
 have bQ:=aRb (f:=f) h (n:=1) ⟨by decide,by decide⟩ N (by rw[V];rfl) aQ;have dR:=a9Y (A:=A) bQ gI;rw[aQS h N]at dR|-;have nX:=b9k h N V aQ dR;have aSj:=dR.settle (t:=2) (by show(0:Int)<=2;decide) bH;rw[nX]at aSj;have fW:=aSj.aDq;obtain⟨z,iF,DH,_⟩:=h.dI;have X:p9 s [⟨true,-1,0⟩] (fC (u3 s f A) (B1 2)) u9 0 0 2=20:=by rw[b3Q h rfl (by rw[fW];show s.bU.Y.aD.l.length=1;rw[h.aD];rfl) ⟨by decide,by decide⟩,sF,if_neg bH,iF];show TO s _ ⟨true,-1,0⟩ z 2=20;rw[TO,if_neg bH,if_pos (.inl (.inl bH))]
 rw[zZ,if_neg (by rw[o8];show¬((2:Int)<0\/_);decide)];dsimp only;rw[nX];show(if p9 s [⟨true,-1,0⟩] (fC (u3 s f A) (B1 2)) u9 0 0 2≠0 then(o7 (B1 2) 7 0 (p9 s [⟨true,-1,0⟩] (fC (u3 s f A) (B1 2)) u9 0 0 2),p9 s [⟨true,-1,0⟩] (fC (u3 s f A) (B1 2)) u9 0 0 2)else _)=_;rw[X,if_pos bH];rfl
end
section
attribute [local irreducible] cH c6 dP aI cJ eD e9 e0 e1 e5 eS e8 J.L
structure b1h(f:hI)(n:Nat):Prop where
 F8:1<=n/\n<=3
 aF:f.aT.l=SJ n
 cG:f.aU.l=[(n:Int)-1]
 bT:f.cA=3
def b5f(c:Nat)(x:a0 Int)(k:Nat)(R:aJ)(K:jK x R)(hk:k<=x.l.length):
 aI prog 15 [.pointer (some ⟨c,0,none⟩)].toArray [eT c x k] R
  (λv E G=>∃(s:dQ) (len sZ ho:Int) (f:hI) (n b5:Nat),v=.tuple #[s.val,f.val]/\Yd s len sZ ho/\b1h f n/\(b5<=x.l.length/\(x.l.length<=k->len=1/\sZ=1/\ho=1/\n=1/\b5=k))/\(zX s G/\k9 f G/\∀r∈R,aH r G)/\eT c x b5::[]=E):=by refine aI.a75 (b6N c x k R K hk) ?_;rintro v E G c w ⟨s,len,sZ,ho,aF,cG,n,b5,rfl,c1,⟨u6,X7⟩,hn,oA,tL,RD,⟨hs,bD⟩,rfl⟩ cI;have N:=cI.TZ (eQ:=[]) u6 bI bH lQ;have V:=N.TZ (eQ:=[]) X7 bI bH lQ;have aQ:∀r∈G,aH r (cZ cG.U::uT aF.U::G):=λr M=>aM (.tail _ (.tail _ M));exact⟨_,_,V,s,len,sZ,ho,⟨aF.U,cG.U,3⟩,n,b5,rfl,c1,⟨hn,oA,tL,rfl⟩,RD,⟨hs.mono aQ,⟨aM (.tail _ (.head _)),aM (.head _)⟩,λr M=>(bD r M).mono aQ⟩,rfl⟩
end
def a9C(l:List Int):ByteArray:=⟨(l.map λn=>UInt8.ofNat n.toNat).toArray⟩
section
variable{P:Program}{bA:Operand->Value}{L:aP}{R:aJ}{dst:Option Tmp}{ty:TypeId}{pos:String}{after:Array Edge}{guard:Option (Nat×Bool)}(O:pP P){T jD:TypeId}{x y:Operand}
def aJH{jB:jT}(h:H4 P T=some jB)(hk:jB.k=.string):P.underlying T=some .string:=by obtain⟨i,u,z,aA,c4,eC,rfl⟩:=MA h;cases u<;>simp[KA]at hk;rw[c4]
def aMo{xs:a0 Int}{e sC iA gK lY fL iN cS iX YC a0X dG R3}(dN:hT O.g2 T=some ⟨.slice e,sC,iA,gK,lY⟩)(c1:hT O.g2 e=some ⟨.int .u8,fL,iN,cS,iX⟩)(dW:hT O.g2 jD=some ⟨.string,YC,a0X,dG,R3⟩)(K:bA x=xs.val)(bD:aH (hA xs) R)(hb:n2 xs.l):
 cJ P ⟨dst,.convert T jD x,ty,pos,after,guard⟩ bA L R (.string (a9C xs.l)):=λc w cI=>by
 obtain⟨j6,cap,l⟩:=xs
 dsimp only at K bD hb|-
 have a8h:=QX (O.ok _ _ dN) rfl
 have a8i:=aAj (O.ok _ _ c1) rfl
 have aHD:=aJH (O.ok _ _ dW) rfl
 have aTM:0<l.length->∃b off,j6=some ⟨b,off,none⟩:=λM4=>by
  have rA:=cI
  obtain⟨⟨aC,bX,_⟩,_,_⟩:=rA
  obtain⟨r,M,l6⟩:=bD
  have HK:=(bX.p3 r M).sub l6
  cases HK with
  |mk _ _ _ _ hm _=>
   rcases hm with h|⟨b,off,ha,_⟩
   ·have cN:=congrArg List.length h
    simp at cN
    rw[cN]at M4
    simp at M4
   ·exact⟨b,off,ha⟩
 have hl:(l.map λn=>UInt8.ofNat n.toNat).length=l.length:=uQ _
 have key:(convert T jD (.slice j6 l.length cap)).run P w=.ok (.string (a9C l)) w:=by
  cases j6 with
  |some a=>
   have N:=run_convert_bytes_back (P:=P) w T jD e a cap (l.map λn=>UInt8.ofNat n.toNat) a8h a8i aHD (λj aY=>by
    have OW:j<l.length:=by rw[hl]at aY;exact aY
    have hg:=ET OW
    have hc:=a3O cI bD (i:=j) (j:=0) (row:=m3 l[j]) (by rw[pF,hg];rfl) (v:=.int .u8 l[j]) rfl
    have bJn:=hb _ (aIf OW)
    have dY:((l.map λn=>UInt8.ofNat n.toNat)[j].toNat:Int)=l[j]:=by
     rw[List.getElem_map,UInt8.toNat_ofNat']
     omega
    rw[dY]
    obtain⟨b,off,ha⟩:=aTM D
    obtain rfl:=y2 ha
    have bAF:(Addr.add ⟨b,off,none⟩ j)=⟨zI (some ⟨b,off,none⟩),pJ (some ⟨b,off,none⟩) 1 j 0,none⟩:=by
     rw[Addr.add]
     split
     ·rename_i bQ;subst bQ;rfl
     ·show(⟨b,off+j,none⟩:Addr)=⟨b,off+j*1+0,none⟩
      rw[Nat.mul_one,Nat.add_zero]
    rw[bAF];exact hc)
   rw[hl]at N
   exact N
  |none=>
   rcases a8y l.length with bQ|bQ
   ·obtain rfl:=List.length_eq_zero_iff.1 bQ
    rw[run_convert_bytes_string w T jD e none _ cap a8h a8i aHD]
    simp[Conv.bytesToString,a9C]
    rfl
   ·obtain⟨b,off,ha⟩:=aTM bQ
    cases ha
 simp[execOp,K,key]
def b47{a b:ByteArray}{sC iA gK lY}(dN:hT O.g2 T=some ⟨.string,sC,iA,gK,lY⟩)(K:bA x=.string a)(aN:bA y=.string b)(h:a=b):cJ P ⟨dst,.binOp .eql T x y jD,ty,pos,after,guard⟩ bA L R (.bool true):=λ_ w _=>by
 have aHD:=aJH (O.ok _ _ dN) rfl
 subst h
 simp[execOp,K,aN,eqGuard,binOp,Op.stringOp]
end
section
def Ff(h:A->B:=by exact(eO lR ·)):=h
def Fh(h:A->B:=by exact(eO (GN Qq) ·)):=h
def aCi(h:A->B:=by exact hF O [] [0,1] [2,3] ([a5.mk I2 _ _]) _ cX bE a2 dT):=h
def aJl(h:A->B:=by exact(eO R9 ·)):=h
def aLs(h:A->B:=by exact hF O [] [0,1] [2,3] ([a5.mk gL _ _]) _ cX bE a2 dT):=h
def aOL(h:A->B:=by exact(aG lR ·)):=h
def b7s{A:aP}{R:aJ}{b:Nat}{T:TypeId}{f:IL}{Z:a0 a9}(jN:(⟨b,IL.cells f,T⟩:a5)∈A)(fW:aH (s3 Z) R)(hn:-4611686018427387904<=f.BZ/\f.BZ<=4611686018427387904)(aE0:Z.l.length<=1000):
 aI prog 298 [Z.val,.slice (some ⟨b,0,none⟩) 1 1].toArray A R (λw E G=>∃p:J Int,w=p.val/\p.ok 1 aL/\p.l=[rJ Z.l f]/\A++(p.L 3 aL++[])=E/\R=G):=by
 have V:=aI.Hz (S:=[a9z (⟨some ⟨b,0,none⟩,1,[f]⟩:a0 IL)]) (Post:=λv E=>∃p:J Int,v=p.val/\p.ok 1 aL/\p.l=[rJ Z.l f]/\p.L 3 aL++[]=E) (y8.aB (L:=A)) (λw aC bX s hs=>by
  rw[List.mem_singleton.1 hs];exact HA (p:=(⟨.own b 1 [],[f]⟩:J IL)) (T:=T) bX (λe X=>by(have wG:e∈[(⟨b,IL.cells f,T⟩:a5)]:=by simpa[J.L,gZ.L]using X);rw[List.mem_singleton.1 wG];exact jN) (V4 bI rfl bH) bI bH lQ)
  ((b43 Z ⟨some ⟨b,0,none⟩,1,[f]⟩ [] _ (fW.mono λr h=>aM (.tail _ h)) n1 (λz eC=>by rw[List.mem_singleton.1 eC];exact hn) (show 1<=1000 by decide) aE0).mono λv E G ⟨p,N,V,aQ,b7,eG⟩=>⟨⟨p,N,V,aQ.trans aMM,b7⟩,eG⟩)
 exact V.mono λv iM G ⟨E,e,⟨p,N,V,aQ,b7⟩,eG⟩=>⟨p,N,V,aQ,by rw[b7];exact e,eG⟩
def b30{S:List fA}{m:List eA}{Z:List a9}{c:m9}{w:fR}{t:Int}{fQ:a9}(UB:fQ=rL S m c.target t):OJ S m Z c w t=
 if c.kind=5 then -(rJ Z ⟨c.target,c.value⟩)else if c.kind=2 then -(xG fQ c.value)else if c.kind=3 then Jz fQ else if c.kind=4 then(if fQ=kY then 1 else -1)
 else if(yI c.nI w fQ t).over=false then -1 else if xG fQ c.nI.cut=1 then 1 else 0:=by rw[OJ,<-UB]
attribute [local irreducible] cH c6 dP aI cJ eD e9 e0 e1 e5 eS e8 J.L
def b4r(s:dQ)(c:m9)(w:fR)(m:a0 eA)(Z:a0 a9)(t:Int)(L:aP)(R:aJ)(hs:aH (z9 s.cD) R)(hm:aH (gT m) R)(fW:aH (s3 Z) R)(hok: ∀x∈m.l,w9 x)(dS:0<=t/\t<=2147483648)
 (hk:1<=c.kind/\c.kind<=5) (hv:0<=c.value/\c.value<=1099511627776) (BP:Z.l.length<=1000):
 aI prog 292 [s.val,c.val,w.val,m.val,Z.val,.int .i64 t].toArray L R
  (λv E G=>v=.tuple #[.int .i64 (if E7 c w t=0 then OJ s.cD.l m.l Z.l c w t else 0),(if E7 c w t=0 then GS s.cD.l m.l c w t else w).val,.int .i64 (E7 c w t)]/\L=E/\R=G):=by
 obtain⟨fQ,UB⟩:∃fQ,fQ=rL s.cD.l m.l c.target t:=⟨_,rfl⟩;have Hu:=b30 (Z:=Z.l) (w:=w) UB;have Br:GS s.cD.l m.l c w t=if c.kind=1 then yI c.nI w fQ t else w:=by rw[GS,UB]
 have DG:E7 c w t=if c.kind=1 then A5 c.nI w t else 0:=rfl;refine bW 86 call292 func292 ?_;apply(c8);intro hP;apply(iU);intro kL;apply(iU);intro gL;apply dE∘dA;intro FM;apply KL∘mT;apply(W)<;>intro aO;·
  have qB:E7 c w t=0:=by rw[DG,if_neg D]
  have FY:-1<=rJ Z.l ⟨c.target,c.value⟩/\rJ Z.l ⟨c.target,c.value⟩<=1:=by rw[rJ,HB];(repeat' split)<;>omega
  refine a6 ?_;refine Dt O [] [0,1,2,3,4,5,11,6,7,8,9,10,12] [13,14] ([a5.mk gL _ _,a5.mk kL _ _]) [] 13 cX bE rfl rfl a2 λmE=>?_;refine kN 0 mE dT rfl oG ?_;refine kN 1 mE dT rfl sM ?_;refine kN 2 mE dT rfl E1 ?_;refine kN 3 mE dT rfl sM ?_;refine kN 4 mE dT rfl E1 ?_;refine kN 5 mE dT rfl Xo ?_;refine kN 11 mE dT rfl lR ?_;refine kI [6] mE dT bE ?_;apply(kU);refine pO rfl Qy rfl rfl ?_;rintro v E G ⟨bIA,rfl,rfl,aD6⟩;replace aD6:=aD6.symm;subst aD6;apply(fS);refine kI [7] mE dT bE ?_;apply(kU);refine pO rfl (aLQ rfl (b7s (f:=⟨c.target,c.value⟩) (.head _) fW k1 BP)) rfl rfl ?_;rintro v E G ⟨p,rfl,iB,eB,rfl,rfl⟩;refine⟨a2,gN,?_⟩;simp only[mQ,oF,m0];have g0:p.l[0]?=some (rJ Z.l ⟨c.target,c.value⟩):=by rw[eB];rfl
  have l5:p.l.length=1:=by rw[eB];rfl
  refine kI [8] mE dT bE ?_;apply(kU);refine pO rfl (Go.Proofs.YtchfclmokpbldaaGreat.cJ.aDC (h4 O (p) _ rfl rfl rfl rfl bC (i:=0) cW iC)) rfl rfl ?_;rintro v E G ⟨rfl,rfl,rfl⟩;apply(fS);refine kI [9] mE dT bE ?_;apply(kU);refine pO rfl (Go.Proofs.YtchfclmokpbldaaGreat.cJ.aDC R8) rfl rfl ?_;rintro v E G ⟨rfl,rfl,rfl⟩;apply(fS);refine kN 10 mE dT rfl Qw ?_;refine kN 12 mE dT rfl (GN Qq) ?_;refine Dz mE dT bE rfl ?_;apply(wX);refine gS (aZ (iT (gD ?_)));refine lJ (E:=L) (G:=R) De ?hp ?c2 ?bD;case hp=>exact⟨by rw[if_pos qB,if_pos qB,qB,Br,if_neg D,Hu,if_pos aO],rfl,rfl⟩
  case c2=>exact(by repeat(first|exact aHZ _ _|apply LV))
  case bD=>exact mB _
 apply(eR);refine aG qI ?_;apply hM∘gE;refine cC rfl (a9G s m c.target t _ _ hs hm hok dS) ?_;rw[<-UB];apply(dA);intro Lq;apply(G6);refine eI (aZ (e3 (a6 (cR ?_))));apply(v8);apply(W)<;>intro bF;·
  refine a6 ?_;refine hF O [] [0,1,2,5,3,4,6] [7,8] ([a5.mk Lq _ _,a5.mk gL _ _,a5.mk kL _ _]) _ cX bE a2 dT ?_;apply aJl∘l1∘Ff;refine k2 rfl (a9F fQ c.value _ _) rfl rfl ?_;rintro v E G ⟨rfl,rfl,rfl⟩;refine⟨a2,gN,?_⟩;have Nj:-1<=xG fQ c.value/\xG fQ c.value<=1:=by rw[xG];(repeat' split)<;>omega
  refine eO Qw ?_;apply Fh∘p7∘qD;refine gS (aZ (iT (iS (gD ?_))));refine bN L R De ?_;have qB:E7 c w t=0:=by rw[DG,if_neg D]
  exact⟨by rw[if_pos qB,if_pos qB,qB,Br,if_neg D,Hu,if_neg aO,if_pos bF],rfl,rfl⟩
 apply(oX);apply(W)<;>intro b2;·
  refine a6 ?_;refine hF O [] [0,2,1,3] [4,5] ([a5.mk Lq _ _,a5.mk gL _ _]) _ cX bE a2 dT ?_;apply aJl∘Ff;refine k2 rfl (b7U fQ _ _) rfl rfl ?_;rintro v E G ⟨rfl,rfl,rfl⟩;refine⟨a2,gN,?_⟩;apply Fh∘p7∘qD;refine gS (aZ (iT (iS (gD ?_))));refine bN L R De ?_;have qB:E7 c w t=0:=by rw[DG,if_neg D]
  exact⟨by rw[if_pos qB,if_pos qB,qB,Br,if_neg D,Hu,if_neg aO,if_neg bF,if_pos b2],rfl,rfl⟩
 apply(oX);apply(W)<;>intro dZ;·
  have qB:E7 c w t=0:=by rw[DG,if_neg D]
  refine a6 (a6 ?_);refine gJ O [0,1,2] ([a5.mk Lq _ _]) cX bE a2 ?_;apply(YF);refine k6 rfl JV ?_;refine a4 (a5X Kx rfl rfl) ?_;apply(vW);apply(W)<;>intro dX;·refine a6 ?_;apply aLs∘Ff∘Fh∘p7∘qD;refine gS (aZ (iT (gD (iS (gD ?_)))));refine bN L R De ?_;exact⟨by rw[if_pos qB,if_pos qB,qB,Br,if_neg D,Hu,if_neg aO,if_neg bF,if_neg b2,if_pos dZ,if_pos (W1.2 D)],rfl,rfl⟩
  apply x2∘aLs∘Ff∘Fh∘p7∘qD;refine gS (aZ (iT (iS (gD ?_))));refine bN L R De ?_;exact⟨by rw[if_pos qB,if_pos qB,qB,Br,if_neg D,Hu,if_neg aO,if_neg bF,if_neg b2,if_pos dZ,if_neg (λe=>by rw[W1]at e;omega)],rfl,rfl⟩
 have e6:c.kind=1:=by omega
 rw[if_pos e6]at Br DG;refine dK (gV (aZ (a6 (cR ?_))));apply eP∘aOL∘aOL∘oC∘b1;refine cC rfl (b5L c.nI w fQ t _ _) ?_;refine aG iR ?_;apply(G7);intro I2;apply i3∘TJ;apply(W)<;>intro h3;·refine a6 ?_;refine hF O [73] [0,1,2] [3,4] ([a5.mk gL _ _]) _ cX bE a2 dT ?_;apply(Ff);refine m5 zV ?_;apply Fh∘p7∘qD;refine gS (aZ (iT (gD ?_)));refine bN L R De ?_;exact⟨by rw[if_neg (by rw[DG];exact h3),if_neg (by rw[DG];exact h3),DG],rfl,rfl⟩
 have F1:A5 c.nI w t=0:=by omega
 rw[a4p F1];apply GW∘oW;apply(W)<;>intro hW;·refine a6 ?_;apply aCi∘Ff∘Fh∘p7∘qD;refine gS (aZ (iT (gD ?_)));refine bN L R De ?_;exact⟨by rw[DG,F1,if_pos rfl,if_pos rfl,Br,Hu,if_neg aO,if_neg bF,if_neg b2,if_neg dZ,if_pos Xs],rfl,rfl⟩
 apply iK∘oC∘FE;refine cC rfl (a9F fQ c.nI.cut _ _) ?_;apply(mT);apply(W)<;>intro oO;·refine a6 ?_;apply aCi∘Ff∘Fh∘p7∘qD;refine gS (aZ (iT (gD ?_)));refine bN L R De ?_;exact⟨by rw[DG,F1,if_pos rfl,if_pos rfl,Br,Hu,if_neg aO,if_neg bF,if_neg b2,if_neg dZ,if_neg Xs,if_pos oO],rfl,rfl⟩
 apply x2∘aCi∘Ff∘Fh∘p7∘qD;refine gS (aZ (iT ?_));refine bN L R De ?_;exact⟨by rw[DG,F1,if_pos rfl,if_pos rfl,Br,Hu,if_neg aO,if_neg bF,if_neg b2,if_neg dZ,if_neg Xs,if_neg oO],rfl,rfl⟩
end
section
attribute [local irreducible] cH c6 dP aI cJ eD e9 e0 e1 e5 eS e8 J.L
def Ka(h:A->B:=by exact(a4 oG ·)):=h
def a55(h:B:=by exact⟨.nil,.nil,by rw[X];rfl,⟨J.g6,J.g6⟩,by rw[JO,if_pos D],by rw[p5,if_pos D],by rw[lT,lT];rfl,rfl⟩):=h
def aOt(h:A->B:=by exact pO rfl (j2 (f:=aL) (p:=p) (a:=OJ s.cD.l m.l Z.l c sH t) O rfl rfl rfl rfl (iB) c0 j8 rfl kH) rfl rfl):=h
def aA2(h:A->B:=by exact pO rfl Js rfl rfl):=h
def b59(h:A->B:=by exact pO rfl (j2 (f:=fR.cells) (p:=q) (a:=GS s.cD.l m.l c sH t) O rfl rfl rfl rfl (gG) c0 j8 rfl kH) rfl rfl):=h
def b44(h:A->B:=by exact(kN 8 OR dT rfl A0 ·)):=h
def b3n(h:A->B:=by exact(kN 9 OR dT rfl A0 ·)):=h
def aKA(h:A->B:=by exact gJ O [0,1,2,3,4,5,6,7,8] ([]) cX bE a2):=h
def b2V(s:dQ)(m:a0 eA)(w:a0 fR)(Z:a0 a9)(t:Int)(L:aP)(R:aJ)(h:aNu s m w Z R):
 aI prog 263 [s.val,m.val,w.val,Z.val,.int .i64 t].toArray L R
  (λv E G=>∃(p:J Int) (q:J fR),v=.tuple #[p.val,q.val,.int .i64 (qW s m.l w.l Z.l t)]/\(p.ok 1 aL/\q.ok 3 fR.cells)/\p.l=JO s m.l w.l Z.l t/\q.l=p5 s m.l w.l Z.l t/\p.L 3 aL++(q.L 153 fR.cells++L)=E/\R=G):=by
 obtain⟨hs,hm,cV,fW,hok⟩:=h;have jA:=hs.cD;have C7:=hs.dD;refine bW 92 call263 func263 ?_;apply(c8);intro eH;apply yG∘g7;refine aG qI ?_;refine cC rfl (a5T s _ _ hs) ?_;apply(kB);apply(W)<;>intro aO;·
  apply yF∘ME;refine bN L R HX ?_;have X:qW s m.l w.l Z.l t=oI s:=by rw[qW,if_pos aO]
  exact a55
 have u6:=KP (s:=s) D;have oA:=u6.len;have UQ:=(zE u6.bU).Y.aD;apply Z0∘lM∘rO;apply cB (aC:=[_,_,_,_,_,_]) (j:=6) (a7:=31) rfl rfl aE rfl aW rfl;·exact a9r
 intro JG;apply(c9);apply cB (aC:=[_,_,_,_,_,_,_,_]) (j:=14) (a7:=39) rfl rfl aE rfl aW rfl;·intro qT;replace qT:=a8 qT;exact aI6
 intro UX;apply(b3);apply(W)<;>intro bF;·
  apply cO∘ME;refine bN L R HX ?_;have X:qW s m.l w.l Z.l t=11:=by rw[qW,if_neg D,if_pos D]
  exact a55
 apply(OB);apply cB (aC:=[_,_]) (j:=2) (a7:=51) rfl rfl aE rfl aW rfl;·exact GG
 intro mY;apply(b3);apply(W)<;>intro b2;·
  apply cO∘ME;refine bN L R HX ?_;have X:qW s m.l w.l Z.l t=8:=by rw[qW,if_neg D,if_neg D,if_pos D]
  exact a55
 have DG:=aJV (s:=s) (m:=m.l) (w:=w.l) (Z:=Z.l) (t:=t) D D D;apply eR∘vG∘WN;refine c7 [(1,.slice _ _ _),(2,.slice _ _ _),(3,.slice _ _ _),(4,.int _ _),(5,.pointer _),(14,.slice _ _ _),(15,.slice _ _ _),(16,.int _ _)] bP λeZ=>?_;refine mC ([10,11,12]++b4 14 6++b4 55 35) ((⟨λg=>[(16,.int .i64 ((g.1.1:Nat):Int)),(14,g.1.2.1.val),(15,g.1.2.2.val)],λg=>g.1.2.1.L 3 aL++(g.1.2.2.L 153 fR.cells++(⟨eH,s.cells,38⟩::L)),λ_=>R,λg=>w.l.length-g.1.1⟩:dV {g:Nat×J Int×J fR//(g.1<=w.l.length/\(List.range w.l.length).findSome? (JZ s w.l t)=((List.range w.l.length).drop g.1).findSome? (JZ s w.l t))/\(g.2.1.ok 1 aL/\g.2.2.ok 3 fR.cells)/\g.2.1.l=(List.range g.1).map (Kq s m.l w.l Z.l t)/\g.2.2.l=(List.range g.1).map (Ec s m.l w.l t)})) (⟨(0,J.nil,J.nil),⟨by dsimp only;omega,by rw[Jd]⟩,⟨J.g6,J.g6⟩,rfl,rfl⟩) bP (by dsimp only;rw[lT,lT,m0,m0];exact oR _) fF ?_;rintro⟨⟨k,p,q⟩,⟨hk,hp⟩,⟨iB,gG⟩,eB,gB⟩ bZ;try dsimp only
 dsimp only at hk hp iB gG eB gB;have l5:p.l.length=k:=by rw[eB];simp
 have rV:q.l.length=k:=by rw[gB];simp
 apply(uA);apply(W)<;>intro dZ;·
  have rR:=bJ s.dD.l k default;have a2a:=bJ w.l k default;have a1q:=aO6 (u6.cond _ (gU rR));have aTB:=KH (f:=JZ s w.l t) hp D;have nG:=λ(e:Int) (X:JZ s w.l t k=some e)=>zC (f:=JZ s w.l t) hp D X;have Hq:(List.range (k+1)).map (Kq s m.l w.l Z.l t)=(List.range k).map (Kq s m.l w.l Z.l t)++[Kq s m.l w.l Z.l t k]:=by rw[LO,wP];rfl
  have aTI:(List.range (k+1)).map (Ec s m.l w.l t)=(List.range k).map (Ec s m.l w.l t)++[Ec s m.l w.l t k]:=by rw[LO,wP];rfl
  obtain⟨c,hc⟩:∃c,c=s.dD.l.getD k default:=⟨_,rfl⟩;obtain⟨sH,Bu⟩:∃sH,sH=w.l.getD k default:=⟨_,rfl⟩;have aGE:JZ s w.l t k=zR (E7 c sH t):=by rw[hc,Bu]
  have aGF:Kq s m.l w.l Z.l t k=OJ s.cD.l m.l Z.l c sH t:=by rw[hc,Bu]
  have a7x:Ec s m.l w.l t k=GS s.cD.l m.l c sH t:=by rw[hc,Bu]
  rw[<-hc]at rR a1q;rw[<-Bu]at a2a;rw[aGE]at aTB nG;rw[aGF,<-eB]at Hq;rw[a7x,<-gB]at aTI;refine dK (aZ (a6 (e3 (a6 ?_))));refine gJ O [0,1,2,3,4,5,6,7,8,9,10,11,12,13,14,15,16,17,18,19,20,21] ([a5.mk eH _ _]) cX bE a2 ?_;refine a4 qI ?_;apply(KK);refine a4 a26 ?_;apply Ka∘FF∘PC∘Ka∘Ka∘g1;refine k6 rfl (b4r s c sH m Z t _ _ jA hm fW hok D a1q.1 a1q.2.1 D) ?_;refine a4 iR ?_;iterate 3 refine a4 sL ?_
  apply(p2);intro MK;apply qD∘wX∘LI∘b1∘qP;apply(W)<;>intro dX;·apply yF∘yG∘dE∘Pt;refine bN L R HX ?_;have iJ:=nG (E7 c sH t) (a4C dX);(have X:qW s m.l w.l Z.l t=E7 c sH t:=by rw[DG,iJ];rfl);exact a55
  have qB:E7 c sH t=0:=by omega
  have M2:=aTB (by rw[zR,if_pos qB]);rw[if_pos qB,if_pos qB];refine dK (aZ ?_);refine Dt O [] [0,1,4,5,2,3,6,7,8,9] [] ([a5.mk MK _ _]) [] 10 cX bE rfl rfl a2 λOR=>?_;refine kN 0 OR dT rfl oG ?_;refine kN 1 OR dT rfl zV ?_;refine kN 4 OR dT rfl oG ?_;refine kN 5 OR dT rfl lR ?_;refine kI [2,6] OR dT bE ?_;refine o1 ?_ ?_;·
   skip
   apply(In);rintro v E G ⟨Fz,rfl,rfl,zL⟩;replace zL:=zL.symm;subst zL;apply(fS);refine kI [3,6] OR dT bE ?_;refine o1 ?_ ?_;·
    skip
    apply(aOt);rintro v E G ⟨Pq,rfl,Hk,rfl,rfl⟩;apply(fS);refine kI [6] OR dT bE ?_;apply kU∘aA2;rintro v E G ⟨a6p,rfl,rfl,D9⟩;replace D9:=D9.symm;subst D9;exact b0x
   apply kU∘aA2;rintro v E G ⟨a6p,rfl,rfl,D9⟩;replace D9:=D9.symm;subst D9;exact aYL
  apply kU∘aA2;rintro v E G ⟨a6p,rfl,rfl,D9⟩;replace D9:=D9.symm;subst D9;apply(fS);refine kI [2] OR dT bE ?_;apply kU∘In;rintro v E G ⟨Fz,rfl,rfl,zL⟩;replace zL:=zL.symm;subst zL;exact aYL
 obtain rfl:k=w.l.length:=by omega
 have hn:=KO (f:=JZ s w.l t) hp (g4 _);have X:qW s m.l w.l Z.l t=0:=by rw[DG,hn];rfl
 apply S5∘hM∘yG∘q3;refine bN (p.L 3 aL++(q.L 153 fR.cells++L)) R HX ?_;exact⟨p,q,by rw[X];try rfl,⟨iB,gG⟩,by rw[JO,if_neg D];exact eB,by rw[p5,if_neg D];exact gB,rfl,rfl⟩
def b3g(x y:a0 fR)(L:aP)(R:aJ)(K:aH (CY x) R)(aN:aH (CY y) R)(X:x.l=y.l):
 aI prog 126 [x.val,y.val].toArray L R (λv E G=>v=.bool true/\L=E/\R=G):=by
 have HJ:x.l.length=y.l.length:=by rw[X]
 refine nN call126 K λOZ=>?_;refine bW 26 call126 func126 ?_;apply TM∘nO∘nO∘qP;apply(W)<;>intro aO;·exact a8X
 apply(zH);refine c7 [(0,.slice _ _ _),(1,.slice _ _ _),(5,.int _ _)] bP λeZ=>?_;refine gP ([4,5]++b4 11 15) (λg:{k:Nat//k<=x.l.length}=>[(5,.int .i64 ((g.1:Nat):Int))]) (λg=>x.l.length-g.1) (⟨0,by omega⟩) ?_;rintro⟨k,hk⟩ bZ;try dsimp only
 apply(uA);apply(W)<;>intro bF;·
  have rB:=bJ x.l k default;have Bz:y.l[k]?=some (x.l.getD k default):=by rw[<-X];exact rB
  refine dK (aZ (a6 (e3 (a6 ?_))));apply aKA∘Ka∘FF∘PC∘Ka∘FF∘PC;refine a4 (Kj b4P rfl rfl GC GC rfl) ?_;exact Wk
 exact Jt
def b6Y(x y:a0 b8)(L:aP)(R:aJ)(K:aH (sS x) R)(aN:aH (sS y) R)(X:x.l=y.l):
 aI prog 69 [x.val,y.val].toArray L R (λv E G=>v=.bool true/\L=E/\R=G):=by
 have HJ:x.l.length=y.l.length:=by rw[X]
 refine nN call69 K λOZ=>?_;refine bW 26 call69 func69 ?_;apply TM∘nO∘nO∘qP;apply(W)<;>intro aO;·exact a8X
 apply(zH);refine c7 [(0,.slice _ _ _),(1,.slice _ _ _),(5,.int _ _)] bP λeZ=>?_;refine gP ([4,5]++b4 11 15) (λg:{k:Nat//k<=x.l.length}=>[(5,.int .i64 ((g.1:Nat):Int))]) (λg=>x.l.length-g.1) (⟨0,by omega⟩) ?_;rintro⟨k,hk⟩ bZ;try dsimp only
 apply(uA);apply(W)<;>intro bF;·
  have rB:=bJ x.l k default;have Bz:y.l[k]?=some (x.l.getD k default):=by rw[<-X];exact rB
  refine dK (aZ (a6 (e3 (a6 ?_))));apply aKA∘Ka∘FF∘PC∘Ka∘FF∘PC;refine a4 (Kj b2D rfl rfl GC GC rfl) ?_;exact Wk
 exact Jt
end
section
def a5A(h:A->B:=by exact(a4 oG ·)):=h
def aQr(h:A->B:=by exact gJ O [0,1,2,3,4,5,6,7,8] ([]) cX bE a2):=h
def aMG(h:A->B:=by exact(a4 Dc ·)):=h
def aPl(h:A->B:=by exact(a4 aIS ·)):=h
def aQX(h:A->B:=by exact(aG lR ·)):=h
def aNn(h:A->B:=by exact(aG E0 ·)):=h
def aKs:SN prog 150 [.i,.i,.i,.i]:=
 Ep [(3,[.i]),(3,[.i]),(3,[.i]),(3,[.i])] bE bE bE bE rfl (by
  intro p hp
  simp only[vC,x7,or_false]at hp
  rcases hp with rfl|rfl|rfl|rfl<;>exact A3 bE)
def b7I:SN prog 159 [.i,.b]:=
 Ep [(3,[.i]),(4,[.b])] bE bE bE bE rfl (by
  intro p hp
  simp only[vC,x7,or_false]at hp
  rcases hp with rfl|rfl
  ·exact A3 bE
  ·exact Ky bE)
def b66{T:TypeId}{jB:jT}(h:hT O.g2 T=some jB):∃i,prog.info? T=some i:=by obtain⟨i,u,z,aA,_⟩:=MA (O.ok _ _ h);exact⟨i,aA⟩
def aBh{d:Nat}:Dj prog (d+2) 90 [.i,.i]:=by obtain⟨i,aA⟩:=b66 (T:=90) rfl;exact b2d (bS:=[(3,[.i]),(3,[.i])]) bE bE aA bE bE (by intro p hp;simp only[vC,x7,or_false]at hp;rcases hp with rfl|rfl<;>exact A3 bE)
def b63:SN prog 93 [.i,.i,.i,.i]:=
 Ep [(3,[.i]),(3,[.i]),(90,[.i,.i])] bE bE bE bE rfl (by
  intro p hp
  simp only[vC,x7,or_false]at hp
  rcases hp with rfl|rfl|rfl
  ·exact A3 bE
  ·exact A3 bE
  ·exact aBh)
def b1o:SN prog 157 [.i,.i,.i,.i,.b,.b,.i,.i,.i,.i]:=
 Ep [(3,[.i]),(3,[.i]),(3,[.i]),(3,[.i]),(4,[.b]),(4,[.b]),(90,[.i,.i]),(90,[.i,.i])] bE bE bE bE rfl (by
  intro p hp
  simp only[vC,x7,or_false]at hp
  rcases hp with rfl|rfl|rfl|rfl|rfl|rfl|rfl|rfl
  ·exact A3 bE
  ·exact A3 bE
  ·exact A3 bE
  ·exact A3 bE
  ·exact Ky bE
  ·exact Ky bE
  ·exact aBh
  ·exact aBh)
attribute [local irreducible] cH c6 dP aI cJ eD e9 e0 e1 e5 eS e8 J.L
def b3j(x y:a0 fK)(L:aP)(R:aJ)(K:aH (iY x) R)(aN:aH (iY y) R)(X:x.l=y.l):
 aI prog 64 [x.val,y.val].toArray L R (λv E G=>v=.bool true/\L=E/\R=G):=by
 have HJ:x.l.length=y.l.length:=by rw[X]
 refine J2 call64 K λOZ=>?_;refine bW 26 call64 func64 ?_;apply TM∘nO∘nO∘qP;apply(W)<;>intro aO;·exact a8X
 apply(zH);refine c7 [(0,.slice _ _ _),(1,.slice _ _ _),(5,.int _ _)] bP λeZ=>?_;refine gP ([4,5]++b4 11 15) (λg:{k:Nat//k<=x.l.length}=>[(5,.int .i64 ((g.1:Nat):Int))]) (λg=>x.l.length-g.1) (⟨0,by omega⟩) ?_;rintro⟨k,hk⟩ bZ;try dsimp only
 apply(uA);apply(W)<;>intro bF;·
  have rB:=bJ x.l k default;have Bz:y.l[k]?=some (x.l.getD k default):=by rw[<-X];exact rB
  refine dK (aZ (a6 (e3 (a6 ?_))));apply aQr∘a5A∘FF∘Cp∘a5A∘FF∘Cp;refine a4 (Kj aKs rfl rfl GC GC rfl) ?_;exact Wk
 exact Jt
def b8v(x y:a0 eA)(L:aP)(R:aJ)(K:aH (gT x) R)(aN:aH (gT y) R)(X:x.l=y.l):
 aI prog 61 [x.val,y.val].toArray L R (λv E G=>v=.bool true/\L=E/\R=G):=by
 have HJ:x.l.length=y.l.length:=by rw[X]
 refine J2 call61 K λOZ=>?_;refine bW 26 call61 func61 ?_;apply TM∘nO∘nO∘qP;apply(W)<;>intro aO;·exact a8X
 apply(zH);refine c7 [(0,.slice _ _ _),(1,.slice _ _ _),(5,.int _ _)] bP λeZ=>?_;refine gP ([4,5]++b4 11 15) (λg:{k:Nat//k<=x.l.length}=>[(5,.int .i64 ((g.1:Nat):Int))]) (λg=>x.l.length-g.1) (⟨0,by omega⟩) ?_;rintro⟨k,hk⟩ bZ;try dsimp only
 apply(uA);apply(W)<;>intro bF;·
  have rB:=bJ x.l k default;have Bz:y.l[k]?=some (x.l.getD k default):=by rw[<-X];exact rB
  refine dK (aZ (a6 (e3 (a6 ?_))));apply aQr∘a5A∘FF∘Cp∘a5A∘FF∘Cp;refine a4 (Kj b63 rfl rfl GC GC rfl) ?_;exact Wk
 exact Jt
def b9U(m w:hZ)(L:aP)(R:aJ)(hm:N1 m R)(cV:N1 w R)(N:m.places.l=w.places.l)(V:m.aD.l=w.aD.l)(hn:m.places.l.length<=1000/\m.aD.l.length<=1000):
 aI prog 127 [m.val,w.val].toArray L R (λv E G=>v=.bool true/\L=E/\R=G):=by
 have kE:=hm.places;have EC:=cV.places;have RI:=hm.aD;have X2:=cV.aD;have Az:m.places.l.length=w.places.l.length:=by rw[N]
 have XV:m.aD.l.length=w.aD.l.length:=by rw[V]
 refine bW 59 call127 func127 ?_;apply(c8);intro cS;apply(iU);intro dG;apply IQ∘lM∘lM∘rO;apply cB (aC:=[_,_,_,_,_,_,_]) (j:=7) (a7:=14) rfl rfl aE rfl aW rfl;·intro hX;replace hX:=a8 hX;exact(lM) Ji
 intro RP;apply(b3);apply(W)<;>intro aO;·apply(OA);refine lG L R ?_;exact absurd XV D
 apply(zH);refine c7 [(2,.pointer _),(3,.pointer _),(5,.int _ _)] bP λeZ=>?_;refine gP ([4,5]++b4 23 18) (λg:{k:Nat//k<=m.places.l.length}=>[(5,.int .i64 ((g.1:Nat):Int))]) (λg=>m.places.l.length-g.1) (⟨0,by omega⟩) ?_;rintro⟨k,hk⟩ bZ;try dsimp only
 apply(oJ);apply(W)<;>intro bF;·
  have rB:=bJ m.places.l k default;have Bz:w.places.l[k]?=some (m.places.l.getD k default):=by rw[<-N];exact rB
  refine dK (aZ (a6 (e3 (a6 ?_))));refine gJ O [0,1,2,3,4,5,6,7,8,9,10] _ cX bE g3 ?_;apply KK∘YH∘KK∘YH;refine a4 (Kj b7I rfl rfl GC GC rfl) ?_;exact Wk
 apply(G0);refine c7 [(2,.pointer _),(3,.pointer _),(6,.int _ _)] bP λnS=>?_;refine gP ([4,6]++b4 41 18) (λg:{j:Nat//j<=m.aD.l.length}=>[(6,.int .i64 ((g.1:Nat):Int))]) (λg=>m.aD.l.length-g.1) (⟨0,by omega⟩) ?_;rintro⟨j,aY⟩ bZ;try dsimp only
 apply(oJ);apply(W)<;>intro dZ;·
  have rB:=bJ m.aD.l j default;have Bz:w.aD.l[j]?=some (m.aD.l.getD j default):=by rw[<-V];exact rB
  refine dK (aZ (a6 (e3 (a6 ?_))));refine gJ O [0,1,2,3,4,5,6,7,8,9,10] _ cX bE g3 ?_;apply oV∘aMG∘aPl∘oV∘aMG∘aPl;refine a4 (Kj b1o rfl rfl GC GC rfl) ?_;apply(vW);apply(W)<;>intro dX;·apply(FC);refine lG L R ?_;exact absurd dX b0k
  apply(mD);exact dU (⟨j+1,by omega⟩)
 exact Jt
def b4K(x y:cF)(L:aP)(R:aJ)(K:lK x R)(aN:lK y R)(hb:n2 x.held.l)(dY:x.time=y.time)(eY:x.eJ=y.eJ)(nV:x.held.l=y.held.l)(AE:x.c5.l=y.c5.l)(Af:x.eF.l=y.eF.l)(bAB:x.aS.l=y.aS.l)(aDo:x.cP.aT.l=y.cP.aT.l/\x.cP.aU.l=y.cP.aU.l/\x.cP.cA=y.cP.cA)(bAC:x.aB=y.aB)(bAD:x.eM.l=y.eM.l)(aR0:x.aK.bU.Y.places.l=y.aK.bU.Y.places.l/\x.aK.bU.Y.aD.l=y.aK.bU.Y.aD.l)(bAA:x.aK.aU.l.length=y.aK.aU.l.length)
 (hn:x.aK.bU.Y.places.l.length<=1000/\x.aK.bU.Y.aD.l.length<=1000):
 aI prog 53 [x.val,y.val].toArray L R (λv E G=>v=.bool true/\L=E/\R=G):=by
 have bCO:=K.held;have Uq:=aN.held;have AJ:n2 y.held.l:=by rw[<-nV];exact hb
 refine bW 94 call53 func53 ?_;apply(c8);intro cS;apply(iU);intro dG;apply QU∘kJ∘tC;apply iZ (aC:=[_,_,_,_,_,_,_]) (j:=5) (a7:=10) rfl rfl aE rfl aW rfl;·intro k5;replace k5:=a8 k5;exact(FE∘FE) LP
 intro Ce;apply(c9);apply iZ (aC:=[_,_,_,_,_,_,_,_,_]) (j:=14) (a7:=19) rfl rfl aE rfl aW rfl;·intro qT;replace qT:=a8 qT;apply(FE);refine aG (aMo O rfl rfl rfl rfl bCO hb) ?_;apply(FE);refine aG (aMo O rfl rfl rfl rfl Uq AJ) ?_;refine aG (b47 O rfl rfl rfl (by rw[nV])) ?_;exact hL
 intro UX;apply(c9);apply iZ (aC:=[_,_,_,_,_]) (j:=25) (a7:=30) rfl rfl aE rfl aW rfl;·intro RB;replace RB:=a8 RB;apply(kJ);refine cC rfl (b8v x.c5 y.c5 _ _ K.c5 aN.c5 AE) ?_;exact hL
 intro bKp;apply(c9);apply iZ (aC:=[_,_,_,_,_]) (j:=32) (a7:=37) rfl rfl aE rfl aW rfl;·intro aSS;replace aSS:=a8 aSS;apply(kJ);refine cC rfl (b3g x.eF y.eF _ _ K.eF aN.eF Af) ?_;exact hL
 intro bKr;apply(c9);apply iZ (aC:=[_,_,_,_,_]) (j:=39) (a7:=44) rfl rfl aE rfl aW rfl;·intro aST;replace aST:=a8 aST;apply(kJ);refine cC rfl (b6Y x.aS y.aS _ _ K.aS aN.aS bAB) ?_;exact hL
 intro bKu;apply(c9);apply iZ (aC:=[_,_,_,_,_]) (j:=46) (a7:=51) rfl rfl aE rfl aW rfl;·intro aSU;replace aSU:=a8 aSU;apply eP∘aQX∘eP∘aQX;refine cC rfl (b7r x.cP y.cP _ _ K.cP aN.cP aDo.1 aDo.2.1 aDo.2.2) ?_;exact hL
 intro bKv;apply(c9);apply iZ (aC:=[_,_,_,_,_]) (j:=53) (a7:=58) rfl rfl aE rfl aW rfl;·intro aSV;replace aSV:=a8 aSV;apply eP∘aNn∘eP∘aNn;refine aG (aJI b3p rfl rfl GC GC rfl) ?_;exact hL
 intro bKw;apply(c9);apply iZ (aC:=[_,_,_,_,_]) (j:=60) (a7:=65) rfl rfl aE rfl aW rfl;·intro aSW;replace aSW:=a8 aSW;apply(kJ);refine cC rfl (b3j x.eM y.eM _ _ K.eM aN.eM bAD) ?_;exact hL
 intro bKx;apply(c9);apply iZ (aC:=[_,_,_,_,_,_,_,_,_]) (j:=67) (a7:=72) rfl rfl aE rfl aW rfl;·
  intro aSX;replace aSX:=a8 aSX;iterate 3 apply(eP)
  apply(oC);iterate 3 apply(eP)
  apply(oC);refine cC rfl (b9U x.aK.bU.Y y.aK.bU.Y _ _ K.aK.bU.YB aN.aK.bU.YB aR0.1 aR0.2 hn) ?_;exact hL
 intro bKy;apply(c9);apply iZ (aC:=[_,_,_,_,_,_,_,_,_]) (j:=78) (a7:=83) rfl rfl aE rfl aW rfl;·intro aSY;replace aSY:=a8 aSY;exact(z3∘z3) LP
 intro bKz;apply(v9);refine lG L R ?_;exact⟨by rw[dY,eY,bAC,bAA];simp[CP,Yv],rfl,rfl⟩
def h5.aHx{g:hQ}{p:b0}{x y:cF}{L:aP}{R:aJ}(dR:Inv g p)(K:h5 g p x)(aN:h5 g p y)(N:lK x R)(V:lK y R):
 aI prog 53 [x.val,y.val].toArray L R (λv E G=>v=.bool true/\L=E/\R=G):=by have Gn:=(zE dR.bU).Y;have e:=K.aK.trans aN.aK.symm;refine b4K x y L R N V (by rw[K.held];exact dR.held.1) (K.time.trans aN.time.symm) (K.eJ.trans aN.eJ.symm) (K.held.trans aN.held.symm) (K.c5.trans aN.c5.symm) (K.eF.trans aN.eF.symm) (K.aS.trans aN.aS.symm) ⟨K.aF.trans aN.aF.symm,K.cG.trans aN.cG.symm,K.bT.trans aN.bT.symm⟩ (K.aB.trans aN.aB.symm) (K.eM.trans aN.eM.symm) ⟨fZ.places e,fZ.aD e⟩ (fZ.a7O e) ?_;rw[fZ.places K.aK,fZ.aD K.aK];have:=Gn.places;have:=Gn.aD;omega
end
section
attribute [local irreducible] cH c6 dP aI cJ eD e9 e0 e1 e5 eS e8 J.L
def Sk(h:A->B:=by exact(aG VJ ·)):=h
def a5f(h:A->B:=by exact(kM E1 ·)):=h
def aMp(h:A->B:=by exact(kM a9i ·)):=h
def b3D(L:aP)(R:aJ):aI prog 51 ([]:List Value).toArray L R (λv E G=>v=.bool true/\L=E/\R=G):=by
 refine bW 62 call51 func51 ?_;apply aOE∘jW;refine Sz 1 ?_;apply(eK);refine cK (aOa ⟨none,0,[]⟩ _ _ ⟨aM (.head _),λi q hq=>by simp at hq⟩) ?_;rintro v E G ⟨c,rfl,K,rfl,rfl⟩;refine cK (aI.Cs (.MM .aB) (b5f c _ 0 _ K (AY _))) ?_;rintro v E G ⟨_,rfl,s,len,sZ,ho,f,n,eU,rfl,c1,w3,⟨e6,qB⟩,⟨hs,hf,XK⟩,rfl⟩;refine aG iR ?_;apply(G7);intro gK;apply(dA);intro cS;apply i3∘G5;obtain⟨rfl,rfl,rfl,rfl,_⟩:=qB (AY _);have uH:∀r∈R,aH r G:=λr M=>XK r (.tail _ (.tail _ M));obtain⟨A,gI⟩:=aJd s.bU.Y;refine uV (E:=⟨cS,f.cells,42⟩::⟨gK,s.cells,38⟩::L) (aHZ _ _) fF ?_;have bQ:=aRb (f:=f) c1 w3.F8 w3.aF w3.cG w3.bT;have dR:=a9Y (A:=A) bQ gI;have hq:=b34 (f:=f) (A:=A) c1 w3.aF w3.cG w3.bT gI;apply(eK);refine aG qI ?_;refine aG lR ?_;refine cK (b10 s f A _ _ hs hf gI) ?_;rintro v E G ⟨x,r5,rfl,Hv,M4,_,rfl,rfl⟩;rw[bQ];have K:=M4 bQ;refine aG iR ?_;apply(G7);intro dG;apply i3∘mL;refine aG x9 ?_;refine cK (aQw (u3 s f A) (Er s f) x 0 0 2 _ _ dR K Hv) ?_;rintro v E G ⟨y,e2,rfl,aN,jZ,rfl,rfl⟩;rw[hq]at aN|-;refine aG iR ?_;apply(G7);intro eH;apply i3∘zG;obtain⟨z,iF,_⟩:=c1.dI;have aT2:x.aS.l=[⟨true,-1,0⟩]:=by rw[K.aS,aQS c1 w3.aF];rfl
 have aGO:y.eM.l=[⟨2,7,0,20⟩]:=aN.eM;have HF:x.aS.l.length=1:=by rw[aT2];rfl
 have kD:y.eM.l.length=1:=by rw[aGO];rfl
 have rR:x.aS.l[0]?=some ⟨true,-1,0⟩:=by rw[aT2];rfl
 have xQ:y.eM.l[0]?=some ⟨2,7,0,20⟩:=by rw[aGO];rfl
 have aGI:=Hv.mono (G:=e2++(r5++G)) λr M=>aM (mA _ M);have C7:=aGI.aS;have BS:=jZ.eM;have hv:tX x (e2++(r5++G)):=tX.of dR K aGI.aK aGI.c5;have bCF:(KE x.aK (u3 s f A).bU x.c5.l x.time).length=1:=by rw[h5.g8 K,dR.aDq];exact congrArg List.length c1.aD
 apply p8∘tC;refine GK (k:=25) aW (λfD=>?_) (λfD=>?_);·
  replace fD:=a8 fD;refine kM sM ?_;apply(a5f);refine kM vZ ?_;refine kM B7 ?_;apply Sk∘c9;refine GK (k:=31) aW (λgM=>?_) (λgM=>?_);·
   replace gM:=a8 gM;refine kM sM ?_;apply a5f∘aMp;refine kM Xe ?_;refine kM Jo ?_;apply Sk∘c9;refine GK (k:=38) aW (λw5=>?_) (λw5=>?_);·
    replace w5:=a8 w5;refine kM zV ?_;refine kM B7 ?_;apply Sk∘c9;refine GK (k:=42) aW (λDB=>?_) (λDB=>?_);·
     replace DB:=a8 DB;refine kM sM ?_;apply(a5f);refine kM vZ ?_;refine kM B7 ?_;apply Sk∘c9;refine GK (k:=48) aW (λRB=>?_) (λRB=>?_);·
      replace RB:=a8 RB;refine kM sM ?_;apply a5f∘aMp;refine kM a9f ?_;refine kM (mI (hN:=[(0,(Value.int _ _).cells.toList),(1,(Value.int _ _).cells.toList),(3,(Value.int _ _).cells.toList)]) (cU:=[_,_,_,_]) O rfl rfl rfl rfl) ?_;refine kM (aJI aKs rfl rfl GC GC rfl) ?_;apply Sk∘c9;refine GK (k:=56) aW (λAx=>?_) (λAx=>?_);·
       replace Ax:=a8 Ax;refine kM x9 ?_;refine Lp rfl (a3M x (u3 s f A).bU _ _ hv (fZ.xI K.aK dR.xI)) rfl rfl ?_;rintro v E G ⟨Z,rfl,fW,rfl,rfl⟩;refine kM vZ ?_;refine kM B7 ?_;apply Sk∘v9;refine lJ (E:=L) (G:=R) (pG rfl VO) ?hp ?c2 ?bD;case hp=>exact⟨by simp[fW,bCF],rfl,rfl⟩
       case c2=>exact a2
       case bD=>exact λr M=>(uH r M).mono λr M=>aM EZ
      replace Ax:=a8 Ax;exact absurd (show true=false from Ax) bH
     replace RB:=a8 RB;(first|exact absurd rfl RB|(simp at RB;done)|(simp[HF,kD]at RB;done)|exact absurd bH RB)
    replace DB:=a8 DB;(first|exact absurd rfl DB|(simp at DB;done)|(simp[HF,kD]at DB;done)|exact absurd bH DB)
   replace w5:=a8 w5;(first|exact absurd rfl w5|(simp at w5;done)|(simp[HF,kD]at w5;done)|exact absurd bH w5)
  replace gM:=a8 gM;(first|exact absurd rfl gM|(simp at gM;done)|(simp[HF,kD]at gM;done)|exact absurd bH gM)
 replace fD:=a8 fD;(first|exact absurd rfl fD|(simp at fD;done)|(simp[HF,kD]at fD;done)|exact absurd bH fD)
def Ta(h:A->B:=by exact(aG x9 ·)):=h
structure ZC where
 kind:Int
 n:Int
 m:Int
 l9:Int
 bytes:List Int
structure v7 where
 kind:Int
 n:Int
 m:Int
 l9:Int
 bytes:a0 Int
def v7.cells(x:v7):List Value:=[.int .i64 x.kind,.int .i64 x.n,.int .i64 x.m,.int .i64 x.l9,x.bytes.val]
abbrev v7.val(x:v7):Value:=.agg #[.int .i64 x.kind,.int .i64 x.n,.int .i64 x.m,.int .i64 x.l9,x.bytes.val]
def v7.p(x:v7):ZC:=⟨x.kind,x.n,x.m,x.l9,x.bytes.l⟩
instance:Inhabited v7:=⟨⟨0,0,0,0,⟨none,0,[]⟩⟩⟩
instance:Inhabited ZC:=⟨⟨0,0,0,0,[]⟩⟩
structure Yb(a:ZC):Prop where
 n:-1000<=a.n/\a.n<=1000
 m:-1000<=a.m/\a.m<=1000
 l9:-2147483648<=a.l9/\a.l9<=2147483648
 bytes:n2 a.bytes
 len:a.bytes.length<=100000
def G8(a:ZC):Prop:=a.kind=0\/a.kind=1\/a.kind=2
instance(a:ZC):Decidable (G8 a):=by unfold G8;infer_instance
def b1H{a:ZC}(bQ:¬a.kind=0)(N:¬a.kind=1):decide (a.kind=2)=decide (G8 a):=by
 rcases GA (a.kind=2)with h|h;·rw[decide_eq_true h,decide_eq_true (p:=G8 a) (.inr (.inr h))]
 ·rw[decide_eq_false h,decide_eq_false (p:=G8 a) (by unfold G8;omega)]
def sO(g:hQ)(p:b0)(a:ZC):b0×Int:=
 if G8 a then IK g p a.bytes (p.time+a.l9)
 else if a.kind=3 then CW g p a.n (a.m-1) (p.time+a.l9)
 else if a.kind=4 then zZ g p a.n a.m (p.time+a.l9)
 else if a.kind=5 then CQ g p a.n (p.time+a.l9)
 else if a.kind=6 then CE g p (p.time+a.l9)
 else IJ g p (p.time+a.l9)
def Inv.done{g:hQ}{p:b0}(h:Inv g p){a:ZC}(ha:Yb a):Inv g (sO g p a).1:=by
 rw[sO];split;·exact h.bAL ha.bytes _
 split;·exact h.b98 _ _ _
 split;·exact h.b99 _ _ _
 split;·exact h.bAx _ _
 split;·exact h.close _
 ·exact h.bGP _
def b1B(g:hQ)(p:b0)(x:cF)(a:v7)(L:aP)(R:aJ)(dR:Inv g p)(K:h5 g p x)(bD:lK x R)(Q7:aH (hA a.bytes) R)(ha:Yb a.p)(OU:0<=p.eJ/\p.eJ<=1152921504606846976):
 aI prog 62 [x.val,a.val].toArray L R (Lo g (sO g p a.p) L R):=by
 have rX:=dR.time;have O0:=K.time;have cV:-2147483648<=a.l9/\a.l9<=2147483648:=ha.l9;have hm:-1000<=a.m/\a.m<=1000:=ha.m;have a6Q:a.p.kind=a.kind:=rfl;refine bW 69 call62 func62 ?_;apply(c8);intro cS;apply(iU);intro dG;apply(dA);intro cT;apply mL∘kJ∘l8∘KL;refine eI (aZ (e3 (a6 (a6 (cR ?_)))));apply(v8);refine v2 [14,16,17] ((⟨λq=>[(14,.bool q.1)],λ_=>⟨cT,r2.cells,54⟩::⟨dG,a.cells,144⟩::⟨cS,x.cells,54⟩::L,λ_=>R,λ_=>0⟩:dV {b:Bool//b=decide (G8 a.p)})) ?_ ?_;·
  skip
  exact aWp
 rintro⟨Ac,C6⟩ bZ;try dsimp only
 have bFb:((G8 a.p:Prop)↔Ac=true):=by rw[C6];simp
 apply(W)<;>intro b2;·
  have tJ:G8 a.p:=by simpa[C6]using b2
  have pU:sO g p a.p=IK g p a.bytes.l (x.time+a.l9):=by rw[sO,if_pos tJ,O0];rfl
  apply cO∘Ta∘gE;refine cK (b1G g p x a.bytes (x.time+a.l9) _ _ dR K bD Q7 ha.bytes ha.len OU) ?_;exact a3q
 have tJ:¬G8 a.p:=by simpa[C6]using b2
 apply(oX);apply(W)<;>intro dZ;·
  have pU:sO g p a.p=CW g p a.n (a.m-1) (x.time+a.l9):=by rw[sO,if_neg tJ,if_pos (show a.p.kind=3 from dZ),O0];rfl
  apply cO∘Ta∘kJ∘kP∘b1;refine cK (b1E g p x a.n (a.m-1) (x.time+a.l9) _ _ dR K bD) ?_;exact a3q
 apply(oX);apply(W)<;>intro dX;·
  have pU:sO g p a.p=zZ g p a.n a.m (x.time+a.l9):=by rw[sO,if_neg tJ,if_neg Jl,if_pos (show a.p.kind=4 from dX),O0];rfl
  apply cO∘Ta∘fH∘gE;refine cK (aQw g p x a.n a.m (x.time+a.l9) _ _ dR K bD) ?_;exact a3q
 apply(oX);apply(W)<;>intro h3;·
  have pU:sO g p a.p=CQ g p a.n (x.time+a.l9):=by rw[sO,if_neg tJ,if_neg Jl,if_neg Xp,if_pos (show a.p.kind=5 from h3),O0];rfl
  apply cO∘Ta∘gE;refine cK (b9f g p x a.n (x.time+a.l9) _ _ dR K bD) ?_;exact a3q
 apply(oX);apply(W)<;>intro hW;·
  have pU:sO g p a.p=CE g p (x.time+a.l9):=by rw[sO,if_neg tJ,if_neg Jl,if_neg Xp,if_neg a9a,if_pos (show a.p.kind=6 from hW),O0];rfl
  apply cO∘Ta∘b1;refine cK (b7R g p x (x.time+a.l9) _ _ dR K bD) ?_;exact a3q
 have pU:sO g p a.p=IJ g p (x.time+a.l9):=by rw[sO,if_neg tJ,if_neg Jl,if_neg Xp,if_neg a9a,if_neg (show¬a.p.kind=6 from hW),O0];rfl
 refine dK (gV (aZ (a6 (cR ?_))));apply Ta∘b1;refine cK (b5P g p x (x.time+a.l9) _ _ dR K bD) ?_;rintro v E G ⟨y,S,rfl,aN,jZ,rfl,rfl⟩;apply S1∘pI;refine bN L (S++R) nL ?_;exact⟨y,S,by rw[pU],by rw[pU];exact aN,jZ,rfl,rfl⟩
def b7G{a:Int}:a.fdiv (2^(min (8:Int).toNat IntKind.i64.bits))=a/256:=by show a.fdiv (2^8)=_;rw[a8H _ bH];rfl
def bGS{a:Int}(h:0<=a/\a<1048576):IntKind.u8.wrap a=a%256:=by obtain⟨n,rfl⟩:∃n:Nat,a=(n:Int):=⟨a.toNat,by omega⟩;unfold IntKind.wrap;simp[IntKind.bits,IntKind.signed]
def Py{a:Int}(h:0<=a/\a<=255):IntKind.u8.wrap a=a:=by obtain⟨n,rfl⟩:∃n:Nat,a=(n:Int):=⟨a.toNat,by omega⟩;exact aKJ D
def aI.bFJ{P:Program}{f:FuncId}{args:Array Value}{A:aP}{R:aJ}{p:J Int}{T:TypeId}{u:Value}(jN:sN (p.L T m3) A)(hok:p.ok 1 m3)(N:1<=p.l.length)
 (h:aI P f args [] (hA (oK p.U 1 1)::R) (λv E G=>v=u/\[]=E/\hA (oK p.U 1 1)::R=G)):aI P f args A R (λv E G=>v=u/\A=E/\R=G):=by
 refine Go.Proofs.YtchfclmokpbldaaGreat.aI.a7K (S:=[hA (oK p.U 1 1)]) (λw aC bX s hs=>?_) h;rw[List.mem_singleton.1 hs];have bQ:=HA bX jN hok bI bH (eQ:=[]) lQ;have V:=aRr bQ (m:=1) bH N bH;have dY:p.U.l.length-1=(p.U.l.drop 1).length:=by rw[F9]
 have eY:(p.U.l.map m3).drop 1=(p.U.l.drop 1).map m3:=by rw[List.map_drop]
 rw[dY,eY]at V;exact V
def PZ(f:D0):Int:=if(f.hV<0\/255<f.hV)\/f.kind<0\/255<f.kind then 1 else if 64<f.data.length then 2 else 0
def b8K(f:lE)(L:aP)(R:aJ)(hf:aH (hA f.data) R)(hb:n2 f.data.l):
 aI prog 83 [f.val].toArray L R (λv E G=>∃q:J Int,v=.tuple #[q.val,.int .i64 (PZ f.lI)]/\q.ok 1 m3/\q.l=(if PZ f.lI=0 then a0F f.lI else[])/\q.L 5 m3++L=E/\∀r∈R,aH r G):=by
 refine bW 53 call83 func83 ?_;apply(c8);intro gK;apply jS∘g7∘r8;apply cB (aC:=[_,_,_]) (j:=3) (a7:=9) rfl rfl aE rfl aW rfl;·exact GF
 intro iG;apply(c9);apply cB (aC:=[_,_,_]) (j:=8) (a7:=14) rfl rfl aE rfl aW rfl;·exact Ju
 intro wJ;apply(c9);apply cB (aC:=[_,_,_]) (j:=13) (a7:=19) rfl rfl aE rfl aW rfl;·exact Qz
 intro UW;apply(b3);apply(W)<;>intro aO;·
  apply TD∘z1;refine lJ (E:=L) (G:=R) B8 ?hp ?c2 ?bD;case hp=>(have X:PZ f.lI=1:=by rw[PZ,if_pos Qt]);exact aWu
  case c2=>exact a2
  case bD=>exact λr M=>aM M
 apply QR∘BA;apply(W)<;>intro bF;·
  apply TD∘z1;refine bN L R B8 ?_;have X:PZ f.lI=2:=by rw[PZ,if_neg Qt,if_pos Qt]
  exact aWu
 apply eR∘lM∘B3∘fH∘B3∘fH∘B3;refine gO (L0 (hN:=[(0,(Value.int _ _).cells.toList),(1,(Value.int _ _).cells.toList),(2,(Value.int _ _).cells.toList),(3,(Value.int _ _).cells.toList)]) (cU:=[_,_,_,_]) O rfl rfl rfl rfl rfl rfl rfl) rfl ?_;rintro v E G ⟨aDg,rfl,rfl,aD8⟩;replace aD8:=aD8.symm;subst aD8;apply(fH);have dY:IntKind.u8.wrap (f.data.l.length:Int)=f.data.l.length:=Py D;have eY:IntKind.u8.wrap f.hV=f.hV:=Py D;have nV:IntKind.u8.wrap f.kind=f.kind:=Py D;rw[dY,eY,nV];have a1S:(⟨.own aDg 4 [],[126,(f.data.l.length:Int),f.hV,f.kind]⟩:J Int).ok 1 m3:=⟨rfl,g4 _,by decide,rfl⟩;refine a9T (show _=(⟨.own aDg 4 [],[126,(f.data.l.length:Int),f.hV,f.kind]⟩:J Int).L 5 m3++(⟨gK,f.cells,118⟩::L) by(simp[J.L,gZ.L,m3,lE.cells,a0.val];rfl)) ?_;refine gO (Zd O (⟨.own aDg 4 [],[126,(f.data.l.length:Int),f.hV,f.kind]⟩:J Int) f.data rfl rfl rfl bH rfl rfl a1S hf c0 bI (by simp only[sK,EV];omega)) rfl ?_;rintro v E G ⟨U0,rfl,Uy,rfl,rfl⟩;apply(FG);have vR:(⟨U0,[126,(f.data.l.length:Int),f.hV,f.kind]++f.data.l⟩:J Int).l=P1 f.lI:=rfl;have Bt:n2 (P1 f.lI):=λx K=>by
  rw[<-vR]at K;simp only[oF,m0,vC]at K;rcases K with h|h|h|h|h;·omega
  ·omega
  ·omega
  ·omega
  ·exact hb x h
 have Np:=a4L (P1 f.lI).tail;rw[SA]at Np;apply(wC);refine aG (a4S (m:=1) (aR:=1) (u:=(⟨U0,[126,(f.data.l.length:Int),f.hV,f.kind]++f.data.l⟩:J Int).U) O rfl rfl rfl rfl rfl bH fX rfl) ?_;refine cC rfl (aI.bFJ x8 Uy fX (aKf (oK (⟨U0,[126,(f.data.l.length:Int),f.hV,f.kind]++f.data.l⟩:J Int).U 1 1) _ _ n1 (λx K=>Bt x (Jf K)))) ?_;apply(zG);have bAG:(oK (⟨U0,[126,(f.data.l.length:Int),f.hV,f.kind]++f.data.l⟩:J Int).U 1 1).l=(P1 f.lI).tail:=List.drop_one;rw[bAG];obtain⟨C3,aSK⟩:∃C3,C3=uZ (P1 f.lI).tail:=⟨_,rfl⟩;rw[<-aSK]at Np|-;have AE:IntKind.u8.wrap (C3/256)=C3/256:=Py D;have Af:IntKind.u8.wrap C3=C3%256:=bGS D;apply(yH);refine aG (Ys rfl rfl bH b7G) ?_;apply B3∘b1∘B3;refine gO a3s rfl ?_;rintro v E G ⟨a0M,rfl,rfl,Mu⟩;replace Mu:=Mu.symm;subst Mu;rw[AE,Af];refine JM 1 2 2 [m3 (C3/256),m3 (C3%256)] [] (λr M=>by rcases List.mem_cons.1 M with rfl|M;rfl;rw[List.mem_singleton.1 M];rfl) ?_;have bA3:aH (hA (⟨some ⟨a0M,0,none⟩,2,[C3/256,C3%256]⟩:a0 Int)) (hA (⟨some ⟨a0M,0,none⟩,2,[C3/256,C3%256]⟩:a0 Int)::R):=aM (.head _);refine gO (Zd O (⟨U0,[126,(f.data.l.length:Int),f.hV,f.kind]++f.data.l⟩:J Int) (⟨some ⟨a0M,0,none⟩,2,[C3/256,C3%256]⟩:a0 Int) rfl rfl rfl bH rfl rfl Uy bA3 c0 bI (by simp only[sK,EV,iD];omega)) rfl ?_;rintro v E G ⟨a7T,rfl,aFJ,rfl,rfl⟩;apply jS∘q3;refine bN ((⟨a7T,([126,(f.data.l.length:Int),f.hV,f.kind]++f.data.l)++[C3/256,C3%256]⟩:J Int).L 5 m3++L) (hA (⟨some ⟨a0M,0,none⟩,2,[C3/256,C3%256]⟩:a0 Int)::R) B8 ?_;have X:PZ f.lI=0:=by rw[PZ,if_neg Qt,if_neg Qt]
 exact⟨(⟨a7T,([126,(f.data.l.length:Int),f.hV,f.kind]++f.data.l)++[C3/256,C3%256]⟩:J Int),by rw[X];rfl,aFJ,by rw[X,if_pos rfl,aSK];rfl,rfl,λr M=>aM (.tail _ M)⟩
def aRf(h:A->B:=by exact(cK (nA hC K hk D) ·)):=h
def aK2(h:A->B:=by exact gO a3s rfl):=h
def aPT(h:A->B:=by exact(eO (h4 O (b) _ rfl rfl rfl rfl bC (i:=tO.toNat) cW iC) ·)):=h
def aKt(h:A->B:=by exact(cK (nA hC Pe uJ D) ·)):=h
def b9h{f:D0}(h:PZ f=0)(hb:n2 f.data):n2 (a0F f):=by
 have Np:=a4L (P1 f).tail;rw[SA]at Np;rw[PZ]at h;split at h;·cases h
 split at h;·cases h
 intro x K;rw[a0F,P1]at K;rw[P1]at Np;simp only[oF,vC,Ja,x7,or_false]at K;rcases K with h|h|h|h|h|h|h;·omega
 ·omega
 ·omega
 ·omega
 ·exact hb x h
 ·omega
 ·omega
structure a9w(f:lE)(R:aJ):Prop where
 data:aH (hA f.data) R
 bytes:n2 f.data.l
 ok:PZ f.lI=0
 len:f.data.l.length<=2
def b3r(c:Nat)(x:a0 Int)(k:Nat)(R:aJ)(K:jK x R)(hk:k<=x.l.length):
 aI prog 95 [.pointer (some ⟨c,0,none⟩)].toArray [eT c x k] R
  (λv E G=>∃(f:lE) (b5:Nat),v=f.val/\a9w f G/\b5<=x.l.length/\(∀r∈R,aH r G)/\eT c x b5::[]=E):=by
 refine bW 34 call95 func95 ?_;apply(IV);intro cS;apply WM∘aRf;rintro v E G ⟨k8,eU,rfl,u1,yO,Lu,e6,rfl,rfl⟩;have Tz:=yO D;apply(hS);refine cK (nA hC K e6 D) ?_;rintro v E G ⟨nK,eE,rfl,q7,u2,a00,hK,rfl,rfl⟩;have a01:=u2 D;apply B3∘hS;refine cK (nA hC K hK D) ?_;rintro v E G ⟨fB,i2,rfl,KW,I4,Ua,l4,rfl,rfl⟩;have a02:=I4 D;apply B3∘aK2;rintro v E G ⟨lN,rfl,rfl,Mf⟩;replace Mf:=Mf.symm;subst Mf;have AE:IntKind.u8.wrap nK=nK:=Py D;have Af:IntKind.u8.wrap fB=fB:=Py D;rw[AE,Af];refine JM 1 2 2 [m3 nK,m3 fB] [] (λr M=>by rcases List.mem_cons.1 M with rfl|M;rfl;rw[List.mem_singleton.1 M];rfl) ?_;refine aG aIn ?_;apply(dA);intro dG;apply i3∘y1;refine Sz 1 ?_;refine a0t (aR:=1) (f:=m3) (eQ:=[]) (y:=(⟨some ⟨lN,0,none⟩,2,[nK,fB]⟩:a0 Int)) 0 YR ?_;refine a0t (aR:=1) (f:=m3) (eQ:=[]) (y:=(⟨some ⟨lN,0,none⟩,2,[nK,fB]⟩:a0 Int)) 1 (aM (.tail _ (.tail _ (.head _)))) ?_;obtain⟨e4,uG⟩:∃e4,e4=hA (⟨some ⟨lN,0,none⟩,2,[nK,fB].take 1⟩:a0 Int)::hA (⟨some ⟨lN,0,none⟩,2,[nK,fB].take 0⟩:a0 Int)::hA ⟨none,0,[]⟩::hA (⟨some ⟨lN,0,none⟩,2,[nK,fB]⟩:a0 Int)::R:=⟨_,rfl⟩;have aDF:aH (hA (⟨some ⟨lN,0,none⟩,2,[nK,fB]⟩:a0 Int)) e4:=aM (by rw[uG];simp);have bA6:aH (hA (⟨some ⟨lN,0,none⟩,2,[nK,fB].take 0⟩:a0 Int)) e4:=aM (by rw[uG];simp);have bA7:aH (hA (⟨some ⟨lN,0,none⟩,2,[nK,fB].take 1⟩:a0 Int)) e4:=aM (by rw[uG];simp);have bBa:aH (hA ⟨none,0,[]⟩) e4:=aM (by rw[uG];simp);have uH:∀r∈R,aH r e4:=λr M=>aM (by rw[uG];simp[M]);have a6D:n2 [nK,fB]:=λy aN=>by simp only[vC,x7,or_false]at aN;rcases aN with h|h<;>omega
 refine sU (show _=e4 by rw[uG];rfl) ?_;have rY:jK x e4:=⟨K.1.mono uH,K.2⟩;have c1:∀(BW:Int) (d:a0 Int),(0<=BW/\BW<=255)->aH (hA d) e4->n2 d.l->d.l.length<=2->a9w ⟨k8,BW,d⟩ e4:=λBW d N V aQ b7=>⟨V,aQ,by rw[PZ,if_neg Qt,if_neg Qt],b7⟩;apply(A9);refine cK (nA hC rY l4 D) ?_;rintro v E G ⟨AW,eV,rfl,OM,ON,aDx,m4,rfl,rfl⟩;apply(b3);refine v2 (b4 16 17) ((⟨λ_=>[],λg=>⟨dG,g.1.1.cells,118⟩::⟨cS,[.int .i64 0,.int .i64 0,.slice none 0 0],118⟩::eT c x g.1.2::[],λ_=>e4,λ_=>0⟩:dV {g:lE×Nat//a9w g.1 e4/\g.2<=x.l.length})) ?_ ?_;·
  refine e3 (a6 (cR ?_));apply(v8);apply(W)<;>intro aO;·apply eK∘r7∘uY;refine eI (gV ?_);exact nZ ⟨(⟨k8,2,⟨none,0,[]⟩⟩,eV),c1 _ _ D bBa (λy aN=>by cases aN) bH,m4⟩
  apply(oX);apply(W)<;>intro bF;·apply(A9);refine cK (nA hC rY m4 D) ?_;rintro v E G ⟨PD,vS,rfl,Ub,XH,a03,uJ,rfl,rfl⟩;have aDy:=XH D;apply(r7);refine eI (gV ?_);exact nZ ⟨(⟨k8,PD,(⟨some ⟨lN,0,none⟩,2,[nK,fB]⟩:a0 Int)⟩,vS),c1 _ _ D aDF a6D fX,uJ⟩
  apply(oX);apply(W)<;>intro b2;·
   refine hF O [] [0,1,2,3,4,5] [6] ([a5.mk dG _ _]) _ cX bE a2 (by(repeat(first|apply List.Sublist.cons (a:=a5.mk dG _ _)|apply List.Sublist.cons_cons));exact oR _) ?_;apply(IP);refine k2 rfl (nA hC rY m4 D) rfl rfl ?_;rintro v E G ⟨tO,BV,rfl,Ag,OO,a04,AP,rfl,rfl⟩;refine⟨a2,gN,?_⟩;have a05:=OO D;refine eO (a0w (n:=tO.toNat) O rfl rfl rfl rfl D D) ?_;apply a5h∘a2w;refine gS (gV ?_);(have gF:tO=0\/tO=1\/tO=2:=by omega);rcases gF with rfl|rfl|rfl;·exact nZ ⟨(⟨k8,1,(⟨some ⟨lN,0,none⟩,2,[nK,fB].take 0⟩:a0 Int)⟩,BV),c1 _ _ D bA6 (λy aN=>by cases aN) fX,AP⟩
   ·exact nZ ⟨(⟨k8,1,(⟨some ⟨lN,0,none⟩,2,[nK,fB].take 1⟩:a0 Int)⟩,BV),c1 _ _ D bA7 (λy aN=>a6D y (Qc aN)) fX,AP⟩
   ·exact nZ ⟨(⟨k8,1,(⟨some ⟨lN,0,none⟩,2,[nK,fB]⟩:a0 Int)⟩,BV),c1 _ _ D aDF a6D fX,AP⟩
  refine dK (gV ?_);exact nZ ⟨(⟨k8,1,(⟨some ⟨lN,0,none⟩,2,[nK,fB]⟩:a0 Int)⟩,eV),c1 _ _ D aDF a6D fX,m4⟩
 rintro⟨⟨f,JH⟩,hf,MZ⟩ bZ;try dsimp only
 dsimp only at hf MZ;apply(cO);refine aG lR ?_;apply(wA);refine bN (eT c x JH::[]) e4 (pG rfl VM) ?_;exact⟨f,JH,rfl,hf,MZ,uH,rfl⟩
def J.bAv{aV:Type}{f:aV->List Value}{aR:Nat}{p:J aV}(h:p.ok aR f):p.l.length<=p.o.cap:=by
 obtain⟨o,l⟩:=p;cases o with
 |nil=>exact Nat.le_of_eq h.1
 |own g c bKR=>exact h.2.1
def bGT{n:Nat}:0<=IntKind.u8.wrap (n:Int)/\IntKind.u8.wrap (n:Int)<=255:=by exact aHN
def b5Y(c:Nat)(x:a0 Int)(k:Nat)(most:Int)(R:aJ)(K:jK x R)(hk:k<=x.l.length)(hm:0<=most/\most<=100):
 aI prog 32 [.pointer (some ⟨c,0,none⟩),.int .i64 most].toArray [eT c x k] R
  (λv E G=>∃(q:J Int) (b5:Nat),v=q.val/\q.ok 1 m3/\n2 q.l/\(q.l.length:Int)<=80*most/\b5<=x.l.length/\(∀r∈R,aH r G)/\q.L 5 m3++(eT c x b5::[])=E):=by
 refine bW 61 call32 func32 ?_;apply cO∘vG∘z5∘hS∘z2∘aRf;rintro v E G ⟨DI,eU,rfl,u1,yO,Lu,e6,rfl,rfl⟩;have Tz:=yO D;apply(mM);refine c7 [(0,.pointer _),(5,.slice _ _ _),(6,.int _ _)] bP λeZ=>?_;refine mC ([5,6,7,8]++b4 13 47) ((⟨λg=>[(6,.int .i64 g.1.1),(5,g.1.2.1.val)],λg=>g.1.2.1.L 5 m3++(eT c x g.1.2.2.1::[]),λg=>g.1.2.2.2,λg=>g.1.1.toNat⟩:dV {g:Int×J Int×Nat×aJ//(0<=g.1/\g.1<=DI)/\g.2.1.ok 1 m3/\n2 g.2.1.l/\(g.2.1.l.length:Int)<=80*(DI-g.1)/\g.2.2.1<=x.l.length/\∀r∈R,aH r g.2.2.2})) (⟨(DI,J.nil,eU,R),⟨by dsimp only;omega,by dsimp only;omega⟩,J.g6,λy aN=>(by cases aN),by simp,e6,λr M=>aM M⟩) bP DP fF ?_;rintro⟨⟨n,cU,eE,S⟩,⟨mX,s1⟩,hok,Ux,aTw,hK,dW⟩ bZ;try dsimp only
 dsimp only at mX s1 hok Ux aTw hK dW;have rY:jK x S:=⟨K.1.mono dW,K.2⟩;apply(ZV);apply(W)<;>intro aO;·
  apply(WO);refine cK (aI.Cs (.wE (.MM .nil)) (b3r c x eE S rY hK)) ?_;rintro v E G ⟨_,rfl,f,i2,rfl,hf,l4,UA,rfl⟩;simp only[mQ,m0,EX];refine cK (b8K f _ _ hf.data hf.bytes) ?_;rintro v E G ⟨b,rfl,Gq,FT,rfl,MP⟩;rw[if_pos hf.ok]at FT;refine aG iR ?_;apply Fe∘OD;have bJl:=J.bAv Gq;have C6:n2 b.l:=by rw[FT];exact b9h hf.ok hf.bytes
  have Gr:b.l.length=f.data.l.length+6:=by rw[FT,b9C];rfl
  have fW:=hf.len;have Pe:jK x G:=⟨(rY.1.mono UA).mono MP,rY.2⟩;apply(A9);refine cK (nA hC Pe l4 D) ?_;rintro v E G ⟨PD,vS,rfl,Ub,XH,a03,uJ,rfl,rfl⟩;apply(b3);refine v2 ([5,7]++b4 25 32) ((⟨λg=>[(7,.slice g.1.1.o.oM g.1.2.1 g.1.1.o.cap),(5,g.1.2.2.1.val)],λg=>g.1.1.L 5 m3++(g.1.2.2.1.L 5 m3++(eT c x g.1.2.2.2::[])),λ_=>G,λ_=>0⟩:dV {g:J Int×Nat×J Int×Nat//(g.1.ok 1 m3/\n2 g.1.l/\g.1.l.length<=70)/\g.2.1<=g.1.l.length/\(g.2.2.1.ok 1 m3/\n2 g.2.2.1.l/\(g.2.2.1.l.length:Int)<=80*(DI-n)+2)/\g.2.2.2<=x.l.length})) ?_ ?_;·
   refine e3 (a6 (cR ?_));apply(v8);apply(W)<;>intro bF;·
    refine hF O [] [0,1,2,3,7,4,5,6,8,9,10,11,12] [13] ((b.L 5 m3++(cU.L 5 m3++[]))) _ cX bE a2 (YL _ _) ?_;apply Vy∘DK∘Vy;refine eO vZ ?_;apply(DK);refine k2 rfl (nA hC Pe uJ D) rfl rfl ?_;rintro v E G ⟨tO,BV,rfl,Ag,OO,a04,AP,rfl,rfl⟩;refine⟨a2,gN,?_⟩;have a05:=OO D;have Ao:=bJ b.l tO.toNat 0;apply(aPT);refine eO (qK O (b) rfl rfl rfl c0 bC bI bC aE) ?_;refine k2 rfl (nA hC Pe AP D) rfl rfl ?_;rintro v E G ⟨Ip,JH,rfl,a06,Lv,aDz,MZ,rfl,rfl⟩;refine⟨a2,gN,?_⟩;obtain⟨sG,xU⟩:∃sG,IntKind.u8.wrap (1*2^(min Ip.toNat IntKind.u8.bits))=sG:=⟨_,rfl⟩;obtain⟨Wr,aGL,aGK⟩:∃Wr,IntKind.u8.wrap ((BitVec.ofInt IntKind.u8.bits (b.l.getD tO.toNat 0)^^^BitVec.ofInt IntKind.u8.bits sG).toNat:Int)=Wr/\(0<=Wr/\Wr<=255):=⟨_,rfl,bGT⟩;have aDA:=Lv D;refine eO a24 ?_;refine eO (a45 rfl rfl D xU) ?_;refine eO (aLr rfl rfl aGL) ?_;apply aPT∘x1;refine GO (jL O (b) (Wr) rfl rfl rfl rfl c0 bC bI bC bH aE aE) rfl rfl ?_;rintro v E G ⟨rfl,rfl⟩;apply(fS);refine gS (gV ?_);exact VV ⟨(⟨b.o,b.l.set tO.toNat Wr⟩,b.l.length,cU,JH),⟨J.p4 bI Gq,λy aN=>by
    rcases aIl aN with aN|rfl;·exact C6 y aN
    ·exact aGK,by dsimp only;rw[p6];omega⟩,by dsimp only;rw[p6];exact g4 _,⟨hok,Ux,by dsimp only;omega⟩,MZ⟩ kG bP a2 fF
   apply(oX);apply(W)<;>intro b2;·apply wC∘hS∘nO∘l8∘aKt;rintro v E G ⟨tO,BV,rfl,Ag,OO,a04,AP,rfl,rfl⟩;have a05:=OO D;refine aG (a0w (n:=tO.toNat) O rfl rfl rfl rfl D D) ?_;apply(jS);refine eI (gV ?_);exact nZ ⟨(b,tO.toNat,cU,BV),⟨Gq,C6,by dsimp only;omega⟩,by dsimp only;omega,⟨hok,Ux,by dsimp only;omega⟩,AP⟩
   apply(oX);apply(W)<;>intro dZ;·
    apply wC∘hS∘aKt;rintro v E G ⟨tO,BV,rfl,Ag,OO,a04,AP,rfl,rfl⟩;have a05:=OO D;apply B3∘aK2;rintro v E G ⟨a6o,rfl,rfl,Mw⟩;replace Mw:=Mw.symm;subst Mw;have AE:IntKind.u8.wrap tO=tO:=Py D;rw[AE];refine JM 1 2 2 [m3 tO,m3 126] [] (λr M=>by rcases List.mem_cons.1 M with rfl|M;rfl;rw[List.mem_singleton.1 M];rfl) ?_;have bA4:aH (hA (⟨some ⟨a6o,0,none⟩,2,[tO,126]⟩:a0 Int)) (hA (⟨some ⟨a6o,0,none⟩,2,[tO,126]⟩:a0 Int)::G):=aM (.head _);refine gO (Zd O cU (⟨some ⟨a6o,0,none⟩,2,[tO,126]⟩:a0 Int) rfl rfl rfl bH rfl rfl hok bA4 c0 bI (by simp only[sK,EV];omega)) rfl ?_;rintro v E G ⟨aHb,rfl,aFL,rfl,rfl⟩;apply(jS);refine eI (gV ?_);exact VV ⟨(b,b.l.length,⟨aHb,cU.l++[tO,126]⟩,BV),⟨Gq,C6,by dsimp only;omega⟩,g4 _,⟨aFL,λy aN=>by
    rcases List.mem_append.1 aN with aN|aN;·exact Ux y aN
    ·simp only[vC,x7,or_false]at aN;omega,by dsimp only;rw[iD];simp only[sK,EV];omega⟩,AP⟩ kG bP a2 (λr M=>aM (.tail _ M))
   refine dK (gV ?_);exact nZ ⟨(b,b.l.length,cU,vS),⟨Gq,C6,by dsimp only;omega⟩,g4 _,⟨hok,Ux,by dsimp only;omega⟩,uJ⟩
  rintro⟨⟨cS,m,aU4,Pm⟩,⟨aSz,a6R,aSA⟩,JD,⟨n9,aTm,bD7⟩,UE⟩ bZ;try dsimp only
  dsimp only at aSz a6R aSA JD n9 aTm bD7 UE;refine hG 5 m3 1 cS [] aSz ?_;refine fU ?_;refine a0t (aR:=1) (f:=m3) (eQ:=[]) (y:=cS.U) m n1 ?_;have bBy:aH (hA (⟨cS.o.oM,cS.o.cap,cS.l.take m⟩:a0 Int)) (hA (⟨cS.o.oM,cS.o.cap,cS.l.take m⟩:a0 Int)::hA cS.U::G):=aM (.head _);have aSt:(⟨cS.o.oM,cS.o.cap,cS.l.take m⟩:a0 Int).l.length=m:=by show(cS.l.take m).length=m;rw[Cx];omega
  apply wC∘hM;refine gO (Zd O aU4 (⟨cS.o.oM,cS.o.cap,cS.l.take m⟩:a0 Int) rfl rfl rfl bH rfl ((show _=Value.slice _ _ _ from rfl).trans (by simp only[a0.val];rw[aSt])) n9 bBy c0 bI (by rw[aSt];omega)) rfl ?_;rintro v E G ⟨bGb,rfl,bDV,rfl,rfl⟩;apply jS∘ZZ;exact oQ ⟨(n-1,⟨bGb,aU4.l++cS.l.take m⟩,Pm,hA (⟨cS.o.oM,cS.o.cap,cS.l.take m⟩:a0 Int)::hA cS.U::G),⟨by dsimp only;omega,by dsimp only;omega⟩,bDV,λy aN=>by
  rcases List.mem_append.1 aN with aN|aN;·exact aTm y aN
  ·exact a6R y (Qc aN),by dsimp only;rw[iD,Cx];omega,UE,λr M=>((dW r M).mono UA).mono λr M=>(MP r M).mono λr M=>aM (.tail _ (.tail _ M))⟩
 apply(TG);refine bN (cU.L 5 m3++(eT c x eE::[])) S vD ?_;exact⟨cU,eE,rfl,hok,Ux,by omega,hK,dW,rfl⟩
abbrev aKR(x:a0 v7):fG:=x.fI 5 v7.cells (x.l.map λa=>hA a.bytes)
structure aI7(a:v7)(R:aJ):Prop where
 ok:Yb a.p
 bytes:aH (hA a.bytes) R
structure Di(q:J v7)(R:aJ):Prop where
 ok:q.ok 5 v7.cells
 all:∀a∈q.l,aI7 a R
def Di.mono{q:J v7}{R G:aJ}(h:Di q R)(k:∀r∈R,aH r G):Di q G:=⟨h.ok,λa ha=>⟨(h.all a ha).ok,(h.all a ha).bytes.mono k⟩⟩
def Di.xJ{o o':gZ}{l m:List v7}{R:aJ}(h:Di ⟨o,l⟩ R)(N:(⟨o',l++m⟩:J v7).ok 5 v7.cells)(V:∀a∈m,aI7 a R):Di ⟨o',l++m⟩ R:=⟨N,λa ha=>by
 rcases List.mem_append.1 ha with ha|ha
 ·exact h.all a ha
 ·exact V a ha⟩
def b7N(c:Nat)(x:a0 Int)(k:Nat)(most:Int)(R:aJ)(K:jK x R)(hk:k<=x.l.length)(hm:0<=most/\most<=100):
 aI prog 32 [.pointer (some ⟨c,0,none⟩),.int .i64 most].toArray [eT c x k] R
  (λv E G=>∃(b:a0 Int) (b5:Nat),v=b.val/\n2 b.l/\(b.l.length:Int)<=80*most/\aH (hA b) G/\b5<=x.l.length/\(∀r∈R,aH r G)/\eT c x b5::[]=E):=by refine aI.a75 (b5Y c x k most R K hk hm) ?_;rintro v E G qQ w ⟨q,b5,rfl,gG,Oq,gB,RD,bD,rfl⟩ cI;have N:=cI.TZ (eQ:=[]) gG bI bH lQ;exact⟨_,_,N,q.U,b5,rfl,Oq,gB,aM (.head _),RD,λr M=>(bD r M).mono λr M=>aM (.tail _ M),rfl⟩
def b6k(c:Nat)(x:a0 Int)(k:Nat)(most:Int)(R:aJ)(K:jK x R)(hk:k<=x.l.length)(hm:0<=most/\most<=100):
 aI prog 65 [.pointer (some ⟨c,0,none⟩),.int .i64 most].toArray [eT c x k] R
  (λv E G=>∃(q:J v7) (b5:Nat),v=q.val/\Di q G/\(∀a∈q.l,0<=a.l9/\a.l9<=4)/\(q.l.length:Int)<=most/\b5<=x.l.length/\(∀r∈R,aH r G)/\q.L 144 v7.cells++(eT c x b5::[])=E):=by
 refine bW 36 call65 func65 ?_
 apply cO∘vG∘KJ
 refine Sz 1 ?_
 have DD:aH (hA (⟨none,0,[]⟩:a0 Int)) (hA (⟨none,0,[]⟩:a0 Int)::R):=aM (.head _)
 have HO:jK x (hA (⟨none,0,[]⟩:a0 Int)::R):=⟨K.1.mono λr M=>aM (.tail _ M),K.2⟩
 apply A9∘z2
 refine cK (nA hC HO hk D) ?_
 rintro v E G ⟨DI,eU,rfl,u1,yO,Lu,e6,rfl,rfl⟩
 have Tz:=yO D
 apply(mM)
 refine c7 [(0,.pointer _),(5,.slice _ _ _),(6,.int _ _)] bP λeZ=>?_
 refine mC ([5,6,7]++b4 12 23) ((⟨λg=>[(6,.int .i64 g.1.1),(5,g.1.2.1.val)],λg=>g.1.2.1.L 144 v7.cells++(eT c x g.1.2.2.1::[]),λg=>g.1.2.2.2,λg=>g.1.1.toNat⟩:dV {g:Int×J v7×Nat×aJ//(0<=g.1/\g.1<=DI)/\Di g.2.1 g.2.2.2/\(∀a∈g.2.1.l,0<=a.l9/\a.l9<=4)/\(g.2.1.l.length:Int)=DI-g.1/\g.2.2.1<=x.l.length/\∀r∈hA (⟨none,0,[]⟩:a0 Int)::R,aH r g.2.2.2})) (⟨(DI,J.nil,eU,hA (⟨none,0,[]⟩:a0 Int)::R),⟨by dsimp only;omega,by dsimp only;omega⟩,⟨J.g6,λa ha=>(by cases ha)⟩,λa ha=>(by cases ha),by simp,e6,λr M=>aM M⟩) bP DP fF ?_
 rintro⟨⟨n,q,eE,S⟩,⟨mX,s1⟩,hq,a7m,rV,hK,dW⟩ bZ
 try dsimp only
 dsimp only at mX s1 hq a7m rV hK dW
 have gG:=hq.ok
 have a2c:jK x S:=⟨HO.1.mono dW,HO.2⟩
 have bDs:=dW _ (.head _)
 apply(ZV)
 apply(W)<;>intro aO
 ·
  apply(WO)
  refine cK (nA hC a2c hK D) ?_
  rintro v E G ⟨k8,i2,rfl,j5,b91,bIj,l4,rfl,rfl⟩
  apply(hS)
  refine cK (nA hC a2c l4 D) ?_
  rintro v E G ⟨lH,eV,rfl,kK,b92,bIk,m4,rfl,rfl⟩
  apply(hS)
  refine cK (nA hC a2c m4 D) ?_
  rintro v E G ⟨rE,vS,rfl,lV,b93,bIl,uJ,rfl,rfl⟩
  apply(hS)
  refine cK (nA hC a2c uJ D) ?_
  rintro v E G ⟨AW,BV,rfl,q5,b94,bIm,AP,rfl,rfl⟩
  refine aG (mI (hN:=[(0,(Value.int _ _).cells.toList),(1,(Value.int _ _).cells.toList),(2,(Value.int _ _).cells.toList),(3,(Value.int _ _).cells.toList)]) (cU:=[_,_,_,_,_]) O rfl rfl rfl rfl) ?_
  apply(dA)
  intro kL
  apply i3∘y1
  have gK:=b91 D
  have cS:=b92 D
  have dG:=b93 D
  have cT:=b94 D
  apply QW∘D1
  refine v2 [28,29,30] ((⟨λ_=>[],λg=>⟨kL,v7.cells ⟨k8,lH,rE,AW,g.1.1⟩,144⟩::(q.L 144 v7.cells++(eT c x g.1.2.1::[])),λg=>g.1.2.2,λ_=>0⟩:dV {g:a0 Int×Nat×aJ//n2 g.1.l/\g.1.l.length<=300/\aH (hA g.1) g.2.2/\g.2.1<=x.l.length/\∀r∈S,aH r g.2.2})) ?_ ?_
  ·
   skip
   apply(W)<;>intro bF
   ·
    apply(A9)
    refine cK (aI.Cs (.tE (.wE (.MM .nil))) (b7N c x BV 3 S a2c AP D)) ?_
    rintro v E G ⟨_,rfl,b,JH,rfl,C6,Gr,OT,MZ,bBU,rfl⟩
    simp only[mQ,oF,m0,EX]
    apply uY∘zT
    exact nZ ⟨(b,JH,_),C6,by dsimp only;omega,OT,MZ,bBU⟩
   refine dK ?_
   exact nZ ⟨((⟨none,0,[]⟩:a0 Int),BV,S),λy aN=>(by cases aN),AY _,bDs,AP,λr M=>aM M⟩
  rintro⟨⟨Ac,Pm,e2⟩,C6,Gr,OT,UE,uI⟩ bZ
  try dsimp only
  dsimp only at C6 Gr OT UE uI
  apply(wC)
  refine aG E0 ?_
  refine gO a8Y rfl ?_
  rintro v E G ⟨bAg,rfl,rfl,Mm⟩
  replace Mm:=Mm.symm;subst Mm
  refine gO (j2 (f:=v7.cells) (p:=q) (a:=⟨k8,lH,rE,AW,Ac⟩) O rfl rfl rfl rfl (gG) c0 j8 rfl kH) rfl ?_
  rintro v E G ⟨NA,rfl,a1R,rfl,rfl⟩
  apply jS∘ZZ
  exact oQ ⟨(n-1,⟨NA,q.l++[⟨k8,lH,rE,AW,Ac⟩]⟩,Pm,e2),⟨by dsimp only;omega,by dsimp only;omega⟩,(hq.mono uI).xJ a1R (λa ha=>by
  rw[List.mem_singleton.1 ha]
  exact⟨⟨by show _<=lH/\lH<=_;omega,by show _<=rE/\rE<=_;omega,by show _<=AW/\AW<=_;omega,C6,by show Ac.l.length<=_;omega⟩,OT⟩),λa ha=>by
  rcases List.mem_append.1 ha with ha|ha
  ·exact a7m a ha
  ·rw[List.mem_singleton.1 ha];dsimp only;omega,by dsimp only;rw[iD,pN];omega,UE,λr M=>(dW r M).mono uI⟩
 apply(TG)
 refine bN (q.L 144 v7.cells++(eT c x eE::[])) S vD ?_
 exact⟨q,eE,rfl,hq,a7m,by omega,hK,λr M=>dW r (.tail _ M),rfl⟩
end
def Yg(h:A->B:=by exact(aG aIY ·)):=h
def a6c(h:A->B:=by exact(aG qH ·)):=h
def aBT(h:A->B:=by exact(a4 oG ·)):=h
def aJo(h:A->B:=by exact gO (j2 (f:=aL) (p:=q) (a:=n) O rfl rfl rfl rfl (gG) c0 j8 rfl kH) rfl):=h
def b1p{b:Nat}{x y:a9}{T:TypeId}:(⟨.own b 2 [],[x,y]⟩:J a9).L T a9.cells=[(⟨b,[.int .i64 x.bG,.int .i64 x.bO,.int .i64 y.bG,.int .i64 y.bO],T⟩:a5)]:=rfl
attribute [local irreducible] cH c6 dP aI cJ eD e9 e0 e1 e5 eS e8 J.L
def b9c(x z:a9)(p:a0 a9)(L:aP)(R:aJ)(hp:aH (s3 p) R)(X:p.l=[x,z]):
 aI prog 211 [p.val].toArray L R (λv E G=>v=.tuple #[(L6 x z).val,.bool (decide ((BG x z).bG<=(BG x z).bO))]/\L=E/\R=G):=by
 have eB:p.l.length=2:=by rw[X];rfl
 have g0:p.l[0]?=some x:=by rw[X];rfl
 refine bW 44 call211 func211 ?_;apply(IV);intro cS;apply IQ∘nO∘mT;apply(W)<;>intro aO;·apply(cO);refine cC rfl JV ?_;exact aWU
 apply G1∘Io∘OI;intro cT;apply rQ∘mM;refine c7 [(0,.slice _ _ _),(2,.pointer _),(4,.pointer _),(5,.int _ _)] bP λeZ=>?_;have AQ:=b9o g0;refine mC ([5]++b4 13 24) ((⟨λg=>[(5,.int .i64 ((g.1:Nat):Int))],λg=>⟨cT,(SI p.l x g.1).cells,90⟩::⟨cS,[.int .i64 0,.int .i64 0],90⟩::L,λ_=>R,λg=>p.l.length-g.1⟩:dV {g:Nat//1<=g/\g<=p.l.length})) (⟨1,by omega,by omega⟩) bP (by dsimp only;rw[AQ];exact oR _) fF ?_;rintro⟨k,e6,hk⟩ bZ;try dsimp only
 apply(uA);apply(W)<;>intro bF;·have N:=bJ p.l k default;have M0:=aB0 (z:=x) N;refine dK (aZ (a6 (e3 ?_)));refine hF O [29,30,31,32,33,34] [0,1,2,3,4,5,6,7,8,9,10,11,12,13,14,15,16] [17,18,19] (_) _ cX bE a2 Jm ?_;apply l1∘G2;refine eO qH ?_;apply EM∘vA;refine eO B9 ?_;apply(l1);refine m5 oG ?_;refine m5 zV ?_;refine m5 a3a ?_;refine m5 Xe ?_;refine m5 Jo ?_;refine m5 NR ?_;apply TA∘kT∘Ik∘z4;exact oT ⟨k+1,by omega,by omega⟩ kG bP (by dsimp only;rw[M0];exact LU _) fF k1
 obtain rfl:k=p.l.length:=by omega
 have Uv:SI p.l x p.l.length=BG x z:=by rw[eB,X];exact aNF
 rw[Uv];apply AV∘kJ∘BA;apply(W)<;>intro b2;·apply(cO);refine cC rfl JV ?_;exact aZ4
 exact aZm
def b3e{A:aP}{R:aJ}{b:Nat}{x y:a9}{T:TypeId}(jN:(⟨b,[.int .i64 x.bG,.int .i64 x.bO,.int .i64 y.bG,.int .i64 y.bO],T⟩:a5)∈A):
 aI prog 211 [.slice (some ⟨b,0,none⟩) 2 2].toArray A R (λv E G=>v=.tuple #[(L6 x y).val,.bool (decide ((BG x y).bG<=(BG x y).bO))]/\A=E/\R=G):=
 Go.Proofs.YtchfclmokpbldaaGreat.aI.a7K (S:=[s3 (⟨.own b 2 [],[x,y]⟩:J a9).U]) (λw aC bX s hs=>by
  rw[List.mem_singleton.1 hs]
  exact HA (T:=T) bX (λe X=>by
   rw[b1p]at X
   rw[List.mem_singleton.1 X];exact jN) aLe bI bH lQ) (b9c x y (⟨.own b 2 [],[x,y]⟩:J a9).U [] _ n1 rfl)
def b9B(l:a0 Int)(n:Int)(L:aP)(R:aJ)(hl:aH (cZ l) R)(hn:l.l.length<=100000):
 aI prog 213 [l.val,.int .i64 n].toArray L R (λv E G=>∃q:a0 Int,v=q.val/\aH (cZ q) G/\q.l.length<=l.l.length+1/\(∀r∈R,aH r G)/\L=E):=by
 refine bW 49 call213 func213 ?_;apply cO∘vG∘vG∘IQ∘mM;refine c7 [(0,.slice _ _ _),(1,.int _ _),(5,.slice _ _ _),(6,.bool _),(7,.int _ _)] bP λeZ=>?_;refine mC (b4 4 38) ((⟨λg=>[(7,.int .i64 ((g.1.1:Nat):Int)),(5,g.1.2.1.val),(6,.bool g.1.2.2)],λg=>g.1.2.1.L 3 aL++L,λ_=>R,λg=>l.l.length-g.1.1⟩:dV {g:Nat×J Int×Bool//g.1<=l.l.length/\g.2.1.ok 1 aL/\g.2.1.l.length=g.1+(if g.2.2=true then 1 else 0)})) (⟨(0,J.nil,false),by dsimp only;omega,J.g6,rfl⟩) bP DP fF ?_;rintro⟨⟨k,q,aDl⟩,hk,gG,rV⟩ bZ;try dsimp only
 dsimp only at hk gG rV;have bJ4:q.l.length<=k+1:=by rw[rV];split<;>omega
 apply(uA);apply(W)<;>intro aO;·
  have hg:=bJ l.l k 0;refine dK (aZ (a6 (e3 (a6 (a6 (cR ?_))))));apply h7∘a6c∘jI∘b1∘mT;apply(W)<;>intro bF;·apply cO∘hM∘jS∘Pt;refine bN L R vD ?_;exact⟨l,rfl,hl,by omega,λr M=>aM M,rfl⟩
  apply iK∘h7∘a6c∘jI∘a5g∘c9;apply iZ (aC:=[_,_]) (j:=6) (a7:=27) rfl rfl aE rfl aW rfl;·intro kC;replace kC:=a8 kC;exact(c9) LQ
  intro JG;apply(b3);refine v2 [5,6,31,32,33,34] ((⟨λg=>[(5,g.1.1.val),(6,.bool g.1.2)],λg=>g.1.1.L 3 aL++L,λ_=>R,λ_=>0⟩:dV {g:J Int×Bool//g.1.ok 1 aL/\g.1.l.length=k+(if g.2=true then 1 else 0)})) ?_ ?_;·
   skip
   apply(W)<;>intro b2;·
    apply yH∘zU;rintro v E G ⟨bAg,rfl,rfl,Mm⟩;replace Mm:=Mm.symm;subst Mm;apply(aJo);rintro v E G ⟨NA,rfl,a1R,rfl,rfl⟩;apply jS∘uN∘zT;exact VV ⟨(⟨NA,q.l++[n]⟩,true),a1R,by
    (have hd:aDl=false:=by simpa using b2.2);dsimp only;rw[iD,rV,hd];simp⟩ kG bP a2 fF
   refine dK ?_;exact nZ ⟨(q,aDl),gG,rV⟩
  rintro⟨⟨fB,d2⟩,K9,aGi⟩ bZ;try dsimp only
  dsimp only at K9 aGi;have bJ0:fB.l.length<=k+1:=by rw[aGi];split<;>omega
  apply wC∘h7∘a6c∘jI∘zU;rintro v E G ⟨aRP,rfl,rfl,Mq⟩;replace Mq:=Mq.symm;subst Mq;refine gO (j2 (f:=aL) (p:=fB) (a:=l.l.getD k 0) O rfl rfl rfl rfl (K9) c0 j8 rfl kH) rfl ?_;rintro v E G ⟨U0,rfl,Uy,rfl,rfl⟩;apply(TB);exact dU ⟨(k+1,⟨U0,fB.l++[l.l.getD k 0]⟩,d2),by dsimp only;omega,Uy,by dsimp only;rw[iD,aGi,pN];split<;>omega⟩
 obtain rfl:k=l.l.length:=by omega
 have Oq:q.l.length<=l.l.length+1:=by rw[rV];split<;>omega
 apply AV∘WK;refine v2 [5,44,45,46,47] ((⟨λg=>[(5,g.1.val)],λg=>g.1.L 3 aL++L,λ_=>R,λ_=>0⟩:dV {g:J Int//g.ok 1 aL/\g.l.length<=l.l.length+1})) ?_ ?_;·
  skip
  apply(W)<;>intro dZ;·
   apply yH∘zU;rintro v E G ⟨bAj,rfl,rfl,Mt⟩;replace Mt:=Mt.symm;subst Mt;apply(aJo);rintro v E G ⟨aG9,rfl,aFI,rfl,rfl⟩;apply jS∘zT;exact VV ⟨⟨aG9,q.l++[n]⟩,aFI,by
   (have hd:aDl=false:=by simpa using dZ);dsimp only;rw[iD,rV,hd];simp⟩ kG bP a2 fF
  refine dK ?_;exact nZ ⟨q,gG,Oq⟩
 rintro⟨kF,bEr,bEs⟩ bZ;try dsimp only
 refine hG 3 aL 1 kF [] bEr ?_;refine fU ?_;apply cO∘hM∘S4;refine bN L (cZ kF.U::R) vD ?_;exact⟨kF.U,rfl,aM (.head _),bEs,λr M=>aM (.tail _ M),rfl⟩
def b7n(Z:a0 a9)(l:a0 fA)(m:a0 eA)(t:Int)(L:aP)(R:aJ)(fW:aH (s3 Z) R)(hl:aH (z9 l) R)(hm:aH (gT m) R)
 (BP:Z.l.length<=1000) (kD:l.l.length<=1000) (UI:m.l.length<=1000) (hok:∀x∈m.l,w9 x) (dS:0<=t/\t<=2147483648):
 aI prog 131 [Z.val,l.val,m.val,.int .i64 t].toArray L R
  (λw E G=>∃(p:J a9) (q:a0 Int),w=.tuple #[p.val,q.val]/\p.ok 2 a9.cells/\p.l=(P0 Z.l kY 3 l.l m.l t).cU/\p.L 90 a9.cells++L=E/\∀r∈R,aH r G):=by
 refine bW 116 call131 func131 ?_;apply cO∘yG∘WR;refine gO aZP rfl ?_;rintro v E G ⟨RU,rfl,aFB,rfl,rfl⟩;apply(FG);have bCH:(⟨RU,Z.l⟩:J a9).l.length<=1000:=BP;apply eK∘nO∘EL;rintro v E G ⟨KR,rfl,rfl,K0⟩;replace K0:=K0.symm;subst K0;apply(FG);refine mJ Jj ?_;apply eK∘KJ;refine Sz 1 ?_;apply(OG);refine c7 [(0,.slice _ _ _),(1,.slice _ _ _),(2,.slice _ _ _),(3,.int _ _),(10,.slice _ _ _),(11,.slice _ _ _),(12,.slice _ _ _),(13,.int _ _)] bP λeZ=>?_;refine kO (b4 12 6++b4 23 91) ((⟨λg=>[(13,.int .i64 ((g.1.1:Nat):Int)),(12,g.1.2.2.1.val)],λg=>(⟨.own KR Z.l.length [],g.1.2.1.XI⟩:J Bool).L 4 jF++((⟨RU,g.1.2.1.cU⟩:J a9).L 90 a9.cells++L),λg=>g.1.2.2.2,λg=>m.l.length-g.1.1⟩:dV {g:Nat×SM×a0 Int×aJ//g.1<=m.l.length/\g.2.1=P5 Z.l kY 3 l.l m.l t g.1/\aH (cZ g.2.2.1) g.2.2.2/\g.2.2.1.l.length<=g.1/\∀r∈R,aH r g.2.2.2})) (⟨(0,⟨Z.l,List.replicate Z.l.length false,List.replicate l.l.length false⟩,⟨none,0,[]⟩,_),by dsimp only;omega,rfl,aM (.head _),g4 _,λr M=>aM (.tail _ M)⟩) ?_;rintro⟨⟨k,⟨qL,aC,B⟩,C2,S⟩,s4,fT,OT,Gr,dW⟩ bZ;try dsimp only
 dsimp only at s4 fT OT Gr dW;obtain⟨lY,iX,R3⟩:=aBD (Z:=Z.l) (lost:=kY) (kind:=3) (l:=l.l) (m:=m.l) (t:=t) (k:=k);rw[<-fT]at lY iX R3;dsimp only at lY iX R3;have aFb:(⟨RU,qL⟩:J a9).ok 2 a9.cells:=J.oZ bI aFB lY;have bC2:(⟨.own KR Z.l.length [],aC⟩:J Bool).ok 1 jF:=by have:=JL jF 1 KR Z.l.length false BI;exact J.oZ BI this (by simp;exact iX)
 have bJE:=hl.mono dW;have bJI:=hm.mono dW;apply(uA);apply(W)<;>intro aO;·
  have xR:=bJ m.l k default;have Pf:=hok _ (gU xR);have pY:=aRC (Z:=Z.l) (lost:=kY) (kind:=3) (l:=l.l) (t:=t) xR;rw[<-fT]at pY;obtain⟨x,K⟩:∃x,x=m.l.getD k default:=⟨_,rfl⟩;rw[<-K]at xR Pf pY;apply j7∘h7∘a6c∘sW∘WL;apply cB (aC:=[_,_,_,_]) (j:=2) (a7:=36) rfl rfl aE rfl aW rfl;·exact a3f
  intro mY;apply(c9);apply cB (aC:=[_,_,_,_,_,_]) (j:=8) (a7:=42) rfl rfl aE rfl aW rfl;·intro gM;replace gM:=a8 gM;have xQ:=bJ l.l x.lX.toNat default;exact(h7∘Yg∘Sh) hL
  intro wJ;apply(c9);apply cB (aC:=[_,_,_,_,_,_]) (j:=16) (a7:=50) rfl rfl aE rfl aW rfl;·intro AO;replace AO:=a8 AO;have xQ:=iL (l:=l.l) (k:=x.lX.toNat) default (by(try simp[-List.getD_eq_getElem?_getD]at AO);omega);exact(h7∘Yg∘sW) GD
  intro a7I;apply(c9);apply cB (aC:=[_,_,_,_,_,_,_,_]) (j:=24) (a7:=58) rfl rfl aE rfl aW rfl;·intro RA;replace RA:=a8 RA;have xQ:=iL (l:=l.l) (k:=x.lX.toNat) default (by(try simp[-List.getD_eq_getElem?_getD]at RA);omega);exact(h7∘Yg∘sW∘Fa) hL
  intro aGY;apply(c9);apply cB (aC:=[_,_,_,_,_,_,_,_]) (j:=34) (a7:=68) rfl rfl aE rfl aW rfl;·intro a6Z;replace a6Z:=a8 a6Z;have xQ:=iL (l:=l.l) (k:=x.lX.toNat) default (by(try simp[-List.getD_eq_getElem?_getD]at a6Z);omega);have aDI:=iL (l:=aC) (k:=(l.l.getD x.lX.toNat default).target.toNat) false (by(try simp[-List.getD_eq_getElem?_getD]at a6Z);omega);apply TH∘Yg∘sW;refine aG (h4 O ((⟨.own KR Z.l.length [],aC⟩:J Bool)) _ rfl rfl ((show _=Value.slice _ _ _ from rfl).trans (v4 iX)) rfl bC (i:=(l.l.getD x.lX.toNat default).target.toNat) cW iC) ?_;refine aG (qK O ((⟨.own KR Z.l.length [],aC⟩:J Bool)) rfl rfl rfl c0 bC bI bC aE) ?_;exact hL
  intro bKt;apply(b3);apply(W)<;>intro bF;·
   refine lC (lB (lA (aZ (cR ?_))));apply(N7);exact oQ ⟨(k+1,⟨qL,aC,B⟩,C2,S),by dsimp only;omega,by rw[pY,H5,if_pos (λh=>by
   have N:=h.1.1;have V:=h.1.2;have aQ:=h.2;dsimp only at aQ;rw[aQ]at bF;simp[-List.getD_eq_getElem?_getD]at bF;omega)],OT,by dsimp only;omega,dW⟩
  obtain⟨s,hs⟩:∃s,s=l.l.getD x.lX.toNat default:=⟨_,rfl⟩;rw[<-hs]at bF;have ED:(0<=x.lX/\x.lX<l.l.length)/\s.kind=3/\0<=s.target/\s.target<Z.l.length/\aC.getD s.target.toNat false=false:=by simp[-List.getD_eq_getElem?_getD]at bF;have:=bF.2;refine⟨by omega,by omega,by omega,by omega,by simpa using this⟩
  have xQ:=bJ l.l x.lX.toNat default;rw[<-hs]at xQ;have bBp:=bJ qL s.target.toNat default;have aDI:=bJ aC s.target.toNat false;rw[H5,Ri,<-hs]at pY;dsimp only at pY;have RG:a0q Z.l.length 3 l.l x:=⟨ED.1,by rw[<-hs];exact ED.2.1,by rw[<-hs];exact ED.2.2.1,by rw[<-hs];exact ED.2.2.2.1⟩;rw[if_neg (λh=>h ⟨RG,ED.2.2.2.2⟩)]at pY;apply QN∘Yg∘sW∘zG;refine gJ O [0,1,2,3,4,5,6,7,8,9,10,11,12,13,14,15,16,17,18,19,20,21] (((⟨.own KR Z.l.length [],aC⟩:J Bool).L 4 jF++((⟨RU,qL⟩:J a9).L 90 a9.cells++[]))) cX bE a2 ?_;apply aBT∘g1;refine a4 aYy ?_;refine a4 (a30 (row:=[_,_]) O ((⟨RU,qL⟩:J a9)) rfl rfl rfl c0 bC bI bC aE aE) ?_;apply aBT∘g1;refine a4 aIY ?_;refine a4 Jq ?_;apply aBT∘FF∘Cp∘g1;refine k6 rfl (aNN s x t _ _ Pf dS) ?_;refine o4 aIp rfl rfl rfl ?_;rintro v E G ⟨bIJ,rfl,rfl,aEn⟩;replace aEn:=aEn.symm;subst aEn;apply(fS);refine k6 rfl (b3e (x:=qL.getD s.target.toNat default) (y:=xL s x t) (.head _)) ?_;refine a4 iR ?_;refine a4 sL ?_;refine a4 sL ?_;apply(p2);intro I2;apply(sE);refine a4 (GN aW) ?_;refine gS (aZ (a6 (cR ?_)));apply h7∘oC;refine aG aYy ?_;refine i4 (SV O ((⟨RU,qL⟩:J a9)) (L6 (qL.getD s.target.toNat default) (xL s x t)) rfl rfl rfl rfl c0 bC bI bC (LM rfl) aE aE) ?_;rintro v E G ⟨rfl,rfl⟩;apply lP∘WK;apply(W)<;>intro b2;·
   apply(TC);refine aG (h4 O ((⟨.own KR Z.l.length [],aC⟩:J Bool)) _ rfl rfl ((show _=Value.slice _ _ _ from rfl).trans (v4 iX)) rfl bC (i:=s.target.toNat) cW iC) ?_;refine i4 (jL O ((⟨.own KR Z.l.length [],aC⟩:J Bool)) (true) rfl rfl rfl rfl c0 bC bI bC bH aE aE) ?_;rintro v E G ⟨rfl,rfl⟩;refine eI (aZ (cR ?_));apply(h7);refine cK (b9B C2 x.lX _ _ OT D) ?_;rintro v E G ⟨bAr,rfl,bBO,aSA,uI,rfl⟩;apply(TB);exact oQ ⟨(k+1,⟨qL.set s.target.toNat (L6 (qL.getD s.target.toNat default) (xL s x t)),aC.set s.target.toNat true,B.set x.lX.toNat true⟩,bAr,_),by dsimp only;omega,by
   (have jH:¬(BG (qL.getD s.target.toNat default) (xL s x t)).bG<=(BG (qL.getD s.target.toNat default) (xL s x t)).bO:=by simpa using b2);rw[pY,if_neg jH,L6,if_pos D],bBO,by dsimp only;omega,λr M=>(dW r M).mono uI⟩
  apply(mD);exact oQ ⟨(k+1,⟨qL.set s.target.toNat (L6 (qL.getD s.target.toNat default) (xL s x t)),aC,B⟩,C2,S),by dsimp only;omega,by
  have jH:(BG (qL.getD s.target.toNat default) (xL s x t)).bG<=(BG (qL.getD s.target.toNat default) (xL s x t)).bO:=by simpa using b2
  rw[pY,if_pos jH,L6,if_neg D],OT,by dsimp only;omega,dW⟩
 obtain rfl:k=m.l.length:=by omega
 apply S5∘hM∘yG∘F5;refine bN ((⟨RU,qL⟩:J a9).L 90 a9.cells++L) S (J0 rfl LS LS) ?_;exact⟨(⟨RU,qL⟩:J a9),C2,by rw[J.val,lY];try rfl,aFb,by rw[P0,<-fT],rfl,dW⟩
end Go.Proofs.YtchfclmokpbldaaGreat
namespace Go.Proofs.YtchfclmokpbldaaGreat
open Go.Aw Go Go.Proofs.Tryz
section
attribute [local irreducible] cH c6 dP aI cJ eD e9 e0 e1 e5 eS e8 J.L
def aK6(h:A->B:=by exact(aG qH ·)):=h
def aRl(h:A->B:=by exact(eO x9 ·)):=h
def aQs(x:cF)(kind target n:Int)(L:aP)(R:aJ)(h:tX x R):
 aI prog 129 [x.val,.int .i64 kind,.int .i64 target,.int .i64 n].toArray L R (λv E G=>v=.int .i64 (E3 x.aK.cD.l x.c5.l x.time kind target n)/\L=E/\R=G):=by
 have jA:=h.aK.cD;have kD:=(KP h.ok).len;refine bW 65 call129 func129 ?_;apply(c8);intro cT;apply g7∘mM;refine c7 [(1,.int _ _),(2,.int _ _),(3,.int _ _),(4,.pointer _),(9,.int _ _)] bP λeZ=>?_;refine gP (b4 8 57) (λg:{k:Nat//k<=x.aK.cD.l.length/\∀j:Nat,j<k->¬((x.aK.cD.l.getD j default).kind=kind/\(x.aK.cD.l.getD j default).target=target)}=>[(9,.int .i64 ((g.1:Nat):Int))]) (λg=>x.aK.cD.l.length-g.1) (⟨0,by omega,λj aY=>by omega⟩) ?_;rintro⟨k,hk,hD⟩ bZ;try dsimp only
 apply A7∘eP∘Ey;apply(W)<;>intro aO;·
  have hg:=bJ x.aK.cD.l k default;refine dK (aZ (a6 (e3 (a6 (a6 (cR ?_))))));apply FD∘aK6∘TE∘rO;apply cB (aC:=[_,_,_,_,_,_,_,_,_]) (j:=9) (a7:=28) rfl rfl aE rfl aW rfl;·intro nY;replace nY:=a8 nY;exact(FD∘aK6∘TE) HW
  intro Hx;apply(b3);apply(W)<;>intro bF;·refine lC (lB (lA (aZ (cR ?_))));apply(N7);exact a8k
  have vP:=aMx (S:=x.aK.cD.l) (kind:=kind) (target:=target) (k:=k) D D hD;apply eR∘eP;refine aG qI ?_;apply gE∘fH;refine cC rfl (a9G x.aK x.c5 (k:Int) x.time _ _ jA h.c5 h.LF h.time) ?_;apply(dA);intro jE;apply rQ∘kJ∘tC;apply iZ (aC:=[_,_,_]) (j:=5) (a7:=52) rfl rfl aE rfl aW rfl;·intro k5;replace k5:=a8 k5;exact(fH) PP
  intro Ce;apply(c9);apply iZ (aC:=[_,_,_,_]) (j:=10) (a7:=57) rfl rfl aE rfl aW rfl;·intro qS;replace qS:=a8 qS;exact(gE) GD
  exact aW1
 exact aWa
def aL8(x:cF)(L:aP)(R:aJ)(h:tX x R):
 aI prog 55 [x.val].toArray L R (λv E G=>∃iH lO:a0 Int,v=.agg #[iH.val,lO.val]/\iH.l=GL x.aK x.c5.l x.time x.aK.bU.a3.l.length/\lO.l=KD x.aK x.c5.l x.time x.aK.bU.aX.l.length/\L=E/\cZ lO::cZ iH::R=G):=by
 have Gz:=h.aK.bU.a3;have aER:=h.aK.bU.aX;have Gn:=zE (KP h.ok).bU;have RG:=Gn.O4;have u5:=Gn.M8;refine bW 50 call55 func55 ?_;apply(c8);intro gK;apply(dA);intro cS;apply lP∘dA;intro dG;apply r1∘mM;refine c7 [(1,.pointer _),(2,.pointer _),(3,.pointer _),(4,.int _ _)] bP λeZ=>?_;refine mC ([4]++b4 6 17) ((⟨λg=>[(4,.int .i64 ((g.1.1:Nat):Int))],λg=>⟨dG,[g.1.2.val,.slice none 0 0],80⟩::(g.1.2.L 3 aL++(⟨cS,[.slice none 0 0,.slice none 0 0],80⟩::⟨gK,x.cells,54⟩::L)),λ_=>R,λg=>x.aK.bU.a3.l.length-g.1.1⟩:dV {g:Nat×J Int//g.1<=x.aK.bU.a3.l.length/\g.2.ok 1 aL/\g.2.l=GL x.aK x.c5.l x.time g.1})) (⟨(0,J.nil),by dsimp only;omega,J.g6,rfl⟩) bP Db fF ?_;rintro⟨⟨k,iH⟩,hk,MU,fW⟩ bZ;try dsimp only
 dsimp only at hk MU fW;have BP:iH.l.length=k:=by rw[fW,a5x]
 apply(A7);iterate 3 apply(eP)
 apply N8∘D1;apply(W)<;>intro aO;·refine dK (aZ (a6 (e3 ?_)));refine hF O [] [0,1,2,3,4,5] [6,7,8] ([a5.mk dG _ _,a5.mk gK _ _]) _ cX bE a2 dT ?_;apply l1∘aRl∘wM;refine k2 rfl (aQs x 5 (k:Int) 3 _ _ h) rfl rfl ?_;rintro v E G ⟨rfl,rfl,rfl⟩;refine⟨a2,gN,?_⟩;apply(VA);rintro v E G ⟨C0,rfl,rfl,KZ⟩;replace KZ:=KZ.symm;subst KZ;apply(xF);refine o4 aYG rfl rfl rfl ?_;rintro v E G ⟨aUx,rfl,aTt,rfl,rfl⟩;exact(KI∘z4) aZC
 obtain rfl:k=x.aK.bU.a3.l.length:=by omega
 apply(G0);refine c7 [(1,.pointer _),(2,.pointer _),(3,.pointer _),(5,.int _ _)] bP λnS=>?_;refine mC ([5]++b4 23 26) ((⟨λg=>[(5,.int .i64 ((g.1.1:Nat):Int))],λg=>⟨dG,[iH.val,g.1.2.val],80⟩::(g.1.2.L 3 aL++(iH.L 3 aL++(⟨cS,[.slice none 0 0,.slice none 0 0],80⟩::⟨gK,x.cells,54⟩::L))),λ_=>R,λg=>x.aK.bU.aX.l.length-g.1.1⟩:dV {g:Nat×J Int//g.1<=x.aK.bU.aX.l.length/\g.2.ok 1 aL/\g.2.l=KD x.aK x.c5.l x.time g.1})) (⟨(0,J.nil),by dsimp only;omega,J.g6,rfl⟩) bP Db fF ?_;rintro⟨⟨j,lO⟩,aY,C8,K4⟩ bZ;try dsimp only
 dsimp only at aY C8 K4;have JA:lO.l.length=j:=by rw[K4,a4h]
 apply(A7);iterate 3 apply(eP)
 apply N8∘D1;apply(W)<;>intro bF;·
  have hg:=bJ x.aK.bU.aX.l j default;refine dK (aZ (a6 (e3 ?_)));refine hF O [] [0,1,2,3,4,5,6,7,8,9,10,11,12,13,14] [15,16,17] ([a5.mk dG _ _,a5.mk gK _ _]) _ cX bE a2 dT ?_;apply l1∘aRl∘wM;iterate 3 apply(wL)
  apply Ps∘wM;refine eO Dc ?_;apply EM∘vA;refine eO vZ ?_;refine k2 rfl (aQs x 6 (j:Int) _ _ _ h) rfl rfl ?_;rintro v E G ⟨rfl,rfl,rfl⟩;refine⟨a2,gN,?_⟩;apply(VA);rintro v E G ⟨bAj,rfl,rfl,Mt⟩;replace Mt:=Mt.symm;subst Mt;apply(xF);refine o4 b00 rfl rfl rfl ?_;rintro v E G ⟨aG9,rfl,aFI,rfl,rfl⟩;apply KI∘z4;exact dU ⟨(j+1,⟨aG9,lO.l++[E3 x.aK.cD.l x.c5.l x.time 6 (j:Int) ((x.aK.bU.aX.l.getD j default).hH.l.length:Int)]⟩),by dsimp only;omega,aFI,by dsimp only;rw[aNe,K4]⟩
 exact b1d
def Zw(x:cF)(A:List Bool)(L:aP)(R:aJ)(h:tX x R)(gI:lS x.aK.bU.Y A):
 aI prog 59 [x.val].toArray L R (λv E G=>∃Z:a0 a9,v=Z.val/\Z.l=KE x.aK A x.c5.l x.time/\L=E/\s3 Z::R=G):=by
 have jA:=h.aK.cD;have xT:=KP h.ok;have kD:=xT.len;have HL:=(zE xT.bU).Y.aD;refine bW 31 call59 func59 ?_;apply(c8);intro gK;apply(FG);refine gJ O [0,1,2,3,4,5,6,7,8,9,10] ([a5.mk gK _ _]) cX bE a2 ?_;apply kT∘kT∘ND;refine a4 x9 ?_;refine q1 rfl (aL8 x _ _ h) rfl rfl ?_;rintro v E G ⟨iH,lO,rfl,fW,K4,rfl,rfl⟩;refine⟨a2,gN,?_⟩;refine q1 rfl (b7j x.aK.bU ⟨iH,lO⟩ A _ _ (IY h.aK.bU λr M=>aM (.tail _ (.tail _ M))) ⟨aM (.tail _ (.head _)),aM (.head _)⟩ (λ_=>gI)) rfl rfl ?_;rintro v E G ⟨q,rfl,gG,gB,rfl,rfl⟩;refine⟨a2,gN,?_⟩;refine a4 iR ?_;refine a4 sL ?_;refine a4 sL ?_;refine a4 A0 ?_;apply(qD);refine gS (aZ (a6 (a6 ?_)));have pV:lL x.aK.bU ⟨iH,lO⟩=true:=by exact b0v
 have rV:q.l.length=x.aK.bU.Y.aD.l.length:=by rw[gB];exact a4s xT.bU pV gI
 refine hG 90 a9.cells 2 q [] gG ?_;refine fU ?_;have b7:∀r∈R,aH r (s3 q.U::cZ lO::cZ iH::R):=λr M=>aM (.tail _ (.tail _ (.tail _ M)));have hok:=a9y xT.bU pV gI;apply(WS);apply(W)<;>intro aO;·
  apply TD∘AU;refine lJ (E:=L) (G:=R) vD ?hp ?c2 ?bD;case hp=>exact absurd (by first|exact hok|exact hok.1) aO
  case c2=>exact a2
  case bD=>exact λr M=>aM EZ
 apply G1∘eP∘kJ∘fH;refine cK (b7n q.U x.aK.cD x.c5 x.time _ _ n1 (jA.mono b7) (h.c5.mono b7) (by show q.l.length<=1000;omega) D h.aUl h.LF h.time) ?_;rintro v E G ⟨dJ,fB,rfl,aFU,aFV,rfl,jR⟩;refine aG iR ?_;apply S1∘yG∘jW;refine hG 90 a9.cells 2 dJ [] aFU ?_;refine fU ?_;apply wC∘S4;refine lJ (E:=L) (G:=s3 dJ.U::R) vD ?hp ?c2 ?bD;case hp=>exact⟨dJ.U,rfl,by show dJ.l=_;rw[aFV,aPa x.aK A x.c5.l x.time fW K4,<-gB],rfl,rfl⟩
 case c2=>exact a2
 case bD=>
  exact λr M=>by
   rcases List.mem_cons.1 M with h|h;·rw[h];exact aM (.head _)
   ·exact((b7 r h).mono jR).mono λr M=>aM (.tail _ M)
def Yi(h:A->B:=by exact(aG x9 ·)):=h
def aO1(h:A->B:=by exact(a4 A0 ·)):=h
def aQa(h:A->B:=by exact pO rfl (tV (f:=fK.cells) (xs:=x.eM) O rfl rfl rfl bH rfl rfl (BS) bI D) rfl rfl):=h
def aOZ(h:A->B:=by exact pO rfl Dg rfl rfl):=h
def b5D(h:A->B:=by exact pO rfl (j2 (f:=fK.cells) (p:=(⟨a2o,x.eM.l⟩:J fK)) (a:=(⟨x.time,k,t,n⟩:fK)) O rfl rfl rfl rfl (a1O) c0 j8 rfl kH) rfl rfl):=h
def aQC(h:A->B:=by exact(aG lR ·)):=h
def aPt(h:A->B:=by exact(a4 aIU ·)):=h
def aCF(g:hQ)(q:b0)(L:aP)(R:aJ):oY:=λv E G=>∃y:cF,v=y.val/\h5 g q y/\lK y G/\L=E/\∀r∈R,aH r G
def WA(g:hQ)(p:b0)(x:cF)(k t n:Int)(L:aP)(R:aJ)(K:h5 g p x)(bD:lK x R)(hl:p.eM.length<=400):
 aI prog 220 [x.val,.int .i64 k,.int .i64 t,.int .i64 n].toArray L R (aCF g (o7 p k t n) L R):=by
 have BS:=bD.eM;have RM:x.eM.l=p.eM:=K.eM;have kD:x.eM.l.length<=400:=by rw[RM];exact hl
 refine bW 32 call220 func220 ?_;apply(c8);intro cT;apply(dA);intro gL;apply(jW);refine a0r (b4 10 11++[9]) ((⟨λg=>[(9,g.1.val)],λg=>g.1.L 150 fK.cells++(⟨gL,r2.cells,54⟩::⟨cT,x.cells,54⟩::L),λ_=>R,λ_=>0⟩:dV {q:J fK//q.ok 4 fK.cells/\q.l=x.eM.l++[(⟨x.time,k,t,n⟩:fK)]})) ?_ ?_;·
  skip
  refine Dt O [] [0,1,3,4,5,6,7,8,2,9,10] [11] ([a5.mk cT _ _]) [] 11 cX bE rfl rfl a2 λOQ=>?_;refine kN 0 OQ dT rfl sM ?_;refine kN 1 OQ dT rfl E1 ?_;refine kN 3 OQ dT rfl sM ?_;refine kN 4 OQ dT rfl E1 ?_;refine kN 5 OQ dT rfl zV ?_;refine kN 6 OQ dT rfl zV ?_;refine kN 7 OQ dT rfl zV ?_;refine kN 8 OQ dT rfl aZK ?_;refine kI [2,9] OQ dT bE ?_;refine o1 ?_ ?_;·
   skip
   apply(aQa);rintro v E G ⟨a2o,rfl,a1O,rfl,rfl⟩;apply(fS);refine kI [9] OQ dT bE ?_;apply kU∘aOZ;rintro v E G ⟨KQ,rfl,rfl,T7⟩;replace T7:=T7.symm;subst T7;exact aVx
  apply kU∘aOZ;rintro v E G ⟨KQ,rfl,rfl,T7⟩;replace T7:=T7.symm;subst T7;apply(fS);refine kI [2] OQ dT bE ?_;apply kU∘aQa;rintro v E G ⟨a2o,rfl,a1O,rfl,rfl⟩;exact aVx
 rintro⟨gC,bEd,kE⟩ bZ;try dsimp only
 dsimp only[cF.cells];have bEe:gC.l.length=x.eM.l.length+1:=by rw[kE];simp
 refine hG 150 fK.cells 4 gC [] bEd ?_;refine fU ?_;have uH:∀r∈R,aH r (iY gC.U::R):=λr M=>aM (.tail _ M);apply s2∘nO∘BA;apply(W)<;>intro aO;·refine ZN (y:=gC.U) (m:=gC.l.length-400) n1 D aIw bH ?_;have Ng:∀r∈iY gC.U::R,aH r (iY (oK gC.U (gC.l.length-400) 4)::iY gC.U::R):=λr M=>aM (.tail _ M);apply wC∘QQ;refine aG aZr ?_;apply vG∘hM∘QT∘Yi∘wA;refine bN L (iY (oK gC.U (gC.l.length-400) 4)::iY gC.U::R) (pG rfl Qr) ?_;exact⟨({x with eM:=oK gC.U (gC.l.length-400) 4}:cF),rfl,K.AR (by show gC.l.drop _=_;rw[SC,bEe,kE]),⟨(bD.aK.mono uH).mono Ng,(bD.held.mono uH).mono Ng,(bD.c5.mono uH).mono Ng,(bD.eF.mono uH).mono Ng,(bD.aS.mono uH).mono Ng,(bD.cP.mono uH).mono Ng,aM (.head _)⟩,rfl,λr M=>(uH r M).mono Ng⟩
 apply G1∘QT∘Yi∘wA;refine bN L (iY gC.U::R) (pG rfl Qr) ?_;exact⟨({x with eM:=gC.U}:cF),rfl,K.AR (by show gC.l=_;rw[SC,kE,show x.eM.l.length+1-400=0 by omega,Jd]),⟨bD.aK.mono uH,bD.held.mono uH,bD.c5.mono uH,bD.eF.mono uH,bD.aS.mono uH,bD.cP.mono uH,aM (.head _)⟩,rfl,uH⟩
def aQH(g:hQ)(p:b0)(x:cF)(z:Int)(L:aP)(R:aJ)(dR:Inv g p)(K:h5 g p x)(bD:lK x R)(eC:0<=z/\z<p.aS.length):
 aI prog 265 [x.val,.int .i64 z].toArray L R (aCF g (zB g p z) L R):=by
 have C7:=bD.aS;have tL:=dR.Qx;have i1:=dR.D5;have aEN:z.toNat<x.aS.l.length:=by rw[K.aS];omega
 have rR:=iL (l:=x.aS.l) (k:=z.toNat) default aEN;obtain⟨c,hc⟩:∃c,c=x.aS.l.getD z.toNat default:=⟨_,rfl⟩;rw[<-hc]at rR;rw[K.aS]at hc;refine bW 49 call265 func265 ?_;apply(c8);intro cS;apply(dA);intro cT;apply(jW);refine hF O [] [0,1,2,3,4,5,6,7,8] [9] ([a5.mk cS _ _]) _ cX bE a2 aIF ?_;refine eO x9 ?_;apply wM∘CN;refine eO Xx ?_;apply EM∘vA;refine k2 rfl (WA g p x 1 z c.jJ _ _ K bD dR.eM) rfl rfl ?_;rintro v E G ⟨y,rfl,aN,jZ,rfl,nF⟩;refine⟨a2,gN,?_⟩;obtain⟨gR,rfl⟩:∃gR,gR=G:=⟨_,rfl⟩;have w2:=dR.AR 1 z c.jJ;have X6:y.cP.aU.l=g.cG:=aN.cG;have a2h:y.cP.aT.l=p.aF:=aN.aF;have bFh:y.cP.cA=g.bT:=aN.bT;have aT5:y.time=p.time:=aN.time;have rT:=dR.Gg;have pL:=jZ.cP.cG;have jA:=jZ.cP.aF;have aGV:z.toNat<y.cP.aU.l.length:=by rw[X6];omega
 have rZ:=iL (l:=y.cP.aU.l) (k:=z.toNat) 0 aGV;have DH:=rT.Dh z.toNat D;rw[<-X6,<-a2h]at DH;obtain⟨s,hs⟩:∃s,s=y.cP.aU.l.getD z.toNat 0:=⟨_,rfl⟩;rw[<-hs]at rZ DH;have xS:=bJ y.cP.aT.l s.toNat default;obtain⟨w,cV⟩:∃w,w=y.cP.aT.l.getD s.toNat default:=⟨_,rfl⟩;rw[<-cV]at xS;have wF:v5 y.cP.aT.l y.cP.aU.l y.cP.cA s y.time=0:=by rw[X6,a2h,bFh,aT5,v5,if_neg (by rw[dR.BN];decide),if_neg (by rw[a2h]at DH;omega),if_pos dR.a2A]
 apply(p7);refine gS (aZ (a6 (cR ?_)));apply(FD);refine aG Xx ?_;apply ZW∘FD;refine aG a9g ?_;apply sW∘IQ∘eP∘aQC∘IW;refine cK (aK7 y.cP s y.time _ _ jZ.cP) ?_;rintro v E G ⟨r0,x4,bT,rfl,⟨On,Ot⟩,RH,rfl,rfl⟩;refine aG iR ?_;apply(G7);intro kL;apply i3∘pQ∘mT;apply(W)<;>intro aO;·
  obtain⟨Vd,Ou,rfl⟩:=RH wF;refine hG 3 aL 1 x4 [] Ot ?_;refine fU ?_;refine hG 76 bL.cells 5 r0 [] On ?_;refine fU ?_;have uH:∀r∈gR,aH r (uT r0.U::cZ x4.U::gR):=λr M=>aM (.tail _ (.tail _ M));have BU:g.cG.getD z.toNat 0=s:=by rw[hs,X6]
  have HN:p.aF.getD s.toNat default=w:=by rw[cV,a2h]
  have JE:r0.l=rM p.aF s p.time:=by rw[Vd,a2h,aT5]
  have RN:h5 g {o7 p 1 z (p.aS.getD z.toNat default).jJ with aF:=rM p.aF s p.time} ({y with cP:=⟨r0.U,x4.U,y.cP.cA⟩}:cF):=by rw[hc]at aN;exact{aN with aF:=JE,cG:=Ou.trans X6}
  have aT4:lK ({y with cP:=⟨r0.U,x4.U,y.cP.cA⟩}:cF) (uT r0.U::cZ x4.U::gR):=⟨jZ.aK.mono uH,jZ.held.mono uH,jZ.c5.mono uH,jZ.eF.mono uH,jZ.aS.mono uH,⟨aM (.head _),aM (.tail _ (.head _))⟩,jZ.eM.mono uH⟩;apply eK∘aQC∘eP;refine PW O rfl rfl rfl rfl s6 aE aE aE ?_;apply r1∘c9∘b3;apply(W)<;>intro bF;·apply eK∘Yi∘b1;refine cK (WA g _ _ 2 s 0 _ _ RN aT4 (dR.AR _ _ _).eM) ?_;rintro v E G ⟨u,rfl,c4,xV,rfl,jR⟩;apply rP∘Yi∘wA;refine bN L _ (pG rfl Qr) ?_;(have e:zB g p z=o7 {o7 p 1 z (p.aS.getD z.toNat default).jJ with aF:=rM p.aF s p.time} 2 s 0:=by rw[zB,BU,HN,if_pos bF]);exact⟨u,rfl,by rw[e];exact c4,xV,rfl,λr M=>((nF r M).mono uH).mono jR⟩
  apply eR∘Yi∘wA;refine bN L _ (pG rfl Qr) ?_;have e:zB g p z={o7 p 1 z (p.aS.getD z.toNat default).jJ with aF:=rM p.aF s p.time}:=by rw[zB,BU,HN,if_neg (by rw[bF];decide)]
  exact⟨_,rfl,by rw[e];exact RN,aT4,rfl,λr M=>(nF r M).mono uH⟩
 exact absurd wF aO
def b2W(f:hI)(z:Int)(L:aP)(R:aJ)(hf:k9 f R)(iJ:i6 f.aT.l f.aU.l f.cA=0)(eC:0<=z/\z<f.aU.l.length):
 aI prog 268 [f.val,.int .i64 z].toArray L R (λv E G=>v=.bool ((xC f.aT.l f.aU.l f.cA (f.aU.l.getD z.toNat 0)).any λk=>TP (f.aT.l.getD k.toNat default))/\L=E/\R=G):=by
 have jA:=hf.aF;have pL:=hf.cG;have rZ:=bJ f.aU.l z.toNat 0;refine bW 42 call268 func268 ?_;apply(c8);intro cS;apply uN∘jW;refine gJ O [0,1,2,3,4,5,6,7] ([a5.mk cS _ _]) cX bE a2 ?_;refine a4 lR ?_;apply(oV);refine a4 Xx ?_;apply(lW);refine q1 rfl (aC3 f (f.aU.l.getD z.toNat 0) _ _ hf) rfl rfl ?_;rintro v E G ⟨q,rfl,gG,gB,rfl,rfl⟩;refine⟨a2,gN,?_⟩;apply aO1∘LI∘mM;refine c7 [(2,.pointer _),(5,.slice _ _ _),(6,.int _ _)] bP λeZ=>?_;have Bk:∀y∈q.l,0<=y/\y<f.aT.l.length:=λy aN=>by exact aWM
 refine hG 3 aL 1 q [] gG ?_;refine fU ?_;have Bi:aH (cZ q.U) (cZ q.U::R):=aM (.head _);have rV:q.l.length<=32:=by rw[gB];exact Yy
 have a13:=jA.mono λr M=>aM (R:=cZ q.U::R) (.tail _ M);refine gP ([4,6]++b4 14 28) (λg:{k:Nat//k<=q.l.length/\∀j:Nat,j<k->TP (f.aT.l.getD (q.l.getD j 0).toNat default)=false}=>[(6,.int .i64 ((g.1:Nat):Int))]) (λg=>q.l.length-g.1) (⟨0,by omega,λj aY=>by omega⟩) ?_;rintro⟨k,hk,hD⟩ bZ;try dsimp only
 apply(uA);apply(W)<;>intro aO;·
  have DE:=bJ q.l k 0;have a10:=Bk _ (gU DE);have xS:=bJ f.aT.l ((q.l.getD k 0).toNat) default;refine dK (aZ (a6 (e3 (a6 ?_))));refine gJ O [0,1,2,3,4,5,6,7,8,9,10,11,12,13,14,15,16,17,18,19,20,21] _ cX bE g3 ?_;apply(iI);refine a4 oG ?_;apply FF∘lW∘aPt∘CJ;refine a4 (PX rfl) ?_;apply(tN);refine l0 (k:=30) aW (λnY=>?_) (λnY=>?_);·
   replace nY:=a8 nY;(iterate 10 apply(kQ));apply(m2);refine wR rfl ?_;apply(FC);refine lJ (E:=L) (G:=R) (pG rfl VO) ?hp ?c2 ?bD;case hp=>exact aVM
   case c2=>exact a2
   case bD=>exact λr M=>aM (.tail _ M)
  replace nY:=a8 nY;apply(iI);refine a4 oG ?_;apply FF∘lW∘aPt∘CJ;refine a4 B7 ?_;apply(m2);apply(W)<;>intro bF;·
   apply(FC);refine lJ (E:=L) (G:=R) (pG rfl VO) ?hp ?c2 ?bD;case hp=>exact aVM
   case c2=>exact a2
   case bD=>exact λr M=>aM (.tail _ M)
  apply(mD);exact oQ ⟨k+1,by omega,λj aY=>by
  rcases gY j k with h|h;·exact hD j h
  ·(obtain rfl:j=k:=by omega);rw[TP,Bool.or_eq_false_iff];exact⟨by simpa using nY,decide_eq_false bF⟩⟩
 apply(WF);refine lJ (E:=L) (G:=R) (pG rfl VO) ?hp ?c2 ?bD;case hp=>exact⟨by rw[<-gB,a5v λj aY=>hD j D],rfl,rfl⟩
 case c2=>exact a2
 case bD=>exact λr M=>aM (.tail _ M)
end
attribute [local irreducible] cH c6 dP aI cJ eD e9 e0 e1 e5 eS e8 J.L
def aCy(h:B:=by exact⟨.nil,.nil,by rw[X];rfl,⟨J.g6,J.g6⟩,by rw[qA,if_pos D],by rw[AD,if_pos D],by rw[lT,lT];rfl,rfl⟩):=h
def aA5(h:A->B:=by exact(aG aYg ·)):=h
def aML(h:A->B:=by exact(aG (h4 O ((⟨yC,cs.set k ⟨iE.off,-1,iE.jJ⟩⟩:J b8)) _ rfl rfl ((show _=Value.slice _ _ _ from rfl).trans (by simp only[J.val,p6,vR])) rfl bC (i:=k) cW iC) ·)):=h
def b5Z(s:dQ)(u:a0 Int)(c:a0 b8)(t:Int)(L:aP)(R:aJ)(hs:zX s R)(hv:aH (cZ u) R)(hc:aH (sS c) R):
 aI prog 264 [s.val,u.val,c.val,.int .i64 t].toArray L R
  (λz E G=>∃(p:J b8) (q:J Int),z=.tuple #[p.val,q.val,.int .i64 (q6 s u.l c.l t)]/\(p.ok 3 b8.cells/\q.ok 1 aL)/\p.l=qA s u.l c.l t/\q.l=AD s u.l c.l t/\q.L 3 aL++(p.L 71 b8.cells++L)=E/\R=G):=by
 have pL:=hs.aU;refine bW 95 call264 func264 ?_;apply(c8);intro cT;apply yG∘g7;refine aG qI ?_;refine cC rfl (a5T s _ _ hs) ?_;apply(kB);apply(W)<;>intro aO;·
  apply yF∘ME;refine bN L R HX ?_;have X:q6 s u.l c.l t=oI s:=by rw[q6,if_pos aO]
  exact aCy
 have u6:=KP (s:=s) D;have oA:=u6.len;apply Z0∘lM∘rO;apply cB (aC:=[_,_,_,_,_,_]) (j:=6) (a7:=27) rfl rfl aE rfl aW rfl;·exact a9r
 intro JG;apply(b3);apply(W)<;>intro bF;·
  apply cO∘ME;refine bN L R HX ?_;have X:q6 s u.l c.l t=11:=by rw[q6,if_neg D,if_pos D]
  exact aCy
 apply(OB);apply cB (aC:=[_,_]) (j:=2) (a7:=37) rfl rfl aE rfl aW rfl;·exact GG
 intro mY;apply(b3);apply(W)<;>intro b2;·
  apply cO∘ME;refine bN L R HX ?_;have X:q6 s u.l c.l t=8:=by rw[q6,if_neg D,if_neg D,if_pos D]
  exact aCy
 have X:q6 s u.l c.l t=0:=by rw[q6,if_neg D,if_neg D,if_neg D]
 apply(G1);refine gO aZZ rfl ?_;rintro v E G ⟨aUD,rfl,a7d,rfl,rfl⟩;apply(FG);obtain⟨yC,aDM⟩:∃yC,yC=aUD:=⟨_,rfl⟩;rw[<-aDM]at a7d|-;apply eK∘WN;refine c7 [(1,.slice _ _ _),(3,.int _ _),(4,.pointer _),(12,.slice _ _ _),(13,.slice _ _ _),(14,.int _ _)] bP λeZ=>?_;refine mC ([13,14,15]++b4 43 50) ((⟨λg=>[(14,.int .i64 ((g.1.1:Nat):Int)),(13,g.1.2.2.val)],λg=>g.1.2.2.L 3 aL++((⟨yC,g.1.2.1⟩:J b8).L 71 b8.cells++(⟨cT,s.cells,38⟩::L)),λ_=>R,λg=>c.l.length-g.1.1⟩:dV {g:Nat×List b8×J Int//g.1<=c.l.length/\MD c.l (KT s u.l c.l t) g.1 g.2.1/\g.2.2.ok 1 aL/\g.2.2.l=BE s u.l c.l g.1})) (⟨(0,c.l,J.nil),by dsimp only;omega,.zero,J.g6,rfl⟩) bP DP fF ?_;rintro⟨⟨k,cs,q⟩,hk,pA,gG,gB⟩ bZ;try dsimp only
 dsimp only at hk pA gG gB;have vR:=pA.len;have AK:(⟨yC,cs⟩:J b8).ok 3 b8.cells:=J.oZ bI a7d vR;have rV:q.l.length<=k:=by rw[gB];exact aBr k
 apply(uA);apply(W)<;>intro dZ;·
  have rZ:=bJ s.aU.l k default;have Nm:=bJ c.l k default;have rR:=pA.qV k (g4 _);rw[Nm]at rR;have MQ:=λ(x:b8)=>pA.next (x:=x) D;have a6O:=pA.EQ (i:=k);have Hj:=aP8 (s:=s) (v:=u.l) (c:=c.l) (k:=k);obtain⟨z,eC⟩:∃z,z=s.aU.l.getD k default:=⟨_,rfl⟩;obtain⟨iE,Nn⟩:∃iE,iE=c.l.getD k default:=⟨_,rfl⟩;obtain⟨V9,K3⟩:∃V9,V9=v0 z.jQ.l u.l:=⟨_,rfl⟩;have Q8:KT s u.l c.l t k=WY V9 iE t:=by rw[KT,K3,eC,Nn]
  rw[<-eC]at rZ;rw[<-Nn]at rR Nm;rw[<-eC,<-Nn,<-K3]at Hj;rw[Q8]at MQ;rw[Q8,Nm]at a6O;apply(CK);refine aG qH ?_;apply sW∘hM;refine cC rfl (aLz z.jQ u _ _ (aH.jQ pL rZ) hv) ?_;rw[<-K3];apply Ez∘mT;apply(W)<;>intro dX;·
   apply s2∘h7∘aA5∘k7;refine aG b0t ?_;apply(mT);apply(W)<;>intro h3;·apply yH∘b1∘aA5∘k7;refine i4 b0K ?_;rintro v E G ⟨rfl,rfl⟩;refine eI (aZ (lC (lB (lA (aZ (cR ?_))))));exact(N7) aYh
   refine dK (aZ (lC (lB (lA (aZ (cR ?_))))));exact(N7) aZ8
  apply QN∘aA5∘k7;refine i4 b0I ?_;rintro v E G ⟨rfl,rfl⟩;apply(jW);have aEP:=J.p4 (f:=b8.cells) (aR:=3) (p:=(⟨yC,cs⟩:J b8)) (i:=k) (x:=⟨iE.off,-1,iE.jJ⟩) bI AK;have aEO:(cs.set k ⟨iE.off,-1,iE.jJ⟩)[k]?=some ⟨iE.off,-1,iE.jJ⟩:=tQ D;apply yH∘aML∘k7;refine aG b0U ?_;apply(oW);apply(W)<;>intro hW;·have bCf:=J.p4 (f:=b8.cells) (aR:=3) (p:=(⟨yC,cs.set k ⟨iE.off,-1,iE.jJ⟩⟩:J b8)) (i:=k) (x:=⟨true,-1,iE.jJ⟩) bI aEP;have bCc:((cs.set k ⟨iE.off,-1,iE.jJ⟩).set k ⟨true,-1,iE.jJ⟩)[k]?=some ⟨true,-1,iE.jJ⟩:=tQ Qs;apply TC∘h7∘b1∘aML∘k7;refine i4 b0p ?_;rintro v E G ⟨rfl,rfl⟩;refine aG (h4 O ((⟨yC,(cs.set k ⟨iE.off,-1,iE.jJ⟩).set k ⟨true,-1,iE.jJ⟩⟩:J b8)) _ rfl rfl ((show _=Value.slice _ _ _ from rfl).trans (by simp only[J.val,p6,vR])) rfl bC (i:=k) cW iC) ?_;apply(k7);refine i4 aZY ?_;rintro v E G ⟨rfl,rfl⟩;refine eI (aZ (cR ?_));apply(WT);rintro v E G ⟨bAo,rfl,rfl,Nd⟩;replace Nd:=Nd.symm;subst Nd;refine gO aY9 rfl ?_;rintro v E G ⟨Vq,rfl,aFN,rfl,rfl⟩;apply(TB);exact dU ⟨(k+1,((cs.set k ⟨iE.off,-1,iE.jJ⟩).set k ⟨true,-1,iE.jJ⟩).set k ⟨true,-1,V9⟩,(⟨Vq,_⟩:J Int)),by dsimp only;omega,by dsimp only;rw[y6,y6];exact MQ _ (by rw[WY,if_neg dX,if_neg Xs]),aFN,by dsimp only;rw[Hj,if_pos ⟨dX,by simpa using hW⟩,gB]⟩
  exact(mD) b0X
 exact aYm
def aAW(h:A->B:=by exact hF O [] [0,1,2,3,4,5] [6] ([a5.mk cS _ _]) _ cX bE a2 aIF):=h
def aB9(h:A->B:=by exact(eO x9 ·)):=h
def aCn(h:A->B:=by exact(aG lR ·)):=h
def aPF(h:A->B:=by exact(aG aZF ·)):=h
def aOV(h:A->B:=by exact(aG (h4 O ((⟨O5,s5.aS.l⟩:J b8)) _ rfl rfl rfl rfl bC (i:=eV) cW iC) ·)):=h
def aJG(h:A->B:=by exact(aG x9 ·)):=h
def a9L(a1:hQ)(p:b0)(x:cF)(t:Int)(L:aP)(R:aJ)(dR:Inv a1 p)(K:h5 a1 p x)(bD:lK x R)(dS:p.time<=t/\t<=2147483648):
 aI prog 217 [x.val,.int .i64 t].toArray L R (aCF a1 (bM a1 p t) L R):=by
 have Q3:=dR.at dS.1 dS.2;have hv:tX ({x with time:=t}:cF) R:=tX.of (x:=({x with time:=t}:cF)) (p:=({p with time:=t}:b0)) Q3 {K with time:=rfl} bD.aK bD.c5;have gI:lS x.aK.bU.Y a1.bU:=fZ.xI K.aK Q3.xI;have pX:x.c5.l=p.c5:=K.c5;have vR:x.eF.l=p.eF:=K.eF;have i1:x.aS.l=p.aS:=K.aS;have aSI:=dR.D5;have tL:=dR.Qx;have xT:=dR.RX.len;have a7s:=Q3.iV;have Ox:=a7s.NG;have a1c:Inv a1 ({p with time:=t,eF:=p5 a1.aK p.c5 p.eF (fC a1 ({p with time:=t}:b0)) t,aS:=qA a1.aK (o5 a1 ({p with time:=t}:b0)) p.aS t}:b0):=Q3.aHw;refine bW 150 call217 func217 ?_;apply(c8);intro cS;apply(dA);intro cT;apply lP∘b1∘r7∘jW;refine gJ O [0,1,2,3,4,5,6,8,7,9,10,11,12,13,14,15,16] ([a5.mk cS _ _]) cX bE a2 ?_;apply(kT);refine a4 qI ?_;apply(WP);refine a4 x9 ?_;apply(g1);refine q1 rfl (Zw ({x with time:=t}:cF) a1.bU _ _ hv gI) rfl rfl ?_;rintro v E G ⟨Z,rfl,aE1,rfl,rfl⟩;refine⟨a2,gN,?_⟩;refine q1 rfl (b2V x.aK x.c5 x.eF Z t _ _ ⟨bD.aK.mono λr M=>aM (.tail _ M),bD.c5.mono λr M=>aM (.tail _ M),bD.eF.mono λr M=>aM (.tail _ M),aM (.head _),hv.LF⟩) rfl rfl ?_;rintro v E G ⟨pE,mG,rfl,⟨aGa,aGe⟩,aGb,aGf,rfl,rfl⟩;refine⟨a2,gN,?_⟩;refine a4 iR ?_;iterate 3 refine a4 sL ?_
 refine a4 A0 ?_;refine a4 A0 ?_;apply qD∘F7;have Uo:Z.l=fC a1 ({p with time:=t}:b0):=by rw[aE1];show KE x.aK a1.bU x.c5.l t=_;rw[fZ.g8 K.aK,pX];rfl
 have X1:pE.l=o5 a1 ({p with time:=t}:b0):=by rw[aGb,fZ.JO K.aK,pX,vR,Uo];rfl
 have aGc:mG.l=p5 a1.aK p.c5 p.eF (fC a1 ({p with time:=t}:b0)) t:=by rw[aGf,fZ.p5 K.aK,pX,vR,Uo]
 refine hG 3 aL 1 pE [] aGa ?_;refine fU ?_;refine hG 153 fR.cells 3 mG [] aGe ?_;refine fU ?_;have nF:∀r∈R,aH r (CY mG.U::cZ pE.U::s3 Z::R):=λr M=>aM (.tail _ (.tail _ (.tail _ M)));apply wC∘QT∘eP;refine aG qI ?_;apply hM∘gE;refine cK (b5Z x.aK pE.U x.aS t _ _ (bD.aK.mono nF) YR (bD.aS.mono nF)) ?_;rintro v E G ⟨eW,qE,rfl,⟨XZ,aGm⟩,aTy,aTG,rfl,rfl⟩;refine aG iR ?_;iterate 3 apply(EJ)
 apply yG∘zG;have Om:eW.l=qA a1.aK (o5 a1 ({p with time:=t}:b0)) p.aS t:=by exact aXy
 have rV:qE.l=(AD a1.aK (o5 a1 ({p with time:=t}:b0)) p.aS t):=by exact aXz
 refine hG 3 aL 1 qE [] aGm ?_;refine fU ?_;refine hG 71 b8.cells 3 eW [] XZ ?_;refine fU ?_;apply wC∘uY∘y1;obtain⟨gR,D7⟩:∃gR,gR=sS eW.U::cZ qE.U::CY mG.U::cZ pE.U::s3 Z::R:=⟨_,rfl⟩;have Q5:∀r∈R,aH r gR:=λr M=>aM (by rw[D7];exact .tail _ (.tail _ (.tail _ (.tail _ (.tail _ M)))));have a1X:aH (sS eW.U) gR:=aM a2W;have aGl:aH (cZ qE.U) gR:=aM a3x;have aGd:aH (CY mG.U) gR:=aM a86;have aF8:aH (cZ pE.U) gR:=aM (by rw[D7];exact .tail _ (.tail _ (.tail _ (.head _))));refine sU a3c ?_;have bEz:qE.l.length<=16:=by exact aWP
 obtain⟨VC,a2g⟩:∃VC:cF,VC={x with time:=t,eF:=mG.U,aS:=eW.U}:=⟨_,rfl⟩;have bBC:h5 a1 ({p with time:=t,eF:=p5 a1.aK p.c5 p.eF (fC a1 ({p with time:=t}:b0)) t,aS:=qA a1.aK (o5 a1 ({p with time:=t}:b0)) p.aS t}:b0) VC:=by rw[a2g];exact{K with time:=rfl,eF:=aGc,aS:=Om}
 have bBE:lK VC gR:=by rw[a2g];exact⟨bD.aK.mono Q5,bD.held.mono Q5,bD.c5.mono Q5,aGd,a1X,bD.cP.mono Q5,bD.eM.mono Q5⟩
 refine mJ (E:=⟨cT,r2.cells,54⟩::⟨cS,VC.cells,54⟩::L) (by rw[a2g];rfl) ?_;apply(OG);refine c7 [(1,.int _ _),(2,.pointer _),(4,.pointer _),(5,.slice _ _ _),(9,.slice _ _ _),(11,.int _ _)] bP λeZ=>?_;refine kO ([11]++b4 51 12) ((⟨λg=>[(11,.int .i64 ((g.1.1:Nat):Int))],λg=>⟨cT,r2.cells,54⟩::⟨cS,g.1.2.1.cells,54⟩::L,λg=>g.1.2.2,λg=>qE.l.length-g.1.1⟩:dV {g:Nat×cF×aJ//g.1<=qE.l.length/\h5 a1 (E6 a1 ({p with time:=t,eF:=p5 a1.aK p.c5 p.eF (fC a1 ({p with time:=t}:b0)) t,aS:=qA a1.aK (o5 a1 ({p with time:=t}:b0)) p.aS t}:b0) (qE.l.take g.1)) g.2.1/\lK g.2.1 g.2.2/\∀r∈gR,aH r g.2.2})) (⟨(0,VC,gR),by dsimp only;omega,bBC,bBE,mB _⟩) ?_;rintro⟨⟨k,y,S⟩,hk,UU,jZ,dW⟩ bZ;try dsimp only
 dsimp only[cF.cells];dsimp only at hk UU jZ dW;have w2:Inv a1 (E6 a1 ({p with time:=t,eF:=p5 a1.aK p.c5 p.eF (fC a1 ({p with time:=t}:b0)) t,aS:=qA a1.aK (o5 a1 ({p with time:=t}:b0)) p.aS t}:b0) (qE.l.take k)):=a1c.aS _;apply(uA);apply(W)<;>intro aO;·have DE:=bJ qE.l k 0;have bEA:=a5t (s:=a1.aK) (v:=o5 a1 ({p with time:=t}:b0)) (c:=p.aS) p.aS.length (qE.l.getD k 0) (by(have e:BE a1.aK (o5 a1 ({p with time:=t}:b0)) p.aS p.aS.length=qE.l:=by rw[rV,AD,if_neg aIx]);rw[e];exact gU DE);have bEy:=aGl.mono dW;have cI:=aNs a1 ({p with time:=t,eF:=p5 a1.aK p.c5 p.eF (fC a1 ({p with time:=t}:b0)) t,aS:=qA a1.aK (o5 a1 ({p with time:=t}:b0)) p.aS t}:b0) qE.l DE;refine dK (aZ (a6 (e3 ?_)));apply aAW∘aB9∘G2;refine eO qH ?_;apply(vA);refine k2 rfl (aQH a1 (E6 a1 ({p with time:=t,eF:=p5 a1.aK p.c5 p.eF (fC a1 ({p with time:=t}:b0)) t,aS:=qA a1.aK (o5 a1 ({p with time:=t}:b0)) p.aS t}:b0) (qE.l.take k)) y (qE.l.getD k 0) _ _ w2 UU jZ (by rw[aAu];show _/\_<((qA a1.aK (o5 a1 ({p with time:=t}:b0)) p.aS t).length:Int);rw[<-Om,show eW.l.length=p.aS.length by rw[Om];exact a1c.D5.trans aSI.symm];omega)) rfl rfl ?_;rintro v E G ⟨u,rfl,c4,xV,rfl,XN⟩;refine⟨a2,gN,?_⟩;apply p7∘z4;exact dU ⟨(k+1,u,_),by dsimp only;omega,by dsimp only;rw[cI];exact c4,xV,λr M=>(dW r M).mono XN⟩
 obtain rfl:k=qE.l.length:=by omega
 obtain⟨kA,a6M⟩:∃kA,kA=iV a1 ({p with time:=t}:b0):=⟨_,rfl⟩;have aEr:E6 a1 ({p with time:=t,eF:=p5 a1.aK p.c5 p.eF (fC a1 ({p with time:=t}:b0)) t,aS:=qA a1.aK (o5 a1 ({p with time:=t}:b0)) p.aS t}:b0) (qE.l.take qE.l.length)=kA:=by rw[a6M,HV (g4 _),rV];rfl
 rw[aEr]at UU w2;rw[<-a6M]at a7s Ox;have aEL:y.aS.l=kA.aS:=UU.aS;have aGn:y.aB=kA.aB:=UU.aB;have Hs:t=kA.time:=by rw[a6M];exact(aRh (g:=a1) (p:=({p with time:=t,eF:=p5 a1.aK p.c5 p.eF (fC a1 ({p with time:=t}:b0)) t,aS:=qA a1.aK (o5 a1 ({p with time:=t}:b0)) p.aS t}:b0)) (AD a1.aK (o5 a1 ({p with time:=t}:b0)) p.aS t)).symm
 have bKb:y.time=t:=UU.time.trans Hs.symm;have aT6:y.cP.aU.l=a1.cG:=UU.cG;have Bq:y.cP.aT.l=kA.aF:=UU.aF;have Bl:y.cP.cA=a1.bT:=UU.bT;apply oD∘fH∘eP;refine aG E0 ?_;refine cC rfl (b3A y.aS y.aB _ _ jZ.aS) ?_;apply(eP);refine PW O rfl rfl rfl rfl s6 aE aE aE ?_;apply(jW);have aFf:o6 y.aS.l y.aB=o6 kA.aS kA.aB:=by rw[aEL,aGn]
 obtain⟨jP,zN⟩:∃jP,jP=o6 kA.aS kA.aB:=⟨_,rfl⟩;rw[aFf,<-zN];have a6N:IX y.cP.aT.l y.cP.aU.l y.cP.cA t=0:=by rw[Bq,aT6,Bl,IX,if_neg (by rw[w2.BN];decide),if_pos (by have:=w2.a2A;rw[<-Hs]at this;exact this)]
 apply eK∘eP∘aCn∘b1;refine cK (b3Z y.cP t _ _ jZ.cP) ?_;rintro v E G ⟨ER,HT,bGQ,rF,to,rfl,⟨aGB,aGD,aGx,aGz⟩,a18,rfl,rfl⟩;refine aG iR ?_;iterate 4 apply(EJ)
 apply(dA);intro lN;apply i3∘yG∘zG;obtain⟨aGA,aGC,rfl,a19,a7v⟩:=a18 a6N;refine hG 3 aL 1 to [] aGz ?_;refine fU ?_;refine hG 3 aL 1 rF [] aGx ?_;refine fU ?_;refine hG 3 aL 1 HT [] aGD ?_;refine fU ?_;refine hG 76 bL.cells 5 ER [] aGB ?_;refine fU ?_;apply eK∘aCn∘eP;refine PW O rfl rfl rfl rfl s6 aE aE aE ?_;apply(y1);obtain⟨e4,uG⟩:∃e4,e4=uT ER.U::cZ HT.U::cZ rF.U::cZ to.U::S:=⟨_,rfl⟩;have uI:∀r∈S,aH r e4:=λr M=>aM aIH;have aTU:aH (cZ rF.U) e4:=aM a3v;have aTV:aH (cZ to.U) e4:=aM aII;have Gx:k9 ⟨ER.U,HT.U,y.cP.cA⟩ e4:=⟨aM Qu,aM Xm⟩;refine sU Xw ?_;have aDN:ER.l=({kA with aB:=o6 kA.aS kA.aB,aF:=(oL kA.aF a1.bT t).aF}:b0).aF:=by rw[aGA,Bq,Bl]
 have a1e:rF.l=(oL kA.aF a1.bT t).bV:=by rw[a19,Bq,Bl]
 have a1f:to.l=(oL kA.aF a1.bT t).U3:=by rw[a7v,Bq,Bl]
 have a1j:=a0v (aF:=kA.aF) (bT:=a1.bT) (t:=t) kA.aF.length;have a14:=w2.Gg.wN;have Pb:rF.l.length<=32:=by rw[a1e];exact GB a1j.1 a14
 have bEX:to.l.length<=32:=by rw[a1f];exact GB a1j.2 a14
 have a1b:Inv a1 ({kA with aB:=o6 kA.aS kA.aB,aF:=(oL kA.aF a1.bT t).aF}:b0):=by have N:Inv a1 ({kA with aB:=o6 kA.aS kA.aB}:b0):={w2 with aB:=aBs _ _ w2.aB.1};have V:=N.Wg (aF:=(oL kA.aF a1.bT t).aF) (by have aQ:=Rz (bT:=a1.bT) (t:=t) w2.BN kA.aF.length (g4 _);(have e:∀u,u=t->vE kA.aF (oL kA.aF a1.bT t).aF u:=λu c4=>by rw[c4];exact aQ);exact e _ Hs.symm);exact V
 obtain⟨Ix,aGN⟩:∃Ix:cF,Ix={y with cP:=⟨ER.U,HT.U,y.cP.cA⟩,aB:=jP}:=⟨_,rfl⟩;have bBD:h5 a1 ({kA with aB:=o6 kA.aS kA.aB,aF:=(oL kA.aF a1.bT t).aF}:b0) Ix:=by rw[aGN];exact{UU with aF:=aDN,cG:=aGC.trans aT6,aB:=zN}
 have bBF:lK Ix e4:=by rw[aGN];exact⟨jZ.aK.mono uI,jZ.held.mono uI,jZ.c5.mono uI,jZ.eF.mono uI,jZ.aS.mono uI,Gx,jZ.eM.mono uI⟩
 refine uV (E:=⟨cT,r2.cells,54⟩::⟨cS,Ix.cells,54⟩::L) (by rw[aGN];exact a2) fF ?_;apply(OG);refine c7 [(2,.pointer _),(4,.pointer _),(5,.slice _ _ _),(13,.slice _ _ _),(14,.slice _ _ _),(16,.int _ _)] bP λnS=>?_;refine kO ([16]++b4 80 12) ((⟨λg=>[(16,.int .i64 ((g.1.1:Nat):Int))],λg=>⟨cT,r2.cells,54⟩::⟨cS,g.1.2.1.cells,54⟩::L,λg=>g.1.2.2,λg=>rF.l.length-g.1.1⟩:dV {g:Nat×cF×aJ//g.1<=rF.l.length/\h5 a1 (xH 3 ({kA with aB:=o6 kA.aS kA.aB,aF:=(oL kA.aF a1.bT t).aF}:b0) (rF.l.take g.1)) g.2.1/\lK g.2.1 g.2.2/\∀r∈e4,aH r g.2.2})) (⟨(0,Ix,e4),by dsimp only;omega,bBD,bBF,mB _⟩) ?_;rintro⟨⟨eE,z,a4I⟩,hK,a7D,pL,UA⟩ bZ;try dsimp only
 dsimp only[cF.cells];dsimp only at hK a7D pL UA;apply(uA);apply(W)<;>intro bF;·have Ht:=bJ rF.l eE 0;have cI:=a4z 3 ({kA with aB:=o6 kA.aS kA.aB,aF:=(oL kA.aF a1.bT t).aF}:b0) rF.l Ht;have bKc:=aTU.mono UA;refine dK (aZ (a6 (e3 ?_)));apply aAW∘aB9∘G2;refine eO a28 ?_;apply(vA);refine k2 rfl (WA a1 _ z 3 (rF.l.getD eE 0) 0 _ _ a7D pL (a1b.Ie 3 (rF.l.take eE)).eM) rfl rfl ?_;rintro v E G ⟨u,rfl,c4,xV,rfl,XN⟩;refine⟨a2,gN,?_⟩;apply p7∘z4;exact dU ⟨(eE+1,u,_),by dsimp only;omega,by dsimp only;rw[cI];exact c4,xV,λr M=>(UA r M).mono XN⟩
 obtain rfl:eE=rF.l.length:=by omega
 rw[HV (g4 _)]at a7D;have aDJ:Inv a1 (xH 3 ({kA with aB:=o6 kA.aS kA.aB,aF:=(oL kA.aF a1.bT t).aF}:b0) rF.l):=a1b.Ie 3 _;apply(G0);refine c7 [(2,.pointer _),(4,.pointer _),(5,.slice _ _ _),(14,.slice _ _ _),(17,.int _ _)] bP λNH=>?_;refine kO ([17]++b4 92 12) ((⟨λg=>[(17,.int .i64 ((g.1.1:Nat):Int))],λg=>⟨cT,r2.cells,54⟩::⟨cS,g.1.2.1.cells,54⟩::L,λg=>g.1.2.2,λg=>to.l.length-g.1.1⟩:dV {g:Nat×cF×aJ//g.1<=to.l.length/\h5 a1 (xH 2 (xH 3 ({kA with aB:=o6 kA.aS kA.aB,aF:=(oL kA.aF a1.bT t).aF}:b0) rF.l) (to.l.take g.1)) g.2.1/\lK g.2.1 g.2.2/\∀r∈a4I,aH r g.2.2})) (⟨(0,z,a4I),by dsimp only;omega,a7D,pL,mB _⟩) ?_;rintro⟨⟨i2,a8W,aLL⟩,l4,a2i,aGS,MP⟩ bZ;try dsimp only
 dsimp only[cF.cells];dsimp only at l4 a2i aGS MP;apply(uA);apply(W)<;>intro b2;·have Ht:=bJ to.l i2 0;have cI:=a4z 2 (xH 3 ({kA with aB:=o6 kA.aS kA.aB,aF:=(oL kA.aF a1.bT t).aF}:b0) rF.l) to.l Ht;have bKd:=(aTV.mono UA).mono MP;refine dK (aZ (a6 (e3 ?_)));apply aAW∘aB9∘G2;refine eO aZJ ?_;apply(vA);refine k2 rfl (WA a1 _ a8W 2 (to.l.getD i2 0) 0 _ _ a2i aGS (aDJ.Ie 2 (to.l.take i2)).eM) rfl rfl ?_;rintro v E G ⟨u,rfl,c4,xV,rfl,XN⟩;refine⟨a2,gN,?_⟩;apply p7∘z4;exact dU ⟨(i2+1,u,_),by dsimp only;omega,by dsimp only;rw[cI];exact c4,xV,λr M=>(MP r M).mono XN⟩
 obtain rfl:i2=to.l.length:=by omega
 obtain⟨n3,Mb⟩:∃n3,n3=NG a1 kA:=⟨_,rfl⟩;have aEs:xH 2 (xH 3 ({kA with aB:=o6 kA.aS kA.aB,aF:=(oL kA.aF a1.bT t).aF}:b0) rF.l) to.l=n3:=by rw[Mb,a1e,a1f,NG];simp only[<-Hs]
 rw[HV (g4 _),aEs]at a2i;rw[<-Mb]at Ox;obtain⟨oU,a1k⟩:∃oU,oU=o5 a1 ({p with time:=t}:b0):=⟨_,rfl⟩;rw[<-a1k]at X1;have aDP:n3.aS.length=a1.aK.aU.l.length:=Ox.D5;have dX:a8W.aS.l=n3.aS:=a2i.aS;have bEm:=(((aF8.mono dW).mono uI).mono UA).mono MP;apply(G0);refine c7 [(2,.pointer _),(4,.pointer _),(5,.slice _ _ _),(18,.int _ _)] bP λWh=>?_;refine kO ([18,19]++b4 104 45) ((⟨λg=>[(18,.int .i64 ((g.1.1:Nat):Int))],λg=>⟨cT,r2.cells,54⟩::⟨cS,g.1.2.1.cells,54⟩::L,λg=>g.1.2.2,λg=>n3.aS.length-g.1.1⟩:dV {g:Nat×cF×aJ//g.1<=n3.aS.length/\h5 a1 (n8 a1 oU n3 g.1) g.2.1/\lK g.2.1 g.2.2/\∀r∈aLL,aH r g.2.2})) (⟨(0,a8W,aLL),by dsimp only;omega,a2i,aGS,mB _⟩) ?_;rintro⟨⟨eV,s5,QE⟩,m4,Ca,RO,Q6⟩ bZ;try dsimp only
 dsimp only[cF.cells];dsimp only at m4 Ca RO Q6;have Ug:Inv a1 (n8 a1 oU n3 eV):=Ox.n8 oU eV;have bB6:=RO.aS;have Aq:s5.aS.l=(n8 a1 oU n3 eV).aS:=Ca.aS;have a1s:s5.aS.l.length=n3.aS.length:=by rw[Aq,a3S]
 apply(oJ);apply(W)<;>intro dZ;·
  have rR:=bJ s5.aS.l eV default;obtain⟨c,nQ⟩:∃c,c=s5.aS.l.getD eV default:=⟨_,rfl⟩;rw[<-nQ]at rR;have a15:s5.cP.aT.l=(n8 a1 oU n3 eV).aF:=Ca.aF;have Pj:s5.cP.aU.l=a1.cG:=Ca.cG;have a11:s5.cP.cA=a1.bT:=Ca.bT;have Gv:n8 a1 oU n3 (eV+1)=L8 a1 oU (n8 a1 oU n3 eV) eV:=rfl;have C8:a0c a1 (n8 a1 oU n3 eV).aF eV=(xC s5.cP.aT.l s5.cP.aU.l s5.cP.cA (s5.cP.aU.l.getD (eV:Int).toNat 0)).any (λk=>TP (s5.cP.aT.l.getD k.toNat default)):=by rw[a15,Pj,a11];rfl
  apply CK∘aPF∘sW∘MF;apply iZ (aC:=[_,_,_,_]) (j:=7) (a7:=118) rfl rfl aE rfl aW rfl;·intro hX;replace hX:=a8 hX;apply eP∘aCn∘b1;refine cC rfl (b2W s5.cP (eV:Int) _ _ RO.cP (by rw[a15,Pj,a11];exact Ug.BN) (by rw[Pj];omega)) ?_;exact hL
  intro RP;apply(b3);apply(W)<;>intro dX;·(have u5:¬((n8 a1 oU n3 eV).aS.getD eV default).off=true/\¬a0c a1 (n8 a1 oU n3 eV).aF eV=false:=by rw[<-Aq,<-nQ,C8];simpa using dX);have aT7:=Ca.aK;(have BU:eV<s5.aK.aU.l.length:=by rw[fZ.a7O aT7];omega);have rZ:=iL (l:=s5.aK.aU.l) (k:=eV) default BU;have aGU:=RO.aK.aU;have a12:=aH.jQ aGU rZ;have aF9:=bEm.mono Q6;apply(N9);refine gO (tV (f:=b8.cells) (xs:=s5.aS) O rfl rfl rfl bH rfl rfl (bB6) bI D) rfl ?_;rintro v E G ⟨O5,rfl,aTq,rfl,rfl⟩;apply vG∘h7∘h7∘FD∘aPF∘sW∘hM;refine cC rfl (aLz (s5.aK.aU.l.getD eV default).jQ pE.U _ _ a12 aF9) ?_;apply aOV∘k7;refine i4 (jL O ((⟨O5,s5.aS.l⟩:J b8)) (⟨true,c.clear,c.jJ⟩) rfl rfl rfl rfl c0 bC bI bC bH aE aE) ?_;rintro v E G ⟨rfl,rfl⟩;apply aOV∘k7;have bCg:=J.p4 (f:=b8.cells) (aR:=3) (p:=⟨O5,s5.aS.l⟩) (i:=eV) (x:=⟨true,c.clear,c.jJ⟩) bI aTq;have aEO:(s5.aS.l.set eV ⟨true,c.clear,c.jJ⟩)[eV]?=some ⟨true,c.clear,c.jJ⟩:=tQ D;refine i4 (jL O ((⟨O5,s5.aS.l.set eV ⟨true,c.clear,c.jJ⟩⟩:J b8)) (⟨true,c.clear,v0 (s5.aK.aU.l.getD eV default).jQ.l pE.l⟩) rfl rfl rfl rfl c0 bC bI bC bH aE aE) ?_;rintro v E G ⟨rfl,rfl⟩;apply WR∘uY∘b3;obtain⟨xO,Gu⟩:∃xO,xO=s5.aS.l.set eV ⟨true,c.clear,v0 (s5.aK.aU.l.getD eV default).jQ.l pE.l⟩:=⟨_,rfl⟩;(have a1r:xO.length=s5.aS.l.length:=by rw[Gu,p6]);(have As:(⟨O5,xO⟩:J b8).U.val=(⟨O5,s5.aS.l⟩:J b8).U.val:=by simp only[J.U,a0.val,a1r]);have aEQ:(⟨O5,xO⟩:J b8).ok 3 b8.cells:=J.oZ bI aTq a1r;refine mJ (E:=(⟨O5,xO⟩:J b8).L 71 b8.cells++(⟨cT,r2.cells,54⟩::⟨cS,({s5 with aS:=(⟨O5,xO⟩:J b8).U}:cF).cells,54⟩::L)) (by simp only[cF.cells,As];rw[Gu];simp only[y6];rfl) ?_;refine hG 71 b8.cells 3 (⟨O5,xO⟩:J b8) [] aEQ ?_;refine fU ?_;(have Nv:v0 (s5.aK.aU.l.getD eV default).jQ.l pE.l=v0 (a1.aK.aU.l.getD eV default).jQ.l oU:=by rw[fZ.jQ aT7 eV,X1]);obtain⟨LG,Hl⟩:∃LG:b0,LG={n8 a1 oU n3 eV with aS:=(n8 a1 oU n3 eV).aS.set eV ⟨true,((n8 a1 oU n3 eV).aS.getD eV default).clear,v0 (a1.aK.aU.l.getD eV default).jQ.l oU⟩}:=⟨_,rfl⟩;(have Ol:xO=LG.aS:=by rw[Gu,Hl,Nv,nQ,Aq]);(have aDK:Inv a1 LG:=by exact b0s);obtain⟨a2S,aGT⟩:∃a2S:cF,a2S={s5 with aS:=(⟨O5,xO⟩:J b8).U}:=⟨_,rfl⟩;(have aEt:h5 a1 LG a2S:=by rw[aGT];rw[Hl]at Ol|-;exact{Ca with aS:=Ol});have Lw:∀r∈QE,aH r (sS (⟨O5,xO⟩:J b8).U::QE):=λr M=>aM (.tail _ M);(have bFj:lK a2S (sS (⟨O5,xO⟩:J b8).U::QE):=by rw[aGT];exact⟨RO.aK.mono Lw,RO.held.mono Lw,RO.c5.mono Lw,RO.eF.mono Lw,aM (.head _),RO.cP.mono Lw,RO.eM.mono Lw⟩);(have JA:n8 a1 oU n3 (eV+1)=zB a1 LG (eV:Int):=by rw[Gv,L8,if_neg (not_or.2 u5),Hl]);rw[<-aGT];dsimp only[cF.cells];apply eK∘aJG∘b1;refine cK (aQH a1 LG a2S (eV:Int) _ _ aDK aEt bFj (by rw[<-Ol];omega)) ?_;rintro v E G ⟨u,rfl,c4,xV,rfl,XN⟩;apply i3∘GV;exact dU ⟨(eV+1,u,_),by dsimp only;omega,by dsimp only;rw[JA];exact c4,xV,λr M=>((Q6 r M).mono Lw).mono XN⟩
  apply(mD);exact dU ⟨(eV+1,s5,_),by dsimp only;omega,by dsimp only;rw[Gv,L8,if_pos (by rw[<-Aq,<-nQ,C8];simpa using dX)];exact Ca,RO,Q6⟩
 obtain rfl:eV=n3.aS.length:=by omega
 apply oD∘aJG∘wA;refine bN L _ (pG rfl Qr) ?_;have aEx:n8 a1 oU n3 n3.aS.length=bM a1 p t:=by rw[bM,<-a1k,<-a6M,<-Mb]
 exact⟨s5,rfl,by rw[<-aEx];exact Ca,RO,rfl,λr M=>(((((Q5 r M).mono dW).mono uI).mono UA).mono MP).mono Q6⟩
def N5(h:A->B:=by exact(aG E0 ·)):=h
def a5Y(h:A->B:=by exact(aG qI ·)):=h
def b57(s:dQ)(c:a0 b8)(Z:a0 a9)(r:j4)(p k t:Int)(L:aP)(R:aJ)(h:IB s c Z R)(fW:∀x∈Z.l,-4611686018427387904<=x.bO):
 aI prog 219 [s.val,c.val,Z.val,r.val,.int .i64 p,.int .i64 k,.int .i64 t].toArray L R (λv E G=>v=.tuple #[(u0 s c.l Z.l r p k t).val,.int .i64 (p9 s c.l Z.l r p k t)]/\L=E/\R=G):=by
 have Be:=h.aK.mF;refine bW 64 call219 func219 ?_;apply(c8);intro kL;apply(iU);intro jE;apply(dA);intro sA;apply g7∘a5Y∘TH;refine cC rfl (aBH s c Z t _ _ h) ?_;apply(kB);apply(W)<;>intro aO;·exact(cO∘N5) b0F
 obtain⟨hok,kD,dS⟩:=Kv (s:=s) (YD:=c.l.length) (M9:=Z.l.length) (t:=t) D;apply GW∘qP;apply(W)<;>intro bF;·exact(cO∘N5) aYP
 apply(OB);apply cB (aC:=[_,_,_,_,_]) (j:=2) (a7:=33) rfl rfl aE rfl aW rfl;·exact Jg
 intro mY;apply(c9);apply cB (aC:=[_,_,_,_,_,_,_]) (j:=9) (a7:=40) rfl rfl aE rfl aW rfl;·exact aZW
 intro Hx;apply(b3);apply(W)<;>intro b2;·exact(cO∘N5) b1a
 have X:p9 s c.l Z.l r p k t=sF s c.l Z.l k t:=by rw[p9,if_neg aO,if_neg bF,if_neg D]
 apply iK∘a5Y∘TH∘b1;refine cC rfl (aCx s c Z k t _ _ h hok kD dS fW) ?_;apply(kB);apply(W)<;>intro dZ;·apply cO∘N5∘tZ;exact aWS
 exact b0y
def aMP(r:j4)(t:Int)(L:aP)(R:aJ)(M:0<=r.time)(dS:0<=t/\t<=2147483648):
 aI prog 271 [r.val,.int .i64 t].toArray L R (λv E G=>v=.bool (!decide (P7 r t))/\L=E/\R=G):=by
 refine bW 21 call271 func271 ?_;apply(c8);intro cS;apply QU∘IW∘DL∘c9;apply iZ (aC:=[_,_,_,_,_,_,_,_,_,_]) (j:=4) (a7:=9) rfl rfl aE rfl aW rfl;·
  intro gW;replace gW:=a8 gW;apply fH∘DL∘c9;apply iZ (aC:=[_,_,_,_,_]) (j:=8) (a7:=13) rfl rfl aE rfl aW rfl;·intro gM;replace gM:=a8 gM;exact(IW∘kP) VP
  intro wJ;exact hL
 intro yU;apply(v9);refine lG L R ?_;exact⟨by refine congrArg Value.bool ?_;rw[Jb,<-decide_not,decide_eq_true_iff (p:=¬P7 r t),P7];simp;omega,rfl,rfl⟩
def b2s(s:dQ)(c:a0 b8)(Z:a0 a9)(r:j4)(p t:Int)(L:aP)(R:aJ)(h:IB s c Z R)(fW:∀x∈Z.l,-4611686018427387904<=x.bO)(M:0<=r.time):
 aI prog 221 [s.val,c.val,Z.val,r.val,.int .i64 p,.int .i64 t].toArray L R (λv E G=>v=.tuple #[(vL s c.l Z.l r p t).val,.int .i64 (tD s c.l Z.l r p t)]/\L=E/\R=G):=by
 have Be:=h.aK.mF;refine bW 101 call221 func221 ?_;apply(c8);intro hP;apply(iU);intro h8;apply(dA);intro lN;apply g7∘a5Y∘TH;refine cC rfl (aBH s c Z t _ _ h) ?_;apply(kB);apply(W)<;>intro aO;·exact(cO∘N5) b0C
 obtain⟨hok,kD,dS⟩:=Kv (s:=s) (YD:=c.l.length) (M9:=Z.l.length) (t:=t) D;apply GW∘tC;apply cB (aC:=[_,_,_]) (j:=3) (a7:=29) rfl rfl aE rfl aW rfl;·exact Jh
 intro iG;apply(b3);apply(W)<;>intro bF;·exact(cO∘N5) aYR
 apply eR∘lM∘OD;refine gJ O [0,1,2,3,4,5,6,7,8,9,10,11,12,13,14,15,16,17,18,19,20,21,22,23,24,25,26,27,28,29,30,31,32,33,34,35,36,37,38,39] _ cX bE g3 ?_;apply(g1);refine a4 HY ?_;apply(tN);refine l0 (k:=40) aW (λjM=>?_) (λjM=>?_);·
  replace jM:=a8 jM;iterate 3 apply(kQ)
  apply(mU);exact aW2
 replace jM:=a8 jM;apply g1∘g1;refine a4 JU ?_;apply(mU);refine l0 (k:=45) aW (λkC=>?_) (λkC=>?_);·replace kC:=a8 kC;exact aW2
 replace kC:=a8 kC;apply g1∘iI;refine a4 B7 ?_;apply(mU);refine l0 (k:=51) aW (λu4=>?_) (λu4=>?_);·
  replace u4:=a8 u4;iterate 3 apply(kQ)
  exact(mU) aIV
 replace u4:=a8 u4;apply(iI);refine a4 HY ?_;apply(mU);refine l0 (k:=56) aW (λUC=>?_) (λUC=>?_);·replace UC:=a8 UC;exact aIV
 replace UC:=a8 UC;apply(oV);refine a4 JU ?_;apply(mU);refine l0 (k:=62) aW (λUD=>?_) (λUD=>?_);·
  replace UD:=a8 UD;iterate 14 apply(kQ)
  apply(m2);refine wR rfl ?_;exact(cO∘N5) Xf
 replace UD:=a8 UD;have BT:=bJ s.mF.l p.toNat 0;have DE:=bJ s.mF.l r.first.toNat 0;apply(oV);refine a4 aIC ?_;apply CJ∘WP;refine a4 aYW ?_;apply(CJ);refine a4 B7 ?_;apply(m2);apply(W)<;>intro b2;·exact(cO∘N5) Xf
 have a6T:¬TN s r p:=by rw[TN];omega
 apply iK∘N5∘b1;refine cC rfl (aMP r t _ _ M dS) ?_;apply(oW);apply(W)<;>intro dZ;·exact(cO∘N5) aYo
 have X:tD s c.l Z.l r p t=sF s c.l Z.l r.dI t:=by rw[tD,if_neg aO,if_neg D,if_neg a6T,if_neg Jk]
 apply iK∘a5Y∘Fb∘gE;refine cC rfl (aCx s c Z r.dI t _ _ h hok kD dS fW) ?_;apply(kB);apply(W)<;>intro dX;·apply cO∘N5∘tZ;exact aWW
 exact(eR∘pS∘r7∘r7∘G3∘N5) aZT
def a4Q(h:A->B:=by exact(aG lR ·)):=h
def aPk(h:A->B:=by exact(aG Ra ·)):=h
def aMR(h:B:=by exact⟨.nil,.nil,0,by rw[X];rfl,⟨J.g6,J.g6⟩,λh=>by omega,by rw[lT,lT];rfl,rfl⟩):=h
def a97(h:A->B:=by exact(a4 R8 ·)):=h
def aAM(h:A->B:=by exact(a4 oG ·)):=h
def a99(h:A->B:=by exact(a4 Xz ·)):=h
def b9j(h:A->B:=by exact(a4 (GN aW) ·)):=h
def b7J(h:A->B:=by exact i4 (jL O (p) (⟨x.bB,x.cQ,x.cY,true,x.bV⟩) rfl rfl rfl rfl c0 bC bI bC bH aE aE)):=h
def b6B(h:A->B:=by exact i4 (jL O ((⟨p.o,(p.l.set s.toNat ⟨x.bB,x.cQ,x.cY,true,x.bV⟩)⟩:J bL)) (⟨x.bB,t,x.cY,true,x.bV⟩) rfl rfl rfl rfl c0 bC bI bC bH aE aE)):=h
def b2I(h:A->B:=by exact i4 (jL O ((⟨p.o,((p.l.set s.toNat ⟨x.bB,x.cQ,x.cY,true,x.bV⟩).set s.toNat ⟨x.bB,t,x.cY,true,x.bV⟩)⟩:J bL)) (⟨x.bB,t,0,true,x.bV⟩) rfl rfl rfl rfl c0 bC bI bC bH aE aE)):=h
def b6W(h:A->B:=by exact i4 (jL O ((⟨p.o,(((p.l.set s.toNat ⟨x.bB,x.cQ,x.cY,true,x.bV⟩).set s.toNat ⟨x.bB,t,x.cY,true,x.bV⟩).set s.toNat ⟨x.bB,t,0,true,x.bV⟩)⟩:J bL)) (⟨x.bB,t,0,true,false⟩) rfl rfl rfl rfl c0 bC bI bC bH aE aE)):=h
def b4y(h:B:=by exact⟨⟨p.o,(((p.l.set s.toNat ⟨x.bB,x.cQ,x.cY,true,x.bV⟩).set s.toNat ⟨x.bB,t,x.cY,true,x.bV⟩).set s.toNat ⟨x.bB,t,0,true,x.bV⟩).set s.toNat ⟨x.bB,t,0,true,false⟩⟩,q,f.cA,by rw[X];simp only[J.val,p6],⟨m4,gG⟩,λ_=>⟨by rw[Ti,aGJ,<-eB];show((((p.l.set _ _).set _ _).set _ _).set _ _)=_;rw[y6,y6,y6],gB,rfl⟩,rfl,rfl⟩):=h
def aPi(h:A->B:=by exact(a4 (by first|exact j9 O rfl rfl rfl rfl jC (i:=(q.l.getD i 0).toNat) cW D|exact i9 O rfl rfl rfl rfl (i:=(q.l.getD i 0).toNat) cW D) ·)):=h
def b7C(f:hI)(s t:Int)(L:aP)(R:aJ)(hf:k9 f R):
 aI prog 274 [f.val,.int .i64 s,.int .i64 t].toArray L R (λv E G=>∃(p:J bL) (q:J Int) (r:Int),v=.tuple #[.agg #[p.val,q.val,.int .i64 r],.int .i64 (BK f.aT.l f.aU.l f.cA s t)]/\(p.ok 5 bL.cells/\q.ok 1 aL)/\
  (BK f.aT.l f.aU.l f.cA s t=0->p.l=Ti f.aT.l s t/\q.l=f.aU.l/\r=f.cA)/\q.L 3 aL++(p.L 76 bL.cells++L)=E/\R=G):=by
 have jA:=hf.aF;refine bW 64 call274 func274 ?_;apply(c8);intro dG;apply(dA);intro hP;apply g7∘a4Q∘pS;refine cC rfl (aQv f s t _ _ hf) ?_;apply(kB);apply(W)<;>intro aO;·
  apply cO∘aPk∘tZ;refine bN L R tR ?_;have X:BK f.aT.l f.aU.l f.cA s t=v5 f.aT.l f.aU.l f.cA s t:=by rw[BK,if_pos aO]
  exact aMR
 have wF:=a9S (Decidable.not_not.1 aO);have hok:=zD wF.1;have HM:=hok.wN;have tL:=hok.yA;have aTN:=wF.2.1;have EE:=hok.up s.toNat D;apply eR∘a4Q;refine cK (a5K f _ _ hf D) ?_;rintro v E G ⟨p,q,rfl,⟨iB,gG⟩,eB,gB,rfl,rfl⟩;apply(dA);intro h8;apply(G5);have l5:p.l.length=f.aT.l.length:=by rw[eB]
 have hg:=bJ p.l s.toNat default;obtain⟨x,K⟩:∃x,x=p.l.getD s.toNat default:=⟨_,rfl⟩;rw[<-K]at hg;rw[<-eB,<-K]at EE;have aGJ:f.aT.l.getD s.toNat default=x:=by rw[K,eB]
 apply eK∘gE;refine aG a3d ?_;apply U9∘y1;refine gJ O [0,1,2,3,4,5,6,7,8,9,10,11,12,13,14,15,16,17,18,19,20,21,22,23] _ cX bE g3 ?_;apply IR∘a97;refine a4 LR ?_;apply(tN);refine l0 (k:=30) aW (λgW=>?_) (λgW=>?_);·
  replace gW:=a8 gW;iterate 17 apply(kQ)
  apply(m2);refine wR rfl ?_;exact b06
 replace gW:=a8 gW;apply IR∘a97;refine a4 LR ?_;apply(tN);refine l0 (k:=36) aW (λqS=>?_) (λqS=>?_);·
  replace qS:=a8 qS;have bCM:=bJ f.aT.l x.bB.toNat default;apply iI∘IR∘a97;refine a4 aYZ ?_;apply(CJ);refine a4 LR ?_;apply LH∘m2;apply(W)<;>intro bF;·exact b06
  exact aZy
 replace qS:=a8 qS;iterate 10 apply(kQ)
 apply LH∘m2;refine QK rfl ?_;exact aZy
def aBj{aF:List bL}{l:List Int}{i:Nat}: ∀(m:Nat),i+m<=l.length->(∀j,i<=j->j<l.length->(aF.getD (l.getD j 0).toNat default).cY=1)->SZ aF l (i+m)=SZ aF l i
 |0,_,_=>rfl
 |m+1,h,k=>by rw[<-a2K,a4y D,if_neg (by rw[k _ D D];decide),aBj m D k]
def b5d{aF:List bL}{l:List Int}{i:Nat}(h:i<l.length)(k:∀j,i+1<=j->j<l.length->(aF.getD (l.getD j 0).toNat default).cY=1)(aA:(aF.getD (l.getD i 0).toNat default).cY≠1):SW aF l=l.getD i 0:=by
 have e:SW aF l=SZ aF l l.length:=by rw[SZ,Qk];rfl
 have:=aBj (aF:=aF) (l:=l) (i:=i+1) (l.length-(i+1)) D k;rw[show i+1+(l.length-(i+1))=l.length by omega]at this;rw[e,this,a4y h,if_pos aA]
def b9I{aF:List bL}{l:List Int}(k:∀j,0<=j->j<l.length->(aF.getD (l.getD j 0).toNat default).cY=1):SW aF l=l.getD 0 0:=by
 have e:SW aF l=SZ aF l l.length:=by rw[SZ,Qk];rfl
 have:=aBj (aF:=aF) (l:=l) (i:=0) l.length D k;rw[PJ]at this;rw[e,this];rfl
def aO3(f:hI)(s:Int)(L:aP)(R:aJ)(hf:k9 f R)(iJ:i6 f.aT.l f.aU.l f.cA=0)(hs:0<=s/\s<f.aT.l.length):
 aI prog 222 [f.val,.int .i64 s].toArray L R (λv E G=>v=.int .i64 (SW f.aT.l (xC f.aT.l f.aU.l f.cA s))/\L=E/\R=G):=by
 have jA:=hf.aF;have hok:=zD iJ;refine bW 32 call222 func222 ?_;apply(c8);intro cS;apply mL∘a4Q∘b1;refine cK (aC3 f s _ _ hf) ?_;rintro v E G ⟨q,rfl,gG,gB,rfl,rfl⟩;apply(KJ);have rV:=Yy (aF:=f.aT.l) (cG:=f.aU.l) (bT:=f.cA) (s:=s);rw[<-gB]at rV;have UN:q.l.getD 0 0=s:=by rw[gB,xC,if_neg D,Sf hok.up D D];rfl
 have Bk:∀x∈q.l,0<=x/\x<f.aT.l.length:=λx K=>by have:=a0y (aF:=f.aT.l) (cG:=f.aU.l) (bT:=f.cA) (s:=s) (x:=x) (by rw[<-gB];exact K);omega
 refine vF (A:=[]) (aR:=1) [] bI bH gG lQ ?_;refine mJ Xk ?_;have Bi:aH (cZ q.U) (cZ q.U::R):=aM (.head _);have a13:=jA.mono λr M=>aM (R:=cZ q.U::R) (.tail _ M);apply eK∘QQ∘mM;refine c7 [(1,.int _ _),(2,.pointer _),(5,.slice _ _ _),(6,.int _ _)] bP λeZ=>?_;refine gP ([4,6]++b4 13 18) (λg:{k:Nat//k<=q.l.length/\∀j:Nat,k<=j->j<q.l.length->(f.aT.l.getD (q.l.getD j 0).toNat default).cY=1}=>[(6,.int .i64 (((g.1:Nat):Int)-1))]) (λg=>g.1) (⟨q.l.length,g4 _,λj N V=>by omega⟩) ?_;rintro⟨k,hk,hD⟩ bZ;try dsimp only
 apply(ZY);apply(W)<;>intro aO;·
  obtain⟨i,rfl⟩:∃i,k=i+1:=⟨k-1,by omega⟩;have bCS:((i+1:Nat):Int)-1=(i:Int):=by omega
  rw[bCS];have DE:=bJ q.l i 0;have a10:=Bk _ (gU DE);have xS:=bJ f.aT.l ((q.l.getD i 0).toNat) default;refine dK (aZ (a6 (e3 (a6 ?_))));refine gJ O [0,1,2,3,4,5,6,7,8,9] _ cX bE g3 ?_;apply iI∘aAM∘g1∘a99∘lW∘aPi∘CJ;refine a4 LR ?_;apply(vW);apply(W)<;>intro bF;·
   apply(TC);refine aG Xz ?_;apply jI∘WI;refine lJ (E:=L) (G:=R) R7 ?hp ?c2 ?bD;case hp=>exact⟨by rw[<-gB,b5d D hD bF],rfl,rfl⟩
   case c2=>exact a2
   case bD=>exact λr M=>aM (.tail _ M)
  apply(a0j);exact oQ ⟨i,by omega,λj N V=>by
  rcases gY i j with h|h;·exact hD j h V
  ·(obtain rfl:j=i:=by omega);omega⟩
 apply(WH);refine lJ (E:=L) (G:=R) R7 ?hp ?c2 ?bD;case hp=>
  obtain rfl:k=0:=by omega
  exact⟨by rw[<-gB,b9I hD,UN],rfl,rfl⟩
 case c2=>exact a2
 case bD=>exact λr M=>aM (.tail _ M)
def b5v(c:a0 b8)(f:hI)(dI a:Int)(L:aP)(R:aJ)(C7:aH (sS c) R)(hf:k9 f R)(iJ:i6 f.aT.l f.aU.l f.cA=0)(i1:c.l.length=f.aU.l.length):
 aI prog 273 [c.val,f.val,.int .i64 dI,.int .i64 a].toArray L R (λv E G=>v=.bool (decide (Z3 c.l f.aT.l f.aU.l f.cA dI a))/\L=E/\R=G):=by
 have jA:=hf.aF;have pL:=hf.cG;have hok:=zD iJ;have tL:=hok.yA;refine bW 71 call273 func273 ?_;apply(c8);intro eH;apply IQ∘mM;refine c7 [(0,.slice _ _ _),(2,.int _ _),(3,.int _ _),(5,.pointer _),(9,.int _ _)] bP λeZ=>?_;refine gP (b4 8 63) (λg:{k:Nat//k<=c.l.length/\∀j:Nat,j<k->¬Rm c.l f.aT.l f.aU.l f.cA dI a j}=>[(9,.int .i64 ((g.1:Nat):Int))]) (λg=>c.l.length-g.1) (⟨0,by omega,λj aY=>by omega⟩) ?_;rintro⟨k,hk,hD⟩ bZ;try dsimp only
 apply(uA);apply(W)<;>intro aO;·
  have rR:=bJ c.l k default;have rZ:=bJ f.aU.l k 0;refine dK (aZ (a6 (e3 (a6 (a6 (cR ?_))))));apply pS∘tC;apply cB (aC:=[_,_,_,_,_,_]) (j:=3) (a7:=22) rfl rfl aE rfl aW rfl;·intro eN;replace eN:=a8 eN;apply(h7);refine aG qH ?_;exact(sW) LQ
  intro iG;apply(b3);apply(W)<;>intro bF;·
   refine lC (lB (lA (aZ (cR ?_))));apply(N7);exact oQ ⟨k+1,by omega,λj aY=>by
   rcases gY j k with h|h;·exact hD j h
   ·
    (obtain rfl:j=k:=by omega);rintro⟨⟨N,V⟩,_⟩;rcases bF with aQ|aQ;·exact N aQ
    ·rw[V]at aQ;cases aQ⟩
  apply(x2);refine gJ O [0,1,2,3,4,5,6,7] _ cX bE g3 ?_;refine a4 lR ?_;apply KK∘lW;refine q1 rfl (aC3 f (f.aU.l.getD k 0) _ _ hf) rfl rfl ?_;rintro v E G ⟨q,rfl,gG,gB,rfl,rfl⟩;refine⟨a2,gN,?_⟩;refine a4 A0 ?_;apply(F7);have rV:=Yy (aF:=f.aT.l) (cG:=f.aU.l) (bT:=f.cA) (s:=f.aU.l.getD k 0);rw[<-gB]at rV;have Bk:∀x∈q.l,0<=x/\x<f.aT.l.length:=λx K=>by have:=a0y (aF:=f.aT.l) (cG:=f.aU.l) (bT:=f.cA) (s:=f.aU.l.getD k 0) (x:=x) (by rw[<-gB];exact K);omega
  refine vF (A:=[]) (aR:=1) [] bI bH gG lQ ?_;refine mJ Xk ?_;have Bi:aH (cZ q.U) (cZ q.U::R):=aM (.head _);have jR:∀r∈R,aH r (cZ q.U::R):=λr M=>aM (.tail _ M);have a13:=jA.mono jR;apply eK∘IQ∘mM;refine zY (b4 8 63) AZ [(9,.int _ _),(10,.slice _ _ _),(11,.bool _),(12,.int _ _)] bP λnS=>?_;refine gP ([11,12]++b4 37 27) (λg:{i:Nat×Bool//i.1<=q.l.length/\i.2=(q.l.take i.1).any (PY f.aT.l a)}=>[(12,.int .i64 ((g.1.1:Nat):Int)),(11,.bool g.1.2)]) (λg=>q.l.length-g.1.1) (⟨(0,false),by dsimp only;omega,rfl⟩) ?_;rintro⟨⟨i,h⟩,aA,bX⟩ bZ;try dsimp only
  dsimp only at aA bX;apply(uA);apply(W)<;>intro b2;·
   have DE:=bJ q.l i 0;have a10:=Bk _ (gU DE);have xS:=bJ f.aT.l ((q.l.getD i 0).toNat) default;(have cI:(q.l.take (i+1)).any (PY f.aT.l a)=(h||PY f.aT.l a (q.l.getD i 0)):=by rw[PM,DE,aH6,List.any_append,<-bX];simp);refine dK (aZ (a6 (e3 ?_)));refine gJ O [0,1,2,3,4,5,6,7,8,9,10,11,12,13,14,15,16,17,18,19,20,21] _ cX bE g3 ?_;apply tN∘tN;refine l0 (k:=44) aW (λDA=>?_) (λDA=>?_);·replace DA:=a8 DA;(have hv:true=(q.l.take (i+1)).any (PY f.aT.l a):=by rw[cI,DA];rfl);(iterate 18 apply(kQ));exact aI5
   replace DA:=a8 DA;apply aAM∘g1∘a99∘lW∘g1;refine a4 LR ?_;apply(tN);refine l0 (k:=51) aW (λhX=>?_) (λhX=>?_);·replace hX:=a8 hX;(have hv:decide ((f.aT.l.getD (q.l.getD i 0).toNat default).cY= -1)=(q.l.take (i+1)).any (PY f.aT.l a):=by rw[cI,DA,PY,Bool.false_or];exact decide_eq_decide.2 ⟨λe=>⟨hX,e⟩,λe=>e.2⟩);apply iI∘aAM∘g1∘a99∘lW∘aPi∘CJ;refine a4 B7 ?_;exact(LH) aI5
   replace hX:=a8 hX;(have hv:false=(q.l.take (i+1)).any (PY f.aT.l a):=by rw[cI,DA,PY,Bool.false_or,decide_eq_false λe=>hX e.1]);(iterate 10 apply(kQ));exact(LH) aI5
  obtain rfl:i=q.l.length:=by omega
  rw[Qk]at bX;apply oD∘h7;refine cC rfl (b5z q.U a _ _ Bi) ?_;apply(c9);apply iZ (aC:=[_,_]) (j:=3) (a7:=67) rfl rfl aE rfl aW rfl;·intro eN;replace eN:=a8 eN;exact(c9) LQ
  intro iG;apply(b3);apply(W)<;>intro dZ;·
   apply(FC);refine lJ (E:=L) (G:=R) (pG rfl VO) ?hp ?c2 ?bD;case hp=>rw[gB]at dZ;exact⟨by rw[decide_eq_true (p:=Z3 c.l f.aT.l f.aU.l f.cA dI a) ⟨k,by omega,bF,dZ.1,λ⟨y,aN,hb⟩=>by rw[<-gB]at aN;rw[dZ.2]at bX;rw[List.any_eq_true.2 ⟨y,aN,hb⟩]at bX;cases bX⟩],rfl,rfl⟩
   case c2=>exact a2
   case bD=>exact jR
  apply(mD);exact oT ⟨k+1,by omega,λj aY=>by
  rcases gY j k with V|V;·exact hD j V
  ·
   (obtain rfl:j=k:=by omega);rintro⟨aQ,b7,eG⟩;rw[<-gB]at b7 eG;rcases dZ with gF|gF;·exact gF b7
   ·rw[bX]at gF;exact eG (List.any_eq_true.1 gF)⟩ kG bP a2 jR k1
 apply(WF);refine lG L R ?_;exact⟨by rw[decide_eq_false (p:=Z3 c.l f.aT.l f.aU.l f.cA dI a)];rintro⟨j,aY,XY⟩;exact hD j D XY,rfl,rfl⟩
end Go.Proofs.YtchfclmokpbldaaGreat
