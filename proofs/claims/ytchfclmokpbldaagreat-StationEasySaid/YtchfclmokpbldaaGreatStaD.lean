-- By an AI agent; no person has read it.
import Derived.Test.YtchfclmokpbldaaGreatCloneS
import Derived.Test.YtchfclmokpbldaaGreatRefC
import Derived.Test.YtchfclmokpbldaaGreatRefA
import Derived.Test.YtchfclmokpbldaaGreatTelF
import Derived.Test.YtchfclmokpbldaaGreatTelW
set_option linter.all false
set_option maxHeartbeats 4000000
variable{A B:Prop}
namespace Go.Proofs.YtchfclmokpbldaaGreat
open Go.Aw Go Go.Proofs.Tryz
set_option maxRecDepth 20000
attribute [local irreducible] cQ dF dV aM cP eC e5 e1 e2 e6 eX e4 J.L
def a0v(h:A->B:=by exact bE zT rfl rfl rfl):=h
def a5D(h:A->B:=by exact aI mM rfl):=h
def aGw(h:A->B:=by exact bE q1 rfl rfl rfl):=h
def aVP{A B C:aR}{x:bN}:(A++(x::(B++C))).Perm (x::(B++(A++C))):=List.perm_middle.trans (.cons _ (a3E A B C))
def aH6(g:hL)(p:bZ)(l:List Int){k:Nat}{z:Int}(h:l[k]?=some z):CZ g p (l.take (k+1))=w4 g (CZ g p (l.take k)) z:=by rw[ME,h];simp[CZ,Bu]
def Yl(kind:Int)(p:bZ)(l:List Int){k:Nat}{z:Int}(h:l[k]?=some z):v3 kind p (l.take (k+1))=nT (v3 kind p (l.take k)) kind z 0:=by rw[ME,h];simp[v3,Bu]
def a4N{g:hL}: ∀(l:List Int) {p:bZ},(CZ g p l).aV.length=p.aV.length
 |[],p=>rfl
 |z::l,p=>(a4N l).trans (by rw[aH3])
def a1a{g:hL}{p:bZ}(dR:List Int): ∀k,(m5 g dR p k).aV.length=p.aV.length
 |0=>rfl
 |k+1=>by
  rw[m5,JH]
  split
  ·exact a1a dR k
  ·rw[aH3]
   show(List.set _ _ _).length=_
   rw[q0];exact a1a dR k
def aDK{s:eA}{v:List Int}{c:List b8}: ∀k,(yU s v c k).length<=k
 |0=>iK _
 |k+1=>by
  have h:=aDK (s:=s) (v:=v) (c:=c) k
  rw[yU]
  split
  ·rw[l9,OW];omega
  ·omega
def a0F{s:eA}{v:List Int}{c:List b8}: ∀k,∀z∈yU s v c k,0<=z/\z<k
 |0,z,h=>by cases h
 |k+1,z,h=>by
  rw[yU]at h
  split at h
  ·rcases List.mem_append.1 h with h|h
   ·have:=a0F k z h;omega
   ·rw[List.mem_singleton.1 h];omega
  ·have:=a0F k z h;omega
def Qm(a0:hL)(p:bZ)(x:cL)(c9:J fG)(b:Nat)(t:Int)(L:aR)(R:aO)(eT:Inv a0 p)(K:h3 a0 p ({x with eQ:=c9.V}:cL))(aH:zY x.aK R)(a3:aL (gT x.c7) R)(dH:aL (CJ x.eG) R)(cG:aL (sE x.aV) R)(aF:k0 x.cU R)(QP:c9.ok 4 fG.cells)(fH:p.time<=t/\t<=2147483648):
 aM prog 82 [.pointer (some ⟨b,0,none⟩),.int .i64 t].toArray (⟨b,({x with eQ:=c9.V}:cL).cells,54⟩::(c9.L 150 fG.cells++L)) R
  (λv E G=>∃(w:a4 fU) (c:a4 b8) (f:hJ) (q:J fG) (S:aO),q.ok 4 fG.cells/\h3 a0 (bP a0 p t) ({x with time:=t,eG:=w,aV:=c,cU:=f,aD:=(bP a0 p t).aD,eQ:=q.V}:cL)/\(aL (CJ w) (S++R)/\aL (sE c) (S++R)/\k0 f (S++R))/\
   ⟨b,({x with time:=t,eG:=w,aV:=c,cU:=f,aD:=(bP a0 p t).aD,eQ:=q.V}:cL).cells,54⟩::(q.L 150 fG.cells++L)=E/\S++R=G):=by
 have NX:=eT.at fH.1 fH.2;have cY:u6 ({x with time:=t,eQ:=c9.V}:cL) R:=u6.of (x:={x with time:=t,eQ:=c9.V}) (p:=({p with time:=t}:bZ)) NX {K with time:=rfl} aH a3;have gE:lB x.aK.b0.aC a0.b0:=fX.xA K.aK NX.xA;have b9W:c9.l=p.eQ:=K.eQ;have pG:x.c7.l=p.c7:=K.c7;have tX:x.eG.l=p.eG:=K.eG;have kK:x.aV.l=p.aV:=K.aV;have a2u:x.cU.aZ.l=p.Y:=K.Y;have He:x.cU.a2.l=a0.cI:=K.cI;have b5n:x.cU.cB=a0.bX:=K.bX;have sP:=eT.Ik;have zE:x.aK.a2.l.length=a0.aK.a2.l.length:=fX.a2L K.aK;have aMa:=eT.BU;have wO:=eT.OQ.len;have a2s:=NX.iH;have Gs:=a2s.KL;have Sr:Inv a0 ({p with time:=t,eG:=oR a0.aK p.c7 p.eG (e9 a0 ({p with time:=t}:bZ)) t,aV:=o1 a0.aK (nR a0 ({p with time:=t}:bZ)) p.aV t}:bZ):=NX.aB6;dsimp only[cL.cells];refine b6 209 call82 func82 rfl rfl rfl ?_;apply dC∘SQ;refine aI jV rfl ?_;apply vZ∘j2;refine gZ N [0,1,2,3,4,5,6,7,8,9,10,11,12,13,14,16,15,17,18,19,20,21,22,23,24] _ dO bI hA ?_;apply VN∘lA∘aGw∘PS∘PS∘VN;refine bE xR rfl rfl rfl ?_;apply(hK);refine tP rfl (a6y {x with time:=t,eQ:=c9.V} a0.b0 _ _ cY gE) rfl rfl ?_;rintro v E G ⟨aA,rfl,a9F,rfl,rfl⟩;refine⟨bA,iQ,?_⟩;refine tP rfl (aW3 x.aK x.c7 x.eG aA t _ _ ⟨aH.mono λr M=>aT (.tail _ M),a3.mono λr M=>aT (.tail _ M),dH.mono λr M=>aT (.tail _ M),aT (.head _),cY.IK⟩) rfl rfl ?_;rintro v E G ⟨wT,lF,rfl,⟨aAE,aAI⟩,aAF,aAJ,rfl,rfl⟩;refine⟨bA,iQ,?_⟩;refine bE iL rfl rfl rfl ?_;iterate 3 refine bE q2 rfl rfl rfl ?_
 apply a0v∘a0v∘qV;refine g5 (a8 (bK (bK ?_)));have Ls:aA.l=e9 a0 ({p with time:=t}:bZ):=by rw[a9F];show HL x.aK a0.b0 x.c7.l t=_;rw[fX.vI K.aK,pG];rfl
 have b2q:pI x.aK x.c7.l x.eG.l aA.l t=0:=by rw[fX.pI K.aK,pG,tX,Ls];exact NX.Wb
 have TP:wT.l=nR a0 ({p with time:=t}:bZ):=by rw[aAF,fX.GW K.aK,pG,tX,Ls];rfl
 have aAG:lF.l=oR a0.aK p.c7 p.eG (e9 a0 ({p with time:=t}:bZ)) t:=by rw[aAJ,fX.oR K.aK,pG,tX,Ls]
 refine hB (T:=3) (f:=a1) (aN:=1) wT [] cF bD aW aAE e8 ?_;refine eM gD ?_;refine hB (T:=153) (f:=fU.cells) (aN:=3) lF [] cF bD aW aAI e8 ?_;refine eM gD ?_;have kJ:∀r∈R,aL r (CJ lF.V::dU wT.V::sU aA::R):=λr M=>aT (.tail _ (.tail _ (.tail _ M)));have b3u:jS x.cU.aZ.l x.cU.a2.l x.cU.cB=0:=by rw[a2u,He,b5n];exact eT.y6
 refine gZ N [0,1,2,3,4,5,6,7,8,9,10,11,12,13,14,15,16,17,18,19,20,21,22,23,24] _ dO bI hA ?_;apply(hK);refine bE KU rfl rfl rfl ?_;apply(sS);refine lQ (k:=48) aY (λjL=>?_) (λjL=>?_);·replace jL:=bB jL;exact absurd b2q jL
 replace jL:=bB jL;apply VN∘lA;refine bE mM rfl rfl rfl ?_;refine lW rfl (ZC x.cU _ _ (aF.mono kJ)) ?_;refine bE KU rfl rfl rfl ?_;apply(k1);refine lQ (k:=56) aY (λmW=>?_) (λmW=>?_);·replace mW:=bB mW;exact absurd b3u mW
 replace mW:=bB mW;apply VN∘LD;refine bE yG rfl rfl rfl ?_;apply VN∘LD;refine bE yG rfl rfl rfl ?_;refine bE KU rfl rfl rfl ?_;apply(l2);refine U ?_ ?_<;>intro aQ;·(exfalso;rw[He]at aQ;omega)
 apply(wW);refine gZ N [0,1,2,3,4,5,6,7,8,9,10,11,12,13,14,15,16,17] _ dO bI hA ?_;apply VN∘lA∘aGw;refine bE oS rfl rfl rfl ?_;apply VN∘l1;refine tP rfl (aWR x.aK wT.V x.aV t _ _ (aH.mono kJ) X0 (cG.mono kJ)) rfl rfl ?_;rintro v E G ⟨eY,o7,rfl,⟨TN,aAQ⟩,aMW,aM4,rfl,rfl⟩;refine⟨bA,iQ,?_⟩;refine bE iL rfl rfl rfl ?_;iterate 3 refine bE q2 rfl rfl rfl ?_
 apply a0v∘a0v∘qV;refine g5 (a8 (bK (bK ?_)));have b11:pU x.aK wT.l x.aV.l t=0:=by rw[fX.pU K.aK,TP,kK];exact NX.a71
 have Gm:eY.l=o1 a0.aK (nR a0 ({p with time:=t}:bZ)) p.aV t:=by exact aPu
 have sO:o7.l=(x6 a0.aK (nR a0 ({p with time:=t}:bZ)) p.aV t):=by exact aPv
 refine hB (T:=3) (f:=a1) (aN:=1) o7 [] cF bD aW aAQ e8 ?_;refine eM gD ?_;apply(SS);refine U ?_ ?_<;>intro bL;·exact absurd b11 bL
 apply e0∘lX∘lX∘gU∘gU;refine aI jV rfl ?_;apply(FT);refine aI jV rfl ?_;apply FT∘CB;obtain⟨gS,BZ⟩:∃gS,gS=dU o7.V::CJ lF.V::dU wT.V::sU aA::R:=⟨_,rfl⟩;have NZ:∀r∈R,aL r gS:=λr M=>aT (by rw[BZ];exact .tail _ (.tail _ (.tail _ (.tail _ M))));have aAP:aL (dU o7.V) gS:=aT Xp;have aAH:aL (CJ lF.V) gS:=aT Xi;have aAC:aL (dU wT.V) gS:=aT a3W;refine wK Xm ?_;have b9U:eY.l.length=a0.aK.a2.l.length:=by rw[Gm];exact Sr.BU
 have b5j:o7.l.length<=16:=by exact aP4
 refine aFO aVP ?_;refine eM (E:=⟨b,({x with time:=t,eG:=lF.V,aV:=eY.V,eQ:=c9.V}:cL).cells,54⟩::(c9.L 150 fG.cells++(eY.L 71 b8.cells++L))) rfl ?_;apply eB∘BN;refine dS [(0,.pointer _),(1,.int _ _),(4,.slice _ _ _),(96,.slice _ _ _),(97,.int _ _),(98,.int _ _)] bV λfK=>?_;refine k2 ([10]++cN 98 8) ((⟨λg=>[(98,.int .i64 ((g.1.1:Nat):Int))],λg=>⟨b,({x with time:=t,eG:=lF.V,aV:=eY.V,cU:=g.1.2.1,eQ:=g.1.2.2.1.V}:cL).cells,54⟩::(g.1.2.2.1.L 150 fG.cells++(eY.L 71 b8.cells++L)),λg=>g.1.2.2.2,λg=>o7.l.length-g.1.1⟩:fB {g:Nat×hJ×J fG×aO//g.1<=o7.l.length/\g.2.2.1.ok 4 fG.cells/\h3 a0 (CZ a0 ({p with time:=t,eG:=oR a0.aK p.c7 p.eG (e9 a0 ({p with time:=t}:bZ)) t,aV:=o1 a0.aK (nR a0 ({p with time:=t}:bZ)) p.aV t}:bZ) (o7.l.take g.1)) ({x with time:=t,eG:=lF.V,aV:=eY.V,cU:=g.2.1,eQ:=g.2.2.1.V}:cL)/\k0 g.2.1 g.2.2.2/\∀r∈gS,aL r g.2.2.2})) (⟨(0,x.cU,c9,gS),by dsimp only;omega,QP,{K with time:=rfl,eG:=aAG,aV:=Gm},aF.mono NZ,n1 _⟩) ?_;rintro⟨⟨k,jY,A1,sC⟩,aG,a9W,F9,C8,a1X⟩ cH;try dsimp only
 dsimp only[cL.cells];dsimp only at aG a9W F9 C8 a1X;have vK:Inv a0 (CZ a0 ({p with time:=t,eG:=oR a0.aK p.c7 p.eG (e9 a0 ({p with time:=t}:bZ)) t,aV:=o1 a0.aK (nR a0 ({p with time:=t}:bZ)) p.aV t}:bZ) (o7.l.take k)):=Sr.aV _;apply(h0);refine U ?_ ?_<;>intro cC;·have AW:=bJ (l:=o7.l) (k:=k) 0 D;have b5k:=a0F (s:=a0.aK) (v:=nR a0 ({p with time:=t}:bZ)) (c:=p.aV) p.aV.length (o7.l.getD k 0) (by(have e:yU a0.aK (nR a0 ({p with time:=t}:bZ)) p.aV p.aV.length=o7.l:=by rw[sO,x6,if_neg aCT]);rw[e];exact hV AW);have b5i:=aAP.mono a1X;have cT:=aH6 a0 ({p with time:=t,eG:=oR a0.aK p.c7 p.eG (e9 a0 ({p with time:=t}:bZ)) t,aV:=o1 a0.aK (nR a0 ({p with time:=t}:bZ)) p.aV t}:bZ) o7.l AW;apply(j9);refine aI pL rfl ?_;apply jG∘dM;refine eZ (a8 (c2 ?_));apply(SQ);refine dT rfl (aJG a0 (CZ a0 ({p with time:=t,eG:=oR a0.aK p.c7 p.eG (e9 a0 ({p with time:=t}:bZ)) t,aV:=o1 a0.aK (nR a0 ({p with time:=t}:bZ)) p.aV t}:bZ) (o7.l.take k)) {x with time:=t,eG:=lF.V,cU:=jY} eY A1 b (o7.l.getD k 0) _ _ vK F9 C8 TN a9W (by rw[a4N];show _/\_<((o1 a0.aK (nR a0 ({p with time:=t}:bZ)) p.aV t).length:Int);rw[<-Gm];omega)) rfl ?_;rintro v E G ⟨iE,wC,e3,Tu,tA,vL,rfl,rfl⟩;apply(uJ);exact eO ⟨(k+1,iE,wC,e3++sC),by dsimp only;omega,Tu,by dsimp only;rw[cT];exact tA,vL,λr M=>(a1X r M).mono λr M=>aT (lZ _ M)⟩
 obtain rfl:k=o7.l.length:=by omega
 have a86:CZ a0 ({p with time:=t,eG:=oR a0.aK p.c7 p.eG (e9 a0 ({p with time:=t}:bZ)) t,aV:=o1 a0.aK (nR a0 ({p with time:=t}:bZ)) p.aV t}:bZ) (o7.l.take o7.l.length)=iH a0 ({p with time:=t}:bZ):=by rw[DK (iK _),sO];rfl
 rw[a86]at F9 vK;have a9p:eY.l=(iH a0 ({p with time:=t}:bZ)).aV:=F9.aV;have aAR:x.aD=(iH a0 ({p with time:=t}:bZ)).aD:=F9.aD;have An:t=(iH a0 ({p with time:=t}:bZ)).time:=F9.time;have aNg:jY.a2.l=a0.cI:=F9.cI;have W2:jY.aZ.l=(iH a0 ({p with time:=t}:bZ)).Y:=F9.Y;have WY:jY.cB=a0.bX:=F9.bX;apply(Hk);refine iS N [] [0,1,2,3,4,5,6,7,8,9,10,11] [12] (_) _ dO bI bA (by(repeat(first|apply List.Sublist.cons (a:=bN.mk b _ _)|apply List.Sublist.cons_cons));exact rH _) ?_;apply T6∘T6;refine fP jV rfl rfl rfl rfl ?_;apply mH∘T6;refine fP jV rfl rfl rfl rfl ?_;apply(zM);refine fP DT rfl rfl rfl rfl ?_;refine rQ rfl (aV0 (p:=eY) x.aD G2 TN) rfl rfl ?_;rintro v E G ⟨rfl,rfl,rfl⟩;refine⟨bA,iQ,?_⟩;refine fP jV rfl rfl rfl rfl ?_;apply(a6B);refine Oz rfl rfl rfl rfl sX aB aB aB bA ?_;refine g5 (a8 (bK (bK ?_)));have a9S:nQ eY.l x.aD=nQ (iH a0 ({p with time:=t}:bZ)).aV (iH a0 ({p with time:=t}:bZ)).aD:=by rw[a9p,aAR]
 obtain⟨zP,J9⟩:∃zP,zP=nQ (iH a0 ({p with time:=t}:bZ)).aV (iH a0 ({p with time:=t}:bZ)).aD:=⟨_,rfl⟩;rw[a9S,<-J9];have a11:FM jY.aZ.l jY.a2.l jY.cB t=0:=by rw[W2,aNg,WY,FM,if_neg (by rw[vK.y6];decide),if_pos (by have:=vK.Vs;rw[<-An]at this;exact this)]
 apply eB∘lX;refine aI jV rfl ?_;apply e7∘a5D∘cE;refine dT rfl (aVK jY t _ _ C8) rfl ?_;rintro v E G ⟨CD,EY,b7d,p1,to,rfl,⟨aA5,aA7,aA1,aA3⟩,Us,rfl,rfl⟩;refine aI iL rfl ?_;iterate 4 apply(IQ)
 apply(dZ);intro H1;apply jZ∘wI∘rS∘nJ;refine U ?_ ?_<;>intro dX;·
  obtain⟨aA4,aA6,rfl,Ut,aA2⟩:=Us a11;refine hB (T:=3) (f:=a1) (aN:=1) to [] cF bD aW aA3 e8 ?_;refine eM gD ?_;refine hB (T:=3) (f:=a1) (aN:=1) p1 [] cF bD aW aA1 e8 ?_;refine eM gD ?_;refine hB (T:=3) (f:=a1) (aN:=1) EY [] cF bD aW aA7 e8 ?_;refine eM gD ?_;refine hB (T:=76) (f:=bS.cells) (aN:=5) CD [] cF bD aW aA5 e8 ?_;refine eM gD ?_;obtain⟨hG,C5⟩:∃hG,hG=s4 CD.V::dU EY.V::dU p1.V::dU to.V::sC:=⟨_,rfl⟩;have b2l:∀r∈sC,aL r hG:=λr M=>aT aDb;have aNi:aL (dU p1.V) hG:=aT a3X;have aNj:aL (dU to.V) hG:=aT aDc;have Z1:k0 ⟨CD.V,EY.V,jY.cB⟩ hG:=⟨aT Xq,aT a32⟩;refine wK a37 ?_;have Lo:∀r∈gS,aL r hG:=λr M=>(a1X r M).mono b2l;have a8p:CD.l=({iH a0 ({p with time:=t}:bZ)with aD:=nQ (iH a0 ({p with time:=t}:bZ)).aV (iH a0 ({p with time:=t}:bZ)).aD,Y:=(nA (iH a0 ({p with time:=t}:bZ)).Y a0.bX t).Y}:bZ).Y:=by rw[aA4,W2,WY]
  have St:p1.l=(nA (iH a0 ({p with time:=t}:bZ)).Y a0.bX t).bY:=by rw[Ut,W2,WY]
  have Su:to.l=(nA (iH a0 ({p with time:=t}:bZ)).Y a0.bX t).RA:=by rw[aA2,W2,WY]
  have Sx:=Qn (Y:=(iH a0 ({p with time:=t}:bZ)).Y) (bX:=a0.bX) (t:=t) (iH a0 ({p with time:=t}:bZ)).Y.length;have Up:=vK.ZN.A7;have Gx:p1.l.length<=32:=by rw[St];exact G0 Sx.1 Up
  have b5D:to.l.length<=32:=by rw[Su];exact G0 Sx.2 Up
  have Sq:Inv a0 ({iH a0 ({p with time:=t}:bZ)with aD:=nQ (iH a0 ({p with time:=t}:bZ)).aV (iH a0 ({p with time:=t}:bZ)).aD,Y:=(nA (iH a0 ({p with time:=t}:bZ)).Y a0.bX t).Y}:bZ):=by have O:Inv a0 ({iH a0 ({p with time:=t}:bZ)with aD:=nQ (iH a0 ({p with time:=t}:bZ)).aV (iH a0 ({p with time:=t}:bZ)).aD}:bZ):={vK with aD:=a7K _ _ vK.aD.1};have X:=O.Nb (Y:=(nA (iH a0 ({p with time:=t}:bZ)).Y a0.bX t).Y) (by have aU:=Ix (bX:=a0.bX) (t:=t) vK.y6 (iH a0 ({p with time:=t}:bZ)).Y.length (iK _);(have e:∀u,u=t->tM (iH a0 ({p with time:=t}:bZ)).Y (nA (iH a0 ({p with time:=t}:bZ)).Y a0.bX t).Y u:=λu dL=>by rw[dL];exact aU);exact e _ An.symm);exact X
  have J1:h3 a0 ({iH a0 ({p with time:=t}:bZ)with aD:=nQ (iH a0 ({p with time:=t}:bZ)).aV (iH a0 ({p with time:=t}:bZ)).aD,Y:=(nA (iH a0 ({p with time:=t}:bZ)).Y a0.bX t).Y}:bZ) ({x with time:=t,eG:=lF.V,aV:=eY.V,cU:=⟨CD.V,EY.V,jY.cB⟩,aD:=zP,eQ:=A1.V}:cL):={F9 with Y:=a8p,cI:=aA6.trans aNg,aD:=J9};apply dC∘lX∘a5D;refine aI jV rfl ?_;apply(e7);refine P8 N rfl rfl rfl rfl sX aB aB aB ?_;apply(CB);refine tO (E:=⟨b,({x with time:=t,eG:=lF.V,aV:=eY.V,cU:=⟨CD.V,EY.V,jY.cB⟩,aD:=zP,eQ:=A1.V}:cL).cells,54⟩::(A1.L 150 fG.cells++(eY.L 71 b8.cells++L))) bA eN ?_;dsimp only[cL.cells];apply eB∘BN;refine dS [(0,.pointer _),(4,.slice _ _ _),(13,.slice _ _ _),(135,.slice _ _ _),(136,.int _ _),(137,.int _ _)] bV λoA=>?_;refine k2 ([16]++cN 137 8) ((⟨λg=>[(137,.int .i64 ((g.1.1:Nat):Int))],λg=>⟨b,({x with time:=t,eG:=lF.V,aV:=eY.V,cU:=⟨CD.V,EY.V,jY.cB⟩,aD:=zP,eQ:=g.1.2.V}:cL).cells,54⟩::(g.1.2.L 150 fG.cells++(eY.L 71 b8.cells++L)),λ_=>hG,λg=>p1.l.length-g.1.1⟩:fB {g:Nat×J fG//g.1<=p1.l.length/\g.2.ok 4 fG.cells/\h3 a0 (v3 3 ({iH a0 ({p with time:=t}:bZ)with aD:=nQ (iH a0 ({p with time:=t}:bZ)).aV (iH a0 ({p with time:=t}:bZ)).aD,Y:=(nA (iH a0 ({p with time:=t}:bZ)).Y a0.bX t).Y}:bZ) (p1.l.take g.1)) ({x with time:=t,eG:=lF.V,aV:=eY.V,cU:=⟨CD.V,EY.V,jY.cB⟩,aD:=zP,eQ:=g.2.V}:cL)})) (⟨(0,A1),by dsimp only;omega,a9W,J1⟩) ?_;rintro⟨⟨fI,wC⟩,l5,Tu,EK⟩ cH;try dsimp only
  dsimp only[cL.cells];dsimp only at l5 Tu EK;apply(h0);refine U ?_ ?_<;>intro dY;·have Ao:=bJ (l:=p1.l) (k:=fI) 0 D;have cT:=Yl 3 ({iH a0 ({p with time:=t}:bZ)with aD:=nQ (iH a0 ({p with time:=t}:bZ)).aV (iH a0 ({p with time:=t}:bZ)).aD,Y:=(nA (iH a0 ({p with time:=t}:bZ)).Y a0.bX t).Y}:bZ) p1.l Ao;apply(j9);refine aI Wu rfl ?_;apply jG∘dM;refine eZ (a8 (c2 ?_));apply(SQ);refine dT rfl (RR ({x with time:=t,eG:=lF.V,aV:=eY.V,cU:=⟨CD.V,EY.V,jY.cB⟩,aD:=zP,eQ:=x.eQ}:cL) wC b 3 (p1.l.getD fI 0) 0 _ _ Tu (by have O:=EK.eQ;have X:=(Sq.Az 3 (p1.l.take fI)).eQ;rw[<-O]at X;exact X)) rfl ?_;rintro v E G ⟨Vi,b3Y,b3X,rfl,rfl⟩;apply(uJ);exact eO ⟨(fI+1,Vi),by dsimp only;omega,b3Y,by dsimp only;rw[cT];exact EK.yC b3X⟩
  obtain rfl:fI=p1.l.length:=by omega
  rw[DK (iK _)]at EK;have a8l:Inv a0 (v3 3 ({iH a0 ({p with time:=t}:bZ)with aD:=nQ (iH a0 ({p with time:=t}:bZ)).aV (iH a0 ({p with time:=t}:bZ)).aD,Y:=(nA (iH a0 ({p with time:=t}:bZ)).Y a0.bX t).Y}:bZ) p1.l):=Sq.Az 3 _;apply n9∘BN;refine dS [(0,.pointer _),(4,.slice _ _ _),(145,.slice _ _ _),(146,.int _ _),(147,.int _ _)] bV λUD=>?_;refine k2 ([18]++cN 147 8) ((⟨λg=>[(147,.int .i64 ((g.1.1:Nat):Int))],λg=>⟨b,({x with time:=t,eG:=lF.V,aV:=eY.V,cU:=⟨CD.V,EY.V,jY.cB⟩,aD:=zP,eQ:=g.1.2.V}:cL).cells,54⟩::(g.1.2.L 150 fG.cells++(eY.L 71 b8.cells++L)),λ_=>hG,λg=>to.l.length-g.1.1⟩:fB {g:Nat×J fG//g.1<=to.l.length/\g.2.ok 4 fG.cells/\h3 a0 (v3 2 (v3 3 ({iH a0 ({p with time:=t}:bZ)with aD:=nQ (iH a0 ({p with time:=t}:bZ)).aV (iH a0 ({p with time:=t}:bZ)).aD,Y:=(nA (iH a0 ({p with time:=t}:bZ)).Y a0.bX t).Y}:bZ) p1.l) (to.l.take g.1)) ({x with time:=t,eG:=lF.V,aV:=eY.V,cU:=⟨CD.V,EY.V,jY.cB⟩,aD:=zP,eQ:=g.2.V}:cL)})) (⟨(0,wC),by dsimp only;omega,Tu,EK⟩) ?_;rintro⟨⟨o5,aNA⟩,DA,a9X,N0⟩ cH;try dsimp only
  dsimp only[cL.cells];dsimp only at DA a9X N0;apply(h0);refine U ?_ ?_<;>intro h1;·have Ao:=bJ (l:=to.l) (k:=o5) 0 D;have cT:=Yl 2 (v3 3 ({iH a0 ({p with time:=t}:bZ)with aD:=nQ (iH a0 ({p with time:=t}:bZ)).aV (iH a0 ({p with time:=t}:bZ)).aD,Y:=(nA (iH a0 ({p with time:=t}:bZ)).Y a0.bX t).Y}:bZ) p1.l) to.l Ao;apply(j9);refine aI aRr rfl ?_;apply jG∘dM;refine eZ (a8 (c2 ?_));apply(SQ);refine dT rfl (RR ({x with time:=t,eG:=lF.V,aV:=eY.V,cU:=⟨CD.V,EY.V,jY.cB⟩,aD:=zP,eQ:=x.eQ}:cL) aNA b 2 (to.l.getD o5 0) 0 _ _ a9X (by have O:=N0.eQ;have X:=(a8l.Az 2 (to.l.take o5)).eQ;rw[<-O]at X;exact X)) rfl ?_;rintro v E G ⟨b6h,b30,b3Z,rfl,rfl⟩;apply(uJ);exact eO ⟨(o5+1,b6h),by dsimp only;omega,b30,by dsimp only;rw[cT];exact N0.yC b3Z⟩
  obtain rfl:o5=to.l.length:=by omega
  obtain⟨m0,Eu⟩:∃m0,m0=KL a0 (iH a0 ({p with time:=t}:bZ)):=⟨_,rfl⟩;have a87:v3 2 (v3 3 ({iH a0 ({p with time:=t}:bZ)with aD:=nQ (iH a0 ({p with time:=t}:bZ)).aV (iH a0 ({p with time:=t}:bZ)).aD,Y:=(nA (iH a0 ({p with time:=t}:bZ)).Y a0.bX t).Y}:bZ) p1.l) to.l=m0:=by rw[Eu,St,Su,KL];simp only[<-An]
  rw[DK (iK _),a87]at N0;rw[<-Eu]at Gs;obtain⟨nI,Sy⟩:∃nI,nI=nR a0 ({p with time:=t}:bZ):=⟨_,rfl⟩;rw[<-Sy]at TP;have a8r:m0.aV.length=eY.l.length:=by rw[<-N0.aV]
  apply n9∘lX;refine aI jV rfl ?_;apply(qP);refine dS [(0,.pointer _),(4,.slice _ _ _),(159,.int _ _),(160,.int _ _)] bV λa29=>?_;refine k2 ([19]++cN 160 49) ((⟨λg=>[(160,.int .i64 ((g.1.1:Nat):Int))],λg=>⟨b,({x with time:=t,eG:=lF.V,aV:=(⟨eY.o,g.1.2.2.2.1⟩:J b8).V,cU:=g.1.2.1,aD:=zP,eQ:=g.1.2.2.1.V}:cL).cells,54⟩::(g.1.2.2.1.L 150 fG.cells++((⟨eY.o,g.1.2.2.2.1⟩:J b8).L 71 b8.cells++L)),λg=>g.1.2.2.2.2,λg=>eY.l.length-g.1.1⟩:fB {g:Nat×hJ×J fG×List b8×aO//g.1<=eY.l.length/\g.2.2.1.ok 4 fG.cells/\h3 a0 (m5 a0 nI m0 g.1) ({x with time:=t,eG:=lF.V,aV:=(⟨eY.o,g.2.2.2.1⟩:J b8).V,cU:=g.2.1,aD:=zP,eQ:=g.2.2.1.V}:cL)/\k0 g.2.1 g.2.2.2.2/\∀r∈hG,aL r g.2.2.2.2})) (⟨(0,⟨CD.V,EY.V,jY.cB⟩,aNA,eY.l,hG),by dsimp only;omega,a9X,N0,Z1,n1 _⟩) ?_;rintro⟨⟨fZ,H6,XD,y5,MW⟩,B4,a2h,S9,Z2,Fb⟩ cH;try dsimp only
  dsimp only[cL.cells];dsimp only at B4 a2h S9 Z2 Fb;have WH:y5=(m5 a0 nI m0 fZ).aV:=S9.aV;have Tf:y5.length=eY.l.length:=by rw[WH,a1a,a8r]
  have aMb:(⟨eY.o,y5⟩:J b8).ok 3 b8.cells:=J.o6 bD TN Tf;have Ln:Inv a0 (m5 a0 nI m0 fZ):=Gs.m5 nI fZ;apply(h0);refine U ?_ ?_<;>intro h2;·
   have qD:=bJ (l:=y5) (k:=fZ) default D;obtain⟨c,mQ⟩:∃c,c=y5.getD fZ default:=⟨_,rfl⟩;rw[<-mQ]at qD;have Uq:H6.aZ.l=(m5 a0 nI m0 fZ).Y:=S9.Y;have Hd:H6.a2.l=a0.cI:=S9.cI;have Um:H6.cB=a0.bX:=S9.bX;have Z0:m5 a0 nI m0 (fZ+1)=JH a0 nI (m5 a0 nI m0 fZ) fZ:=rfl;(have GC:Rr a0 (m5 a0 nI m0 fZ).Y fZ=(vU H6.aZ.l H6.a2.l H6.cB (H6.a2.l.getD (fZ:Int).toNat 0)).any (λk=>P5 (H6.aZ.l.getD k.toNat default)):=by rw[Uq,Hd,Um];rfl);apply oJ∘hH∘lX;refine aI jV rfl ?_;apply(gK);refine aI aCW rfl ?_;apply(l6);refine aI (tK N ((⟨eY.o,y5⟩:J b8)) rfl rfl rfl cF bR bD bR aB) rfl ?_;apply(dE);apply cA (Z:=[_,_,_,_,_,_,_]) (j:=8) (a9:=171) rfl rfl aB rfl aY rfl;·intro gH;replace gH:=bB gH;apply(lX);refine aI jV rfl ?_;apply e7∘a5D∘cE;refine cD rfl (aYc H6 (fZ:Int) _ _ Z2 (by rw[Uq,Hd,Um];exact Ln.y6) (by rw[Hd];omega)) ?_;exact I0
   intro uY;apply(b9);refine U ?_ ?_<;>intro n8;·refine mD (mF (mB (a8 (c2 ?_))));apply(s6);exact eO ⟨(fZ+1,H6,XD,y5,MW),by dsimp only;omega,a2h,by dsimp only;rw[Z0,JH,if_pos (by rw[<-WH,<-mQ,GC];simpa using n8)];exact S9,Z2,Fb⟩
   (have tW:¬((m5 a0 nI m0 fZ).aV.getD fZ default).off=true/\¬Rr a0 (m5 a0 nI m0 fZ).Y fZ=false:=by rw[<-WH,<-mQ,GC,<-not_or];simpa using n8);have qG:=bJ (l:=x.aK.a2.l) (k:=fZ) default D;have a84:∀r∈R,aL r MW:=λr M=>((NZ r M).mono Lo).mono Fb;have aBn:=aH.a2.mono a84;have aAX:=aL.jN aBn qG;have aAD:=(aAC.mono Lo).mono Fb;apply(wW);refine iS N [189] [0,1,2,3,4,5,6,7,8,9,10,11,12,13,14,15,16,17,18,19,20,21,22] [23,24,25,26] (_) _ dO bI bA fM ?_;apply(T6);refine fP jV rfl rfl rfl rfl ?_;apply BO∘T6;refine fP jV rfl rfl rfl rfl ?_;apply(mH);refine m2 zS rfl rfl rfl rfl ?_;apply(T6);refine fP jV rfl rfl rfl rfl ?_;apply zM∘BO;refine fP aRn rfl rfl rfl rfl ?_;apply CC∘tE∘aBX;refine rQ rfl (aIF (x.aK.a2.l.getD fZ default).jN wT.V _ _ aAX aAD) rfl rfl ?_;rintro v E G ⟨rfl,rfl,rfl⟩;refine⟨bA,iQ,?_⟩;refine fP aCW rfl rfl rfl rfl ?_;apply CC∘zN;refine HN (j5 N ((⟨eY.o,y5⟩:J b8)) (⟨true,c.clear,c.i4⟩) rfl rfl rfl rfl cF bR bD bR aW aB aB) rfl rfl ?_;rintro v E G ⟨rfl,rfl⟩;apply(gJ);refine bE aCW rfl rfl rfl ?_;apply(Vq);have b26:=J.qX (f:=b8.cells) (aN:=3) (p:=⟨eY.o,y5⟩) (i:=fZ) (x:=⟨true,c.clear,c.i4⟩) bD aMb;have a9s:(y5.set fZ ⟨true,c.clear,c.i4⟩)[fZ]?=some ⟨true,c.clear,c.i4⟩:=tJ D;refine HN (j5 N ((⟨eY.o,y5.set fZ ⟨true,c.clear,c.i4⟩⟩:J b8)) (⟨true,c.clear,tL (x.aK.a2.l.getD fZ default).jN.l wT.l⟩) rfl rfl rfl rfl cF bR bD bR aW aB aB) rfl rfl ?_;rintro v E G ⟨rfl,rfl⟩;apply gJ∘wV;obtain⟨v7,ZZ⟩:∃v7,v7=y5.set fZ ⟨true,c.clear,tL (x.aK.a2.l.getD fZ default).jN.l wT.l⟩:=⟨_,rfl⟩;(have Te:v7.length=y5.length:=by rw[ZZ,q0]);(have WJ:(⟨eY.o,v7⟩:J b8).V.val=(⟨eY.o,y5⟩:J b8).V.val:=by simp only[J.V,a4.val,Te]);have a9u:(⟨eY.o,v7⟩:J b8).ok 3 b8.cells:=J.o6 bD TN (Te.trans Tf);refine eM (E:=⟨b,({x with time:=t,eG:=lF.V,aV:=(⟨eY.o,v7⟩:J b8).V,cU:=H6,aD:=zP,eQ:=XD.V}:cL).cells,54⟩::(XD.L 150 fG.cells++((⟨eY.o,v7⟩:J b8).L 71 b8.cells++L))) (by simp only[cL.cells,WJ];rw[ZZ];simp only[xQ]) ?_;(have Fx:tL (x.aK.a2.l.getD fZ default).jN.l wT.l=tL (a0.aK.a2.l.getD fZ default).jN.l nI:=by rw[fX.jN K.aK fZ,TP]);obtain⟨IM,Af⟩:∃IM:bZ,IM={m5 a0 nI m0 fZ with aV:=(m5 a0 nI m0 fZ).aV.set fZ ⟨true,((m5 a0 nI m0 fZ).aV.getD fZ default).clear,tL (a0.aK.a2.l.getD fZ default).jN.l nI⟩}:=⟨_,rfl⟩;(have Gl:v7=IM.aV:=by rw[ZZ,Af,Fx,mQ,WH]);(have a8m:Inv a0 IM:=by exact aQO);(have a88:h3 a0 IM ({x with time:=t,eG:=lF.V,aV:=(⟨eY.o,v7⟩:J b8).V,cU:=H6,aD:=zP,eQ:=XD.V}:cL):=by rw[Af]at Gl|-;exact{S9 with aV:=Gl});(have LS:m5 a0 nI m0 (fZ+1)=w4 a0 IM (fZ:Int):=by rw[Z0,JH,if_neg (not_or.2 tW),Af]);apply eB∘SQ;refine dT rfl (aJG a0 IM ({x with time:=t,eG:=lF.V,aV:=(⟨eY.o,v7⟩:J b8).V,cU:=H6,aD:=zP,eQ:=XD.V}:cL) (⟨eY.o,v7⟩:J b8) XD b (fZ:Int) _ _ a8m a88 Z2 a9u a2h (by rw[<-Gl];omega)) rfl ?_;rintro v E G ⟨f7,b6i,aV9,b31,b2m,b3q,rfl,rfl⟩;apply(uJ);exact eO ⟨(fZ+1,f7,b6i,v7,aV9++MW),by dsimp only;omega,b31,by dsimp only;rw[LS];exact b2m,b3q,λr M=>(Fb r M).mono λr M=>aT (lZ _ M)⟩
  obtain rfl:fZ=eY.l.length:=by omega
  have a89:m5 a0 nI m0 eY.l.length=bP a0 p t:=by rw[bP,<-Sy,<-Eu,a8r]
  rw[a89]at S9;have rD:zP=(bP a0 p t).aD:=S9.aD;refine hB (T:=71) (f:=b8.cells) (aN:=3) (⟨eY.o,y5⟩:J b8) [] cF bD aW aMb e8 ?_;refine eM gD ?_;have b46:=(aAH.mono Lo).mono Fb;have a84:∀r∈R,aL r MW:=λr M=>((NZ r M).mono Lo).mono Fb;have ZT:∀r∈MW,aL r ((sE (⟨eY.o,y5⟩:J b8).V::MW)++R):=λr M=>aT (.tail _ (r7 _ M));refine mD (mF (xY (mB ?_)));refine Qe (E:=⟨b,({x with time:=t,eG:=lF.V,aV:=(⟨eY.o,y5⟩:J b8).V,cU:=H6,aD:=zP,eQ:=XD.V}:cL).cells,54⟩::(XD.L 150 fG.cells++L)) (G:=(sE (⟨eY.o,y5⟩:J b8).V::MW)++R) (Pp rfl) ?aP ?dI ?bO;case aP=>exact⟨lF.V,(⟨eY.o,y5⟩:J b8).V,H6,XD,sE (⟨eY.o,y5⟩:J b8).V::MW,a2h,by rw[<-rD];exact S9,⟨b46.mono ZT,aT (.head _),Z2.mono ZT⟩,by rw[<-rD];rfl,rfl⟩
  case dI=>exact bA
  case bO=>
   exact λr M=>by
    rcases List.mem_append.1 M with h|h;·exact aT h
    ·exact(a84 r h).mono λr M=>aT (.tail _ M)
 exact absurd a11 dX
end Go.Proofs.YtchfclmokpbldaaGreat
namespace Go.Proofs.YtchfclmokpbldaaGreat
open Go.Aw Go Go.Proofs.Tryz
section
attribute [local irreducible] cQ dF dV aM cP eC e5 e1 e2 e6 eX e4 J.L
def YD(h:A->B:=by exact aI (oU (iD:=[]) (dD:=[_,_,_,_]) N rfl rfl rfl rfl) rfl):=h
def Rp(h:B:=by exact⟨(⟨0,0,⟨0,0⟩⟩:eE),by rw[W],λh=>by omega,rfl,rfl⟩):=h
def Zt(h:A->B:=by exact fP a38 rfl rfl rfl rfl):=h
def aXl(h:A->B:=by exact bE Oj rfl rfl rfl):=h
def aGV(h:A->B:=by exact aI aRb rfl):=h
def aJi(h:A->B:=by exact aI Ck rfl):=h
def aHx(h:A->B:=by exact aI (oU (iD:=[(0,(Value.int _ _).cells.toList),(1,(Value.int _ _).cells.toList),(2,(Value.agg _).cells.toList)]) (dD:=[_,_,_,_]) N rfl rfl rfl rfl) rfl):=h
def aIY(h:A->B:=by exact iS N [] [0,1,2,3,4,5,6,7,8,9,10,11,12,13,14,15,16,17] [18] (_) _ dO bI bA aS2):=h
def aGE(h:A->B:=by exact fP aRb rfl rfl rfl rfl):=h
def aGI(h:A->B:=by exact fP Ck rfl rfl rfl rfl):=h
def aEd(h:A->B:=by exact fP aRu rfl rfl rfl rfl):=h
def aKr(h:A->B:=by exact Oz rfl rfl rfl rfl sX aB aB aB bA):=h
def aDO(h:B:=by exact⟨⟨a,t,BH (S.l.getD a.toNat default) (f.data.l.getD 0 0*256+f.data.l.getD 1 0)⟩,by rw[W],λ_=>by rw[Jl,TD,if_pos D];rfl,rfl,rfl⟩):=h
def aJ4(a:Int)(L:aR)(R:aO)(bT:-1000000000000<=a/\a<=1000000000000):
 aM prog 194 [.int .i64 a].toArray L R (λv E G=>v=.int .i64 (a/1000)/\L=E/\R=G):=by
 have a3:=Int.tmod_def a 1000;have O:0<=a->a.tdiv 1000=a/1000:=λh=>GY h;have X:a<0->a.tdiv 1000= -((-a)/1000):=λh=>by
  have:a= -(-a):=by omega
  rw[this,Int.neg_tdiv,GY D];omega
 refine b6 12 call194 func194 rfl rfl rfl ?_;apply m3∘FX∘L6∘Y3∘Mw∘CP;refine U ?_ ?_<;>intro aQ;·apply tR∘j3∘rS∘vB;refine cX L R ?_;exact⟨by rw[show a.tdiv 1000-1=a/1000 by omega],rfl,rfl⟩
 apply e0∘Qx;refine cX L R ?_;exact⟨by rw[show a.tdiv 1000=a/1000 by omega],rfl,rfl⟩
def aUx(s:gP)(r:Int)(L:aR)(R:aO)(aH:p5 s=0)(Ul:-1000000<=r/\r<=1000000):
 aM prog 115 [s.val,.int .i64 r].toArray L R (λv E G=>v=(BH s r).val/\L=E/\R=G):=by
 refine b6 71 call115 func115 rfl rfl rfl ?_;apply(dB);intro eH;apply(dZ);intro eD;apply rF∘Y2;apply cA (Z:=[_,_]) (j:=2) (a9:=10) rfl rfl aB rfl aY rfl;·exact G3
 intro mK;apply(b9);refine U ?_ ?_<;>intro aQ;·apply(dC);refine cD rfl (PK _ _) ?_;apply(CR);refine bQ L R kS ?_;exact⟨by rw[BH,if_pos D],rfl,rfl⟩
 have c5:¬(p5 s≠0\/¬(0<=r/\r<=65535)):=by omega
 have pG:=a60 (s:=s) (r:=r) aH D;have xH:=a0T aH;rw[DW]at xH;have b3V:1<=s.kind/\s.kind<=6:=by
  rw[p5]at aH;split at aH;·omega
  ·omega
 apply e0∘LH∘b9;refine F3 ([5]++cN 17 6) ((⟨λg=>[(5,.int .i64 g.1)],λ_=>⟨eD,[.int .i64 0,.int .i64 0],90⟩::⟨eH,s.cells,88⟩::L,λ_=>R,λ_=>0⟩:fB {n:Int//n=if 4<=s.kind then V5 s.kind else -1})) ?_ ?_;·
  refine fR (bK (c2 ?_));apply(vX);refine U ?_ ?_<;>intro bL;·apply eB∘dM;refine eZ (hI ?_);exact wU ⟨1,by rw[if_pos D,V5,if_neg D,if_neg D]⟩
  apply(oI);refine U ?_ ?_<;>intro cC;·apply eB∘dM;refine eZ (hI ?_);exact wU ⟨2,by rw[if_pos D,V5,if_neg D,if_pos D]⟩
  apply(oI);refine U ?_ ?_<;>intro dX;·apply eB∘dM;refine eZ (hI ?_);exact wU ⟨5,by rw[if_pos D,V5,if_pos D]⟩
  refine eP (hI ?_);exact wU ⟨-1,by rw[if_neg D]⟩
 rintro⟨DG,J7⟩ cH;try dsimp only
 have b9O:4<=s.kind↔0<=DG:=by
  rw[J7,V5];repeat' split
  all_goals omega
 apply(VX);refine U ?_ ?_<;>intro dY;·
  apply FR∘Ds∘b9;refine U ?_ ?_<;>intro h1;·apply(dC);refine cD rfl (PK _ _) ?_;apply(jZ);refine eZ (a8 (iY (gB (gB ?_))));refine bQ L R kS ?_;exact⟨by rw[if_pos D]at J7;rw[BH,if_neg c5,if_pos D,if_pos D],rfl,rfl⟩
  apply e0∘lD∘A4∘CR;refine bQ L R kS ?_;exact⟨by rw[if_pos D]at J7;rw[BH,if_neg c5,if_pos D,if_neg D],rfl,rfl⟩
 apply e0∘gK∘L5∘x2;refine gZ N [0,1,2,5,6,8,9,10,11,14,15,3,4,7,12,13,16,17,18,19] ([bN.mk eH _ _]) dO bI bA ?_;apply l1∘g7∘l1;refine bE (a1e rfl D D) rfl rfl rfl ?_;apply(g7);refine lW rfl (aJ4 (s.GV*r) _ _ D) ?_;apply GR∘vQ;refine lW rfl (aJ4 (-(s.GV*r)) _ _ D) ?_;apply vQ∘GR;refine bE Oe rfl rfl rfl ?_;apply(qH);intro o0;apply uC∘L4∘fD∘sG;apply cA (Z:=[_,_,_]) (j:=3) (a9:=57) rfl rfl aB rfl aY rfl;·exact Wz
 intro h8;apply(b9);refine U ?_ ?_<;>intro h2;·apply eB∘fD;refine aI E1 rfl ?_;apply(fD);refine aI E1 rfl ?_;apply vZ∘NB∘JP;refine bQ L R kS ?_;exact⟨by rw[BH,if_neg c5,if_neg D,if_pos D,Cy];simp only[a3r],rfl,rfl⟩
 apply e0∘JP;refine bQ L R kS ?_;exact⟨by rw[BH,if_neg c5,if_neg D,if_neg D,Cy];simp only[a3r],rfl,rfl⟩
def YB(S:List gP)(qB z a:Int):Prop:=(a= -1/\∀j:Nat,z<j->j<S.length->(S.getD j default).hX≠qB)\/((z<a/\a<S.length)/\(S.getD a.toNat default).hX=qB/\∀j:Nat,z<j->(j:Int)<a->(S.getD j default).hX≠qB)
def aH1{S:List gP}{qB a:Int}(h:YB S qB (-1) a):BG S qB=a:=by
 rcases h with⟨O,X⟩|⟨O,X,aU⟩;·rw[BG,List.find?_eq_none.2 (λi aE=>by rw[XP]at aE;simpa using X i D aE),O];rfl
 ·
  have:(List.range S.length).find? (λi=>decide ((S.getD i default).hX=qB))=some a.toNat:=by rw[a3z];refine⟨by simpa using X,by rw[XP];omega,λj a6=>?_⟩;simpa using aU j D D
  rw[BG,this];show((a.toNat:Nat):Int)=a;omega
def YB.b3K{S:List gP}{z qB:Int}(eW:0<=z/\z<S.length)(h:(S.getD z.toNat default).hX=qB):YB S qB (z-1) z:=
 .inr ⟨by omega,h,λj O X=>by omega⟩
def YB.b6o{S:List gP}{z qB a:Int}(eW:0<=z/\z<S.length)(k:YB S qB z a)(h:(S.getD z.toNat default).hX≠qB):YB S qB (z-1) a:=by
 rcases k with⟨O,X⟩|⟨O,X,aU⟩;·
  refine .inl ⟨O,λj a6 aX=> ?_⟩;rcases DM (z<j)with cK|cK;·exact X j cK aX
  ·(obtain rfl:j=z.toNat:=by omega);exact h
 ·
  refine .inr ⟨by omega,X,λj a6 aX=> ?_⟩;rcases DM (z<j)with cK|cK;·exact aU j cK aX
  ·(obtain rfl:j=z.toNat:=by omega);exact h
def aWq(S:a4 gP)(f:kV)(t:Int)(L:aR)(R:aO)(eL:aL (CI S) R)(aF:aL (gX f.data) R)(a5:pN f.data.l)(b1:S.l.length<=64):
 aM prog 45 [S.val,f.val,.int .i64 t].toArray L R (λv E G=>∃m:eE,v=.tuple #[m.val,.int .i64 (uG S.l f.kQ t)]/\(uG S.l f.kQ t=0->m=Jl S.l f.kQ t)/\L=E/\R=G):=by
 refine m1 call45 aF λAP=>?_;refine b6 85 call45 func45 rfl rfl rfl ?_;apply(dB);intro eD;apply(dZ);intro i1;apply(SL);apply cA (Z:=[_,_]) (j:=2) (a9:=13) rfl rfl aB rfl aY rfl;·exact G3
 intro mK;apply(b9);refine U ?_ ?_<;>intro aQ;·exact aQu
 apply e0∘hH∘VV∘nP;refine dS [(0,.slice _ _ _),(2,.int _ _),(4,.pointer _),(6,.pointer _),(8,.int _ _),(9,.int _ _)] bV λfK=>?_;refine gY ([8,9]++cN 21 13) (λg:{g:Int×Int//(-1<=g.1/\g.1<S.l.length)/\YB S.l f.hX g.1 g.2}=>[(9,.int .i64 g.1.1),(8,.int .i64 g.1.2)]) (λg=>(g.1.1+1).toNat) (⟨((S.l.length:Int)-1,-1),by dsimp only;omega,.inl ⟨rfl,λj O X=>by dsimp only at O;omega⟩⟩) ?_;rintro⟨⟨z,a⟩,eW,bT⟩ cH;try dsimp only
 dsimp only at eW bT;apply(VX);refine U ?_ ?_<;>intro bL;·exact aON
 obtain rfl:z= -1:=by omega
 have TD:BG S.l f.kQ.hX=a:=aH1 bT;have a9h:a<0\/(0<=a/\a<S.l.length):=by
  rcases bT with h|h;·omega
  ·omega
 apply xN∘Y2;apply cA (Z:=[_,_,_,_,_,_]) (j:=2) (a9:=36) rfl rfl aB rfl aY rfl;·intro fQ;replace fQ:=bB fQ;have Ti:=bJ (l:=S.l) (k:=a.toNat) default D;apply h9∘aGV∘aJi;refine cD rfl (a62 (S.l.getD a.toNat default) _ _) ?_;exact E2
 intro mK;apply(b9);refine U ?_ ?_<;>intro dX;·
  apply dC∘YD∘p8;refine bQ L R XY ?_;have W:uG S.l f.kQ t=9:=by rw[uG,if_neg D,TD,if_pos D]
  exact Rp
 have Ti:=bJ (l:=S.l) (k:=a.toNat) default D;have Ep:¬(t<0\/2147483648<t):=by omega
 have Lm:¬(a<0\/p5 (S.l.getD a.toNat default)≠0):=by omega
 have ID:f.kQ.data.length=f.data.l.length:=rfl;have Us:f.kQ.kind=f.kind:=rfl;apply e0∘lD;refine cD rfl (PK _ _) ?_;apply aHx∘dZ;intro i0;apply(F0);refine eZ (a8 (fR (bK (c2 ?_))));apply(vX);refine U ?_ ?_<;>intro dY;·
  apply tD∘kD∘rR;refine U ?_ ?_<;>intro h1;·apply dC∘YD∘jZ∘dM;refine eZ (a8 (iY (gB (iM (gB ?_)))));exact aDn
  have b2:=bJ (l:=f.data.l) (k:=0) 0 D;have O:=bJ (l:=f.data.l) (k:=1) 0 D;have a9i:=a5.at 0;have EL:=a5.at 1;refine eP (a8 ?_);apply aIY∘EA∘aGE∘aGI∘mH∘a25∘tE∘Zt;refine fP a33 rfl rfl rfl rfl ?_;apply mH∘aEd∘tE∘Zt;refine fP a35 rfl rfl rfl rfl ?_;refine rQ rfl (aUx (S.l.getD a.toNat default) _ _ _ D D) rfl rfl ?_;rintro v E G ⟨rfl,rfl,rfl⟩;refine⟨bA,iQ,?_⟩;apply a6B∘aKr;refine g5 (hI (a8 (bK (c2 ?_))));apply r5∘oH;refine bQ L R XY ?_;have W:uG S.l f.kQ t=0:=by rw[uG,if_neg Ep,TD,if_neg Lm,if_neg D,if_neg D]
  exact aDO
 apply(oI);refine U ?_ ?_<;>intro h2;·
  apply dC∘kD∘rR;refine U ?_ ?_<;>intro n8;·exact(dC∘YD∘aIP) aDn
  refine eP (hI (a8 (bK (c2 ?_))));apply r5∘oH;refine bQ L R XY ?_;have W:uG S.l f.kQ t=0:=by rw[uG,if_neg Ep,TD,if_neg Lm,if_neg D,if_neg D]
  exact aPI
 exact(dC∘YD∘aIP) aRx
def aZ2(S:a4 gP)(f:kV)(t:Int)(L:aR)(R:aO)(eL:aL (CI S) R)(aF:aL (gX f.data) R)(a5:pN f.data.l)(b1:S.l.length<=64):
 aM prog 216 [S.val,f.val,.int .i64 t].toArray L R (λv E G=>∃m:eE,v=.tuple #[m.val,.int .i64 (uG S.l f.kQ t)]/\(uG S.l f.kQ t=0->m=Jl S.l f.kQ t)/\L=E/\R=G):=by
 refine m1 call216 aF λAP=>?_;refine b6 98 call216 func216 rfl rfl rfl ?_;apply(dB);intro eD;apply(dZ);intro i1;apply(Y3);refine cD rfl Xj ?_;apply(nK);refine U ?_ ?_<;>intro aQ;·exact aQu
 apply e0∘hH∘VV∘nP;refine dS [(0,.slice _ _ _),(2,.int _ _),(4,.pointer _),(6,.pointer _),(8,.int _ _),(9,.int _ _)] bV λfK=>?_;refine gY ([8,9]++cN 18 13) (λg:{g:Int×Int//(-1<=g.1/\g.1<S.l.length)/\YB S.l f.hX g.1 g.2}=>[(9,.int .i64 g.1.1),(8,.int .i64 g.1.2)]) (λg=>(g.1.1+1).toNat) (⟨((S.l.length:Int)-1,-1),by dsimp only;omega,.inl ⟨rfl,λj O X=>by dsimp only at O;omega⟩⟩) ?_;rintro⟨⟨z,a⟩,eW,bT⟩ cH;try dsimp only
 dsimp only at eW bT;apply(VX);refine U ?_ ?_<;>intro bL;·exact aON
 obtain rfl:z= -1:=by omega
 have TD:BG S.l f.kQ.hX=a:=aH1 bT;have Ep:¬(t<0\/2147483648<t):=by omega
 have a9h:a<0\/(0<=a/\a<S.l.length):=by
  rcases bT with h|h;·omega
  ·omega
 apply xN∘Y2;apply cA (Z:=[_,_,_,_,_,_]) (j:=2) (a9:=33) rfl rfl aB rfl aY rfl;·intro fQ;replace fQ:=bB fQ;have Ti:=bJ (l:=S.l) (k:=a.toNat) default D;apply h9∘aGV∘aJi;refine cD rfl (Yr (S.l.getD a.toNat default) _ _) ?_;exact E2
 intro mK;apply(b9);refine U ?_ ?_<;>intro dX;·
  apply dC∘YD∘p8;refine bQ L R XY ?_;have W:uG S.l f.kQ t=9:=by rw[uG,if_neg Ep,TD,if_pos D]
  exact Rp
 have Ti:=bJ (l:=S.l) (k:=a.toNat) default D;have Lm:¬(a<0\/p5 (S.l.getD a.toNat default)≠0):=by omega
 have ID:f.kQ.data.length=f.data.l.length:=rfl;have Us:f.kQ.kind=f.kind:=rfl;apply D5∘p9;apply iR (Z:=[_,_,_]) (j:=3) (a9:=45) rfl rfl aB rfl aY rfl;·exact Cn
 intro h8;apply(b9);refine U ?_ ?_<;>intro dY;·exact(dC∘YD∘p8) aRx
 apply D5∘sG;apply iR (Z:=[_,_,_,_]) (j:=3) (a9:=54) rfl rfl aB rfl aY rfl;·intro eR;replace eR:=bB eR;exact Co
 intro h8;apply(dE);apply cA (Z:=[_,_,_,_,_,_,_,_,_]) (j:=9) (a9:=60) rfl rfl aB rfl aY rfl;·
  intro mW;replace mW:=bB mW;apply fD∘sG;apply iR (Z:=[_,_,_,_]) (j:=13) (a9:=64) rfl rfl aB rfl aY rfl;·intro oL;replace oL:=bB oL;exact Co
  intro Q3;exact g4
 intro At;apply(b9);refine U ?_ ?_<;>intro h1;·exact(dC∘YD∘p8) aDn
 have W:uG S.l f.kQ t=0:=by rw[uG,if_neg Ep,TD,if_neg Lm,if_neg D,if_neg D]
 apply e0∘lD;refine cD rfl G5 ?_;apply aHx∘dZ;intro i0;apply F0∘nJ;refine U ?_ ?_<;>intro h2;·have b2:=bJ (l:=f.data.l) (k:=0) 0 D;have O:=bJ (l:=f.data.l) (k:=1) 0 D;have a9i:=a5.at 0;have EL:=a5.at 1;apply aIY∘EA∘aGE∘aGI∘mH∘a25∘tE∘Zt;refine fP a33 rfl rfl rfl rfl ?_;apply mH∘aEd∘tE∘Zt;refine fP a35 rfl rfl rfl rfl ?_;refine rQ rfl (aUl (S.l.getD a.toNat default) _ _ _) rfl rfl ?_;rintro v E G ⟨rfl,rfl,rfl⟩;refine⟨bA,iQ,?_⟩;apply a6B∘aKr;refine g5 (a8 (bK (c2 ?_)));apply r5∘oH;refine bQ L R XY ?_;exact aDO
 apply e0∘r5∘oH;refine bQ L R XY ?_;exact aPI
def a0X(h:A->B:=by exact aI xR rfl):=h
def aIA(h:A->B:=by exact hB (T:=93) (f:=eE.cells) (aN:=4) dK [] cF bD aW fE.Au e8):=h
def Dv(g:hL)(q:bZ×Int)(L:aR)(R:aO):oK:=λv E G=>∃(y:cL) (S:aO),v=.tuple #[y.val,.int .i64 q.2]/\h3 g q.1 y/\kU y G/\L=E/\S++R=G
def MZ{g:hL}{p:bZ}{x:cL}(K:h3 g p x){t:Int}:(t<x.time\/2147483648<t)↔nU p t:=by rw[K.time,nU]
def Py.S4{x:cL}{s:eA}{h:a4 Int}{w:a4 fU}{c:a4 b8}{f:hJ}{dK:J eE}{c9:J fG}{R G:aO}(k:Py x s h w c f dK c9 R)(bO:∀r∈R,aL r G)(O:aL (gT dK.V) G)(X:aL (iI c9.V) G):kU (⟨s,x.time,h,x.eK,dK.V,w,c,f,x.aD,c9.V⟩:cL) G:=⟨k.aK.mono bO,k.held.mono bO,O,k.eG.mono bO,k.aV.mono bO,k.cU.mono bO,X⟩
def aZC(g:hL)(p:bZ)(x:cL)(t:Int)(L:aR)(R:aO)(eT:Inv g p)(K:h3 g p x)(bO:kU x R):
 aM prog 25 [x.val,.int .i64 t].toArray L R (Dv g (FC g p t) L R):=by
 refine b6 16 call25 func25 rfl rfl rfl ?_;apply(dB);intro eH;apply(dZ);intro eD;apply mO∘a0X;refine dT rfl Ob rfl ?_;rintro v E G ⟨s,h,w,c,f,dK,c9,fL,rfl,fE,rfl,rfl⟩;apply(dZ);intro i1;apply rT∘a0X∘cE;refine cD rfl (Jf x t _ _) ?_;apply(b9);refine U ?_ ?_<;>intro aQ;·refine bK ?_;apply(aIA);refine eM gD ?_;refine hB (T:=150) (f:=fG.cells) (aN:=4) c9 [] cF bD aW fE.OE e8 ?_;refine eM gD ?_;apply eB∘a0X∘p8;refine bQ L ((iI c9.V::gT dK.V::fL)++R) oC ?_;have aX:nU p t:=(MZ K).1 zR;exact⟨(⟨s,x.time,h,x.eK,dK.V,w,c,f,x.aD,c9.V⟩:cL),iI c9.V::gT dK.V::fL,by rw[FC,if_pos aX],by rw[FC,if_pos aX];exact fE.is K,fE.S4 (λr M=>aT (.tail _ (.tail _ M))) X0 mA,rfl,rfl⟩
 have aX:¬nU p t:=λh=>absurd ((MZ K).2 h) zR;have fH:=uH aX;have BW:=fE.is K;have lS:∀r∈fL++R,aL r (gT dK.V::(fL++R)):=λr M=>aT (.tail _ M);apply(aIA);refine eM gD ?_;apply(SW);refine dT rfl aRN rfl ?_;rintro v E G ⟨fO,jK,iE,q,e3,gR,eL,⟨vP,cC,vL⟩,rfl,rfl⟩;apply(j2);refine hB (T:=150) (f:=fG.cells) (aN:=4) q [] cF bD aW gR e8 ?_;refine eM gD ?_;have aU:∀r∈e3++(gT dK.V::(fL++R)),aL r ((iI q.V::(e3++(gT dK.V::fL)))++R):=λr M=>aT Xh;have cK:∀r∈fL++R,aL r ((iI q.V::(e3++(gT dK.V::fL)))++R):=λr M=>(lS r M).mono λr M=>aU r (lZ _ M);refine wK (G:=((iI q.V::(e3++(gT dK.V::fL)))++R)) (by simp only[pK,oB]) ?_;apply eB∘a0X∘oH;refine bQ L ((iI q.V::(e3++(gT dK.V::fL)))++R) oC ?_;exact⟨(⟨s,t,h,x.eK,dK.V,fO,jK,iE,(bP g p t).aD,q.V⟩:cL),iI q.V::(e3++(gT dK.V::fL)),by rw[FC,if_neg aX],by rw[FC,if_neg aX];exact eL,⟨fE.aK.mono cK,fE.held.mono cK,aU _ (lZ _ (.head _)),vP.mono aU,cC.mono aU,vL.mono aU,aT (.head _)⟩,rfl,rfl⟩
end
end Go.Proofs.YtchfclmokpbldaaGreat
