-- By an AI agent; no person has read it.
import Derived.Test.YtdiajbdaadlfhaaGreatDoorSiteD
import Derived.Test.YtdiajbdaadlfhaaGreatDoorOwn
import Derived.RangeFuncRecord
import Derived.RangeFuncSeq
set_option linter.all false
set_option maxHeartbeats 4000000
variable{A B:Prop}
namespace Go.Proofs.YtdiajbdaadlfhaaGreatDoor
open Go.Aw Go Go.Proofs.Tryz
def a0e(h:A->B:=by exact eU 12 o5 b9 aQ rfl rfl rfl rfl rfl aQD):=h
def Y1(h:A->B:=by exact m9 rfl (CS (hB:=[(0,(Value.agg _).cells.toList)]) (c9:=[_,_,_,_,_,_]) M rfl rfl rfl rfl rfl rfl rfl) rfl rfl):=h
def MB(h:A->B:=by exact m9 rfl (CS (hB:=[(0,(Value.agg _).cells.toList)]) (c9:=[_,_,_,_,_,_,_,_]) M rfl rfl rfl rfl rfl rfl rfl) rfl rfl):=h
def L5(h:A->B:=by exact m9 rfl (CS (hB:=[(0,(Value.agg _).cells.toList),(1,(Value.agg _).cells.toList)]) (c9:=[_,_]) M rfl rfl rfl rfl rfl rfl rfl) rfl rfl):=h
def X9(h:A->B:=by exact m9 rfl (R6 rfl (a6o lZ WT g6 D)) rfl rfl):=h
def YD(h:A->B:=by exact eU 6 o5 b9 aQ rfl rfl rfl rfl rfl aQT):=h
def YA(h:A->B:=by exact eU 7 o5 b9 aQ rfl rfl rfl rfl rfl (l7 (hB:=[(0,(Value.int _ _).cells.toList),(3,(Value.agg _).cells.toList)]) (c9:=[_,_,_,_,_,_]) M rfl rfl rfl rfl)):=h
def aHU(h:A->B:=by exact g2 Wz rfl):=h
def aF2(h:A->B:=by exact aA (l7 (hB:=[(0,(Value.int _ _).cells.toList),(3,(Value.bool _).cells.toList)]) (c9:=[_,_,_,_,_]) M rfl rfl rfl rfl) rfl):=h
def aEn(h:A->B:=by exact g2 aPS rfl):=h
structure cH where
 eI:Int
 fY:Int
 hQ:Int
 dZ:Bool
 dL:Bool
 deriving Inhabited,DecidableEq
def cH.cells(x:cH):List Value:=[.int .i64 x.eI,.int .i64 x.fY,.int .i64 x.hQ,.bool x.dZ,.bool x.dL]
abbrev cH.val(x:cH):Value:=.agg #[.int .i64 x.eI,.int .i64 x.fY,.int .i64 x.hQ,.bool x.dZ,.bool x.dL]
structure jG where
 b6:bP cH
 b0:bP Int
 eB:Int
def jG.cells(x:jG):List Value:=[x.b6.val,x.b0.val,.int .i64 x.eB]
abbrev jG.val(x:jG):Value:=.agg #[x.b6.val,x.b0.val,.int .i64 x.eB]
abbrev wA(x:bP cH):eT:=x.eJ 5 cH.cells []
def b6p{x:bQ}{l m:aW}(h:l.Perm m):(x::l).Perm (x::m):=h.cons x
def aN4{a x:bQ}{l m:aW}(h:(a::l).Perm m):(a::x::l).Perm (x::m):=(List.Perm.swap x a l).trans (h.cons x)
def I4{a b x:bQ}{l m:aW}(h:(a::b::l).Perm m):(a::b::x::l).Perm (x::m):=((List.Perm.swap x b l).cons a).trans (aN4 h)
def b6q{a b c x:bQ}{l m:aW}(h:(a::b::c::l).Perm m):(a::b::c::x::l).Perm (x::m):=(((List.Perm.swap x c l).cons b).cons a).trans (I4 h)
def a1a(len:Int):cR:=⟨0,1,len,4,false,false,⟨1,1⟩,⟨90000,90000⟩⟩
def MN:g0:=⟨0,1,0,0,1000,1,1000,60⟩
def Pu(rN:Int):rK:=⟨1,0,0,⟨100,60,rN⟩⟩
structure Hb(s:dY)(len rN cM:Int):Prop where
 places:s.c2.aE.places.l=[⟨0,true⟩,⟨0,true⟩]
 Z:s.c2.aE.Z.l=[a1a len]
 bD:s.c2.bD.l=[]
 a8:s.c2.a8.l=[]
 TP:s.e8.l=[MN]
 h2:s.h2.l=[Pu rN]
 eR:∃z:kJ,s.b0.l=[z]/\z.mB.l=[⟨1,0,0,0⟩]/\z.hold=cM/\z.Z.l=[0]/\z.vM=1
 bA2:s.b0.cap=1
 aBp:s.m4.l=[1,2]
 KW:(1<=len/\len<=4)/\(1<=rN/\rN<=5)/\1<=cM/\cM<=5
def QV(n:Nat):List cH:=(List.range n).map λ(i:Nat)=>⟨(i:Int)-1,0,0,true,false⟩
def aW9{n:Nat}:QV (n+1)=QV n++[⟨(n:Int)-1,0,0,true,false⟩]:=by rw[QV,a3W,CO];rfl
set_option maxRecDepth 20000
attribute [local irreducible] cO dG dP aM cI dR fA e2 e5 fB eQ e9 J.L
structure aQZ where
 fT:Nat
 eN:Nat
 e4:Nat
 fK:Nat
def aUu(c:Nat)(x:bP Int)(k:Nat)(R:aP)(K:nL x R)(Y:k<=x.l.length):
 aM prog 43 [.pointer (some ⟨c,0,none⟩)].toArray [hI c x k] R
  (λv E R'=>∃(s:dY) (len rN cM:Int) (aL:J cH) (c4:J Int) (n c3:Nat),v=.tuple #[s.val,.agg #[aL.val,c4.val,.int .i64 3]]/\Hb s len rN cM/\(aL.ok 5 cH.cells/\c4.ok 1 aR)/\(1<=n/\n<=3)/\aL.l=QV n/\c4.l=[(n:Int)-1]/\(c3<=x.l.length/\(x.l.length<=k->len=1/\rN=1/\cM=1/\n=1/\c3=k))/\(BN s R'/\∀r∈R,aN r R')/\aL.L 143 cH.cells++(c4.L 3 aR++(hI c x c3::[]))=E):=by
 refine cX 68 call43 func43 rfl rfl rfl ?_;apply(J8);intro eN;apply(dO);intro e4;apply(iG);refine aA aC6 rfl ?_;refine aA aC6 rfl ?_;refine g2 aPB rfl ?_;rintro v E R' ⟨lI,rfl,rfl,O6⟩;replace O6:=O6.symm;subst O6;refine J2 (aI:=2) (len:=2) (cap:=2) (rows:=[gL.cells ⟨0,true⟩,gL.cells ⟨0,true⟩]) (eE:=[]) rfl aX aX (λr O=>by simp only[nX,pO,or_false]at O;rcases O with rfl|rfl<;>rfl) aX rfl eW ?_;apply(iS);refine dN rfl (a6o lZ (K.mono λr h=>aU (.tail _ h)) Y D) rfl ?_;rintro v E R' ⟨s1,g8,rfl,g1,KE,g6,b2n,rfl,rfl⟩;apply CH∘CH;refine aA (l7 (hB:=[(1,(Value.int _ _).cells.toList),(2,(Value.int _ _).cells.toList),(3,(Value.int _ _).cells.toList),(6,(Value.agg _).cells.toList),(7,(Value.agg _).cells.toList)]) (c9:=[_,_,_,_,_,_,_,_,_,_]) M rfl rfl rfl rfl) rfl ?_;refine g2 aCZ rfl ?_;rintro v E R' ⟨VK,rfl,rfl,Dp⟩;replace Dp:=Dp.symm;subst Dp;refine J2 (aI:=10) (len:=1) (cap:=1) (rows:=[cR.cells (a1a s1)]) (eE:=[]) rfl aX aX (λr O=>by rw[List.mem_singleton.1 O];rfl) aX rfl eW ?_;refine aA aCY rfl ?_;apply(dO);intro dU;apply(J4);refine a5f 4 (a5f 3 ?_);obtain⟨bL,dC⟩:∃bL:bP gL,bL=⟨some ⟨lI,0,none⟩,2,[⟨0,true⟩,⟨0,true⟩]⟩:=⟨_,rfl⟩;obtain⟨F3,rA⟩:∃F3:bP cR,F3=⟨some ⟨VK,0,none⟩,1,[a1a s1]⟩:=⟨_,rfl⟩;obtain⟨jA,FJ⟩:∃jA,jA=O1 ⟨none,0,[]⟩::SJ ⟨none,0,[]⟩::F4 F3::zW bL::R:=⟨_,rfl⟩;have oP:∀r∈R,aN r jA:=λr O=>aU (by rw[FJ];exact .tail _ (.tail _ (.tail _ (.tail _ O))));have b4b:aN (zW bL) jA:=aU (by rw[FJ];exact .tail _ (.tail _ (.tail _ (.head _))));have b4D:aN (F4 F3) jA:=aU aCp;have b2D:aN (SJ ⟨none,0,[]⟩) jA:=aU a4I;have b2m:aN (O1 ⟨none,0,[]⟩) jA:=aU a4f;have WT:=K.mono oP;refine w8 (show _=jA by rw[FJ,dC,rA];rfl) ?_;refine a66 (dJ 18 13++[5]) ((⟨λg=>[(5,.pointer (some ⟨g.1.fK,0,none⟩))],λg=>⟨g.1.fK,[.slice (some ⟨lI,0,none⟩) 2 2,.slice (some ⟨VK,0,none⟩) 1 1,.slice none 0 0,.slice none 0 0,.slice (some ⟨g.1.fT,0,none⟩) 1 1,.slice (some ⟨g.1.eN,0,none⟩) 1 1,.slice none 0 0,.slice (some ⟨g.1.e4,0,none⟩) 2 2],117⟩::⟨g.1.e4,[.int .i64 1,.int .i64 2],194⟩::⟨g.1.eN,rK.cells (Pu g.2.1.1),192⟩::⟨g.1.fT,MN.cells,188⟩::⟨dU,[.slice (some ⟨lI,0,none⟩) 2 2,.slice (some ⟨VK,0,none⟩) 1 1],28⟩::⟨e4,[.slice none 0 0,.slice none 0 0,.int .i64 0],120⟩::⟨eN,[.slice none 0 0,.slice none 0 0,.slice none 0 0,.slice none 0 0,.slice none 0 0,.slice none 0 0,.slice none 0 0,.slice none 0 0],117⟩::hI c x g.2.1.2::[],λ_=>jA,λ_=>0⟩:e0 (aQZ×{g:Int×Nat//(1<=g.1/\g.1<=5)/\g.2<=x.l.length/\(x.l.length<=g8->g.1=1/\g.2=g8)}))) ?_ ?_;·
  skip
  refine RM M [] [0,1,2,4,9,10,3,5,6,7,8,11,12,13] [14] ([bQ.mk dU _ _]) [] 14 mixed aQ rfl rfl bC λo5=>?_;refine eU 0 o5 b9 aQ rfl rfl rfl rfl rfl TX ?_;refine eU 1 o5 b9 aQ rfl rfl rfl rfl rfl aC5 ?_;refine eU 2 o5 b9 aQ rfl rfl rfl rfl rfl (l7 (hB:=[(1,(Value.int _ _).cells.toList),(4,(Value.int _ _).cells.toList),(5,(Value.int _ _).cells.toList),(6,(Value.int _ _).cells.toList),(7,(Value.int _ _).cells.toList)]) (c9:=[_,_,_,_,_,_,_,_]) M rfl rfl rfl rfl) ?_;refine eU 4 o5 b9 aQ rfl rfl rfl rfl rfl (mN X2) ?_;refine eU 9 o5 b9 aQ rfl rfl rfl rfl rfl aQr ?_;refine eU 10 o5 b9 aQ rfl rfl rfl rfl rfl aQr ?_;refine iU [3,5,11,13] o5 b9 aQ ?_;refine nM ?_ ?_;·
   skip
   apply(MB);rintro v E R' ⟨zI,rfl,rfl,kW⟩;replace kW:=kW.symm;subst kW;apply(fI);refine iU [5,11,13] o5 b9 aQ ?_;refine nM ?_ ?_;·
    skip
    apply(X9);rintro v E R' ⟨oF,eK,rfl,oA,tO,j4,DP,rfl,rfl⟩;refine⟨bC,hC,?_⟩;apply YD∘YA;exact aOS
   refine nM ?_ ?_;·
    skip
    apply(L5);rintro v E R' ⟨vJ,rfl,rfl,j2⟩;replace j2:=j2.symm;subst j2;exact aOt
   apply(kC);refine m9 rfl NR rfl rfl ?_;rintro v E R' ⟨fK,rfl,rfl,lV⟩;replace lV:=lV.symm;subst lV;exact aOu
  refine nM ?_ ?_;·
   skip
   apply(X9);rintro v E R' ⟨oF,eK,rfl,oA,tO,j4,DP,rfl,rfl⟩;refine⟨bC,hC,?_⟩;apply YD∘YA;refine iU [3,8,11,13] o5 b9 aQ ?_;refine nM ?_ ?_;·
    skip
    apply(MB);rintro v E R' ⟨zI,rfl,rfl,kW⟩;replace kW:=kW.symm;subst kW;apply(fI);exact aOS
   refine nM ?_ ?_;·
    skip
    apply(Y1);rintro v E R' ⟨O0,rfl,rfl,qL⟩;replace qL:=qL.symm;subst qL;apply(fI);refine iU [3,11,13] o5 b9 aQ ?_;refine nM ?_ ?_;·
     skip
     apply(MB);rintro v E R' ⟨zI,rfl,rfl,kW⟩;replace kW:=kW.symm;subst kW;exact aPi
    refine nM ?_ ?_;·
     skip
     apply(L5);rintro v E R' ⟨vJ,rfl,rfl,j2⟩;replace j2:=j2.symm;subst j2;exact aPj
    apply(kC);refine m9 rfl NR rfl rfl ?_;rintro v E R' ⟨fK,rfl,rfl,lV⟩;replace lV:=lV.symm;subst lV;exact aPk
   refine nM ?_ ?_;·
    skip
    apply(L5);rintro v E R' ⟨vJ,rfl,rfl,j2⟩;replace j2:=j2.symm;subst j2;apply(fI);exact aOT
   apply(kC);refine m9 rfl NR rfl rfl ?_;rintro v E R' ⟨fK,rfl,rfl,lV⟩;replace lV:=lV.symm;subst lV;apply(fI);exact aOU
  refine nM ?_ ?_;·
   skip
   apply(L5);rintro v E R' ⟨vJ,rfl,rfl,j2⟩;replace j2:=j2.symm;subst j2;apply(fI);refine iU [3,5,13] o5 b9 aQ ?_;refine nM ?_ ?_;·
    skip
    apply(MB);rintro v E R' ⟨zI,rfl,rfl,kW⟩;replace kW:=kW.symm;subst kW;exact aOt
   refine nM ?_ ?_;·
    skip
    apply(X9);rintro v E R' ⟨oF,eK,rfl,oA,tO,j4,DP,rfl,rfl⟩;refine⟨bC,hC,?_⟩;apply YD∘YA;exact aOT
   apply(kC);refine m9 rfl NR rfl rfl ?_;rintro v E R' ⟨fK,rfl,rfl,lV⟩;replace lV:=lV.symm;subst lV;exact aO1
  apply(kC);refine m9 rfl NR rfl rfl ?_;rintro v E R' ⟨fK,rfl,rfl,lV⟩;replace lV:=lV.symm;subst lV;apply(fI);refine iU [3,5,11] o5 b9 aQ ?_;refine nM ?_ ?_;·
   skip
   apply(MB);rintro v E R' ⟨zI,rfl,rfl,kW⟩;replace kW:=kW.symm;subst kW;exact aOu
  refine nM ?_ ?_;·
   skip
   apply(X9);rintro v E R' ⟨oF,eK,rfl,oA,tO,j4,DP,rfl,rfl⟩;refine⟨bC,hC,?_⟩;apply YD∘YA;exact aOU
  apply kC∘L5;rintro v E R' ⟨vJ,rfl,rfl,j2⟩;replace j2:=j2.symm;subst j2;exact aO1
 rintro⟨⟨zI,O0,vJ,fK⟩,⟨⟨oF,eK⟩,⟨oA,tO⟩,j4,DP⟩⟩ c1;try dsimp only
 dsimp only at oA tO j4 DP;refine Oy (A:=[_]) (aI:=1) (len:=2) (cap:=2) (rows:=[aR 1,aR 2]) (eE:=[]) rfl aX aX (λr O=>by simp only[nX,pO,or_false]at O;rcases O with rfl|rfl<;>rfl) aX rfl eW ?_;apply(DX);refine Oy (A:=[_]) (aI:=6) (len:=1) (cap:=1) (rows:=[rK.cells (Pu oF)]) (eE:=[]) rfl aX aX (λr O=>by rw[List.mem_singleton.1 O];rfl) aX rfl eW ?_;apply(DX);refine Oy (A:=[_]) (aI:=8) (len:=1) (cap:=1) (rows:=[g0.cells MN]) (eE:=[]) rfl aX aX (λr O=>by rw[List.mem_singleton.1 O];rfl) aX rfl eW ?_;apply(DX);obtain⟨Me,KM⟩:∃Me:bP g0,Me=⟨some ⟨zI,0,none⟩,1,[MN]⟩:=⟨_,rfl⟩;obtain⟨Ju,MT⟩:∃Ju:bP rK,Ju=⟨some ⟨O0,0,none⟩,1,[Pu oF]⟩:=⟨_,rfl⟩;obtain⟨ps,tS⟩:∃ps:bP Int,ps=⟨some ⟨vJ,0,none⟩,2,[1,2]⟩:=⟨_,rfl⟩;obtain⟨hE,wP⟩:∃hE,hE=L0 Me::Jk Ju::dW ps::jA:=⟨_,rfl⟩;have nG:∀r∈jA,aN r hE:=λr O=>aU (by rw[wP];exact .tail _ (.tail _ (.tail _ O)));have b4L:aN (L0 Me) hE:=aU Xe;have b18:aN (Jk Ju) hE:=aU a4J;have b4f:aN (dW ps) hE:=aU aCq;have CB:=WT.mono nG;refine w8 (show _=hE by rw[wP,KM,MT,tS];rfl) ?_;apply(eV);refine aA aP5 rfl ?_;apply(aHU);rintro v E R' ⟨IJ,rfl,rfl,G6⟩;replace G6:=G6.symm;subst G6;refine J2 (aI:=4) (len:=1) (cap:=1) (rows:=[kQ.cells ⟨1,0,0,0⟩]) (eE:=[]) rfl aX aX (λr O=>by rw[List.mem_singleton.1 O];rfl) aX rfl eW ?_;apply(iS);refine dN rfl (a6o lZ (CB.mono λr h=>aU (.tail _ h)) j4 D) rfl ?_;rintro v E R' ⟨CM,mJ,rfl,g3,VT,wR,b2o,rfl,rfl⟩;apply(w1);rintro v E R' ⟨a8c,rfl,rfl,a8X⟩;replace a8X:=a8X.symm;subst a8X;refine J2 (aI:=1) (len:=1) (cap:=1) (rows:=[aR 0]) (eE:=[]) rfl aX aX (λr O=>by rw[List.mem_singleton.1 O];rfl) aX rfl eW ?_;refine aA (l7 (hB:=[(0,(Value.slice _ _ _).cells.toList),(1,(Value.int _ _).cells.toList),(2,(Value.slice _ _ _).cells.toList),(3,(Value.int _ _).cells.toList)]) (c9:=[_,_,_,_]) M rfl rfl rfl rfl) rfl ?_;apply(aHU);rintro v E R' ⟨MG,rfl,rfl,G7⟩;replace G7:=G7.symm;subst G7;refine J2 (aI:=4) (len:=1) (cap:=1) (rows:=[kJ.cells ⟨⟨some ⟨IJ,0,none⟩,1,[⟨1,0,0,0⟩]⟩,CM,⟨some ⟨a8c,0,none⟩,1,[0]⟩,1⟩]) (eE:=kJ.eE ⟨⟨some ⟨IJ,0,none⟩,1,[⟨1,0,0,0⟩]⟩,CM,⟨some ⟨a8c,0,none⟩,1,[0]⟩,1⟩) rfl aX aX (λr O=>by rw[List.mem_singleton.1 O];rfl) aX rfl (λs aF=>by simp only[nX,pO,or_false]at aF;rcases aF with rfl|rfl;exact aU (.tail _ (.head _));exact aU (.head _)) ?_;apply q6∘j6;obtain⟨c4,KO⟩:∃c4:kJ,c4=⟨⟨some ⟨IJ,0,none⟩,1,[⟨1,0,0,0⟩]⟩,CM,⟨some ⟨a8c,0,none⟩,1,[0]⟩,1⟩:=⟨_,rfl⟩;obtain⟨TY,CD⟩:∃TY:bP kJ,TY=⟨some ⟨MG,0,none⟩,1,[c4]⟩:=⟨_,rfl⟩;obtain⟨oL,DL⟩:∃oL,oL=VJ TY::dW c4.Z::RO c4.mB::hE:=⟨_,rfl⟩;have G5:∀r∈hE,aN r oL:=λr O=>aU (by rw[DL];exact .tail _ (.tail _ (.tail _ O)));have b5u:aN (VJ TY) oL:=aU (by rw[DL];exact .head _);have aAT:=CB.mono G5;refine w8 (show _=oL by rw[DL,CD,KO];rfl) ?_;apply e1∘w1;rintro v E R' ⟨VL,rfl,rfl,Du⟩;replace Du:=Du.symm;subst Du;apply aF2∘aEn;rintro v E R' ⟨a8e,rfl,rfl,PD⟩;replace PD:=PD.symm;subst PD;refine aA (l7 (hB:=[(2,(Value.int _ _).cells.toList),(1,(Value.slice _ _ _).cells.toList),(0,(Value.slice _ _ _).cells.toList)]) (c9:=[_,_,_]) M rfl rfl rfl rfl) rfl ?_;apply(dO);intro jN;apply uI∘iS;refine dN rfl (aRg lZ aAT wR D) rfl ?_;rintro v E R' ⟨Fp,h8,rfl,g4,VU,b8r,zO,b2p,rfl,rfl⟩;have b8s:=VU D;apply(pR);refine e3 [(2,.pointer _),(3,.pointer _),(5,.pointer _),(6,.pointer _),(7,.int _ _)] cB λg9=>?_;refine oM ([7]++dJ 45 21) ((⟨λg=>[(7,.int .i64 g.1.1)],λg=>⟨jN,[g.1.2.1.val,.slice (some ⟨VL,0,none⟩) 1 1,.int .i64 3],120⟩::(g.1.2.1.L 143 cH.cells++((⟨.own VL 1 [],g.1.2.2⟩:J Int).L 3 aR++(⟨fK,[.slice (some ⟨lI,0,none⟩) 2 2,.slice (some ⟨VK,0,none⟩) 1 1,.slice none 0 0,.slice none 0 0,.slice (some ⟨zI,0,none⟩) 1 1,.slice (some ⟨O0,0,none⟩) 1 1,.slice (some ⟨MG,0,none⟩) 1 1,.slice (some ⟨vJ,0,none⟩) 2 2],117⟩::⟨dU,[.slice (some ⟨lI,0,none⟩) 2 2,.slice (some ⟨VK,0,none⟩) 1 1],28⟩::⟨e4,[.slice none 0 0,.slice none 0 0,.int .i64 0],120⟩::⟨eN,[.slice none 0 0,.slice none 0 0,.slice none 0 0,.slice none 0 0,.slice none 0 0,.slice none 0 0,.slice none 0 0,.slice none 0 0],117⟩::hI c x h8::[]))),λ_=>oL,λg=>g.1.1.toNat⟩:e0 {g:Int×J cH×List Int//(0<=g.1/\(g.2.1.l.length:Int)+g.1=1+Fp/\1<=g.2.1.l.length)/\g.2.1.ok 5 cH.cells/\g.2.1.l=QV g.2.1.l.length/\g.2.2=[(g.2.1.l.length:Int)-1]})) (⟨(Fp,(⟨.own a8e 1 [],[⟨-1,0,0,true,false⟩]⟩:J cH),[0]),by dsimp only[List.length_cons,List.length_nil];omega,Dc bH rfl aX,rfl,rfl⟩) cB (by dsimp only;rw[<-Qm (f:=cH.cells) (n:=1) [⟨-1,0,0,true,false⟩] rfl,<-Qm (f:=aR) (n:=1) [0] rfl];exact oU _) eX ?_;rintro⟨⟨n,aL,BI⟩,bA,wT,qB,vT⟩ c1;try dsimp only
 dsimp only at bA wT qB vT;apply nR∘y8;refine aJ ?_ ?_<;>intro bI;·
  apply jK∘gB∘jM∘oD∘aF2∘aEn;rintro v E R' ⟨b77,rfl,rfl,a84⟩;replace a84:=a84.symm;subst a84;refine g2 (jZ (f:=cH.cells) (p:=aL) (a:=⟨(aL.l.length:Int)-1,0,0,true,false⟩) M rfl rfl rfl rfl (wT) cL j8 rfl kG) rfl ?_;rintro v E R' ⟨b6b,rfl,b3K,rfl,rfl⟩;apply q6∘dD;have aMh:(aL.l++[(⟨(aL.l.length:Int)-1,0,0,true,false⟩:cH)]).length=aL.l.length+1:=by simp
  have bAp:BI.length=1:=by rw[vT];rfl
  have aAX:BI[0]?=some ((aL.l.length:Int)-1):=by rw[vT];rfl
  have Lo:(⟨.own VL 1 [],BI⟩:J Int).ok 1 aR:=by rw[vT];exact Dc E3 rfl aX
  apply e1∘gB∘jM;refine aA (aJ1 rfl rfl kM kM) rfl ?_;refine aA (iV M ((⟨.own VL 1 [],BI⟩:J Int)) _ rfl rfl (by rw[vT];rfl) rfl bS (i:=0) c7 iY) rfl ?_;refine mO (mV M ((⟨.own VL 1 [],BI⟩:J Int)) (((aL.l++[(⟨(aL.l.length:Int)-1,0,0,true,false⟩:cH)]).length:Int)-1) rfl rfl rfl rfl cL bS bH bS aX aK aK) ?_;rintro v E R' ⟨rfl,rfl⟩;apply XE∘GO;exact eG ⟨(n-1,(⟨b6b,aL.l++[⟨(aL.l.length:Int)-1,0,0,true,false⟩]⟩:J cH),BI.set 0 (((aL.l++[(⟨(aL.l.length:Int)-1,0,0,true,false⟩:cH)]).length:Int)-1)),by dsimp only;rw[aMh];omega,b3K,by dsimp only;rw[aMh,aW9,<-qB],by dsimp only;rw[vT];rfl⟩
 apply(ND);refine jV M [67] [0,1] [2,3] ([bQ.mk jN _ _,bQ.mk fK _ _]) _ mixed aQ bC (by(repeat(first|apply List.Sublist.cons (a:=bQ.mk eN _ _)|apply List.Sublist.cons (a:=bQ.mk e4 _ _)|apply List.Sublist.cons_cons));exact oU _) ?_;refine fE EC rfl rfl rfl rfl ?_;refine p4 qW rfl rfl rfl rfl ?_;apply FB∘uY;refine jI (bY (mE ?_));refine cF (aL.L 143 cH.cells++((⟨.own VL 1 [],BI⟩:J Int).L 3 aR++(hI c x h8::[]))) oL (tD rfl (UB (row:=[_,_,_,_,_,_,_,_]) M rfl rfl rfl mC aK aK) XX) ?_;have Lo:(⟨.own VL 1 [],BI⟩:J Int).ok 1 aR:=by rw[vT];exact Dc E3 rfl aX
 have Vz:∀r∈jA,aN r oL:=λr O=>(nG r O).mono G5;refine⟨⟨⟨⟨bL,F3⟩,⟨none,0,[]⟩,⟨none,0,[]⟩⟩,Me,Ju,TY,ps⟩,s1,oF,CM,aL,⟨.own VL 1 [],BI⟩,aL.l.length,h8,?_,⟨by rw[dC],by rw[rA],rfl,rfl,by rw[KM],by rw[MT],⟨c4,by rw[CD],by rw[KO],by rw[KO],by rw[KO],by rw[KO]⟩,by rw[CD],by rw[tS],by omega⟩,⟨wT,Lo⟩,by omega,qB,vT,⟨zO,λh=>by have vW:=b2n h;have gP:=DP D;have qR:=b2o D;have Vm:=b2p D;omega⟩,⟨⟨⟨b4b.mono Vz,b4D.mono Vz,b2D.mono Vz,b2m.mono Vz⟩,b4L.mono G5,b18.mono G5,b5u,b4f.mono G5⟩,λr O=>(oP r O).mono Vz⟩,rfl⟩;rw[dC,rA,KM,MT,CD,tS,vT];rfl
end Go.Proofs.YtdiajbdaadlfhaaGreatDoor
namespace Go.Proofs.YtdiajbdaadlfhaaGreatDoor
open Go.Aw Go Go.Proofs.Tryz
section
attribute [local irreducible] cO dG dP aM cI dR fA e2 e5 fB eQ e9 J.L
def aH3(h:A->B:=by exact aA (iV M ((⟨.own Js f.b6.l.length [],q⟩:J Bool)) _ rfl rfl ((show _=Value.slice _ _ _ from rfl).trans (u7 eZ)) rfl bS (i:=(f.b0.l.getD i 0).toNat) c7 iY) rfl):=h
structure pY(f:jG)(R:aP):Prop where
 aL:aN (wA f.b6) R
 c4:aN (dW f.b0) R
def pY.mono{f:jG}{R R':aP}(h:pY f R)(k:∀r∈R,aN r R'):pY f R':=⟨h.aL.mono k,h.c4.mono k⟩
def y2(l:List cH)(i:Nat):Option Int:=
 if(l.getD i default).eI< -1\/(i:Int)<=(l.getD i default).eI then some 16
 else if(l.getD i default).fY<0\/2147483648<(l.getD i default).fY then some 8
 else if((l.getD i default).hQ< -1\/1<(l.getD i default).hQ)\/(l.getD i default).dL=true/\((l.getD i default).dZ=true\/(l.getD i default).hQ= -1)then some 10 else none
def EK(n:Nat)(z:List Int)(i:Nat):Option Int:=
 if z.getD i 0<0\/(n:Int)<=z.getD i 0 then some 16 else if∃k:Nat,k<i/\z.getD k 0=z.getD i 0 then some 17 else none
def lA(aL:List cH)(c4:List Int)(cV:Int):Int:=
 if 32<aL.length\/16<c4.length then 2
 else match(List.range aL.length).findSome? (y2 aL)with
  |some e=>e
  |none=>match(List.range c4.length).findSome? (EK aL.length c4)with
   |some e=>e
   |none=>if cV<1\/100000<cV then 1 else 0
def Qa{aL:List cH}{c4:List Int}{cV e:Int}(bV:¬(32<aL.length\/16<c4.length))(h:(List.range aL.length).findSome? (y2 aL)=some e):lA aL c4 cV=e:=by rw[lA,if_neg bV,h]
def a7X{aL:List cH}{c4:List Int}{cV e:Int}(bV:¬(32<aL.length\/16<c4.length))(G:(List.range aL.length).findSome? (y2 aL)=none)(h:(List.range c4.length).findSome? (EK aL.length c4)=some e):lA aL c4 cV=e:=by rw[lA,if_neg bV,G,h]
def a1w{aL:List cH}{c4:List Int}{cV:Int}(bV:¬(32<aL.length\/16<c4.length))(G:(List.range aL.length).findSome? (y2 aL)=none)(U:(List.range c4.length).findSome? (EK aL.length c4)=none):lA aL c4 cV=if cV<1\/100000<cV then 1 else 0:=by rw[lA,if_neg bV,G,U]
def aJ5{l:List cH}{i:Nat}{x:cH}(K:x=l.getD i default)(G:¬(x.eI< -1\/(i:Int)<=x.eI))(U:¬(x.fY<0\/2147483648<x.fY))(aO:¬((x.hQ< -1\/1<x.hQ)\/x.dL=true/\(x.dZ=true\/x.hQ= -1))):y2 l i=none:=by rw[y2,<-K,if_neg G,if_neg U,if_neg aO]
def aZL{l:List cH}{i:Nat}{x:cH}(K:x=l.getD i default)(G:x.eI< -1\/(i:Int)<=x.eI):y2 l i=some 16:=by rw[y2,<-K,if_pos G]
def aXz{l:List cH}{i:Nat}{x:cH}(K:x=l.getD i default)(G:¬(x.eI< -1\/(i:Int)<=x.eI))(U:x.fY<0\/2147483648<x.fY):y2 l i=some 8:=by rw[y2,<-K,if_neg G,if_pos U]
def aX8{l:List cH}{i:Nat}{x:cH}(K:x=l.getD i default)(G:¬(x.eI< -1\/(i:Int)<=x.eI))(U:¬(x.fY<0\/2147483648<x.fY))(aO:(x.hQ< -1\/1<x.hQ)\/x.dL=true/\(x.dZ=true\/x.hQ= -1)):y2 l i=some 10:=by rw[y2,<-K,if_neg G,if_neg U,if_pos aO]
def aYT{n:Nat}{z:List Int}{i:Nat}(h:z.getD i 0<0\/(n:Int)<=z.getD i 0):EK n z i=some 16:=by rw[EK,if_pos h]
def aXH{n:Nat}{z:List Int}{i:Nat}(h:¬(z.getD i 0<0\/(n:Int)<=z.getD i 0))(U:∃k:Nat,k<i/\z.getD k 0=z.getD i 0):EK n z i=some 17:=by rw[EK,if_neg h,if_pos U]
def aEX{n:Nat}{z:List Int}{i:Nat}(h:¬(z.getD i 0<0\/(n:Int)<=z.getD i 0))(U:¬∃k:Nat,k<i/\z.getD k 0=z.getD i 0):EK n z i=none:=by rw[EK,if_neg h,if_neg U]
structure Ca(n:Nat)(z:List Int)(i:Nat)(l:List Bool):Prop where
 len:l.length=n
 qC:∀j:Nat,j<n->(l.getD j false=true↔∃k:Nat,k<i/\z.getD k 0=(j:Int))
def Ca.zero{n:Nat}{z:List Int}:Ca n z 0 (List.replicate n false):=⟨by simp,λj a6=>by
 rw[lN,K5,if_pos a6]
 exact⟨λh=>BF,λ⟨k,Y,_⟩=>D⟩⟩
def Ca.next{n:Nat}{z:List Int}{i:Nat}{l:List Bool}(h:Ca n z i l)(bV:0<=z.getD i 0/\z.getD i 0<n):Ca n z (i+1) (l.set (z.getD i 0).toNat true):=by
 have aZ:=h.len;refine⟨by simp[aZ],λj a6=>?_⟩;rw[lN,I9];split;·rename_i e;rw[if_pos D];exact⟨λ_=>⟨i,by omega,by omega⟩,λ_=>rfl⟩
 ·
  rename_i e;have:=h.qC j a6;rw[lN]at this;rw[this];constructor;·rintro⟨k,g8,eK⟩;exact⟨k,by omega,eK⟩
  ·
   rintro⟨k,g8,eK⟩;rcases gX k i with Y|Y;·exact⟨k,Y,eK⟩
   ·(obtain rfl:k=i:=by omega);omega
def Dd(f:jG)(L:aW)(R:aP)(aH:pY f R):
 aM prog 79 [f.val].toArray L R (λv E R'=>v=.int .i64 (lA f.b6.l f.b0.l f.eB)/\L=E/\R=R'):=by
 have pK:=aH.aL;have FW:=aH.c4;refine Bw call79 pK λG9=>?_;refine Bw call79 FW λb8Z=>?_;refine cX 101 call79 func79 rfl rfl rfl ?_;apply(fC);intro fT;apply kB∘Ix∘fD;apply dT (aD:=[_,_,_,_]) (j:=4) (b4:=12) rfl rfl aK rfl b2 rfl;·exact Wr
 intro DU;apply(dD);refine aJ ?_ ?_<;>intro bI;·apply(uJ);refine eL L R ?_;exact⟨by rw[lA,if_pos D],rfl,rfl⟩
 have bV:¬(32<f.b6.l.length\/16<f.b0.l.length):=by omega
 apply(LS);refine e3 [(1,.pointer _),(19,.slice _ _ _),(20,.int _ _),(21,.int _ _)] cB λg9=>?_;refine lF ([2,3,4]++dJ 21 44) (λg:X7 (y2 f.b6.l) (f.b6.l.length)=>[(21,.int .i64 ((g.1:Nat):Int))]) (λg=>(f.b6.l.length)-g.1) ⟨0,UN _ _⟩ ?_;rintro⟨jJ,SW,i1⟩ c1;try dsimp only
 apply(gU);refine aJ ?_ ?_<;>intro cK;·
  have I1:=bR (l:=f.b6.l) (k:=jJ) default D;obtain⟨x,K⟩:∃x,x=f.b6.l.getD jJ default:=⟨_,rfl⟩;rw[<-K]at I1;apply(nC);refine aA Nq rfl ?_;apply Ma∘dO;intro dU;apply eA∘uI∘AK;apply dT (aD:=[_,_,_,_]) (j:=3) (b4:=29) rfl rfl aK rfl b2 rfl;·exact aBQ
  intro m2;apply(dD);refine aJ ?_ ?_<;>intro dE;·apply(OE);refine eL L R ?_;exact⟨by rw[Qa bV (GU i1 D (aZL K D))],rfl,rfl⟩
  apply k5∘AK;apply dT (aD:=[_,_,_]) (j:=3) (b4:=38) rfl rfl aK rfl b2 rfl;·exact QG
  intro m2;apply(dD);refine aJ ?_ ?_<;>intro gZ;·apply(OE);refine eL L R ?_;exact⟨by rw[Qa bV (GU i1 D (aXz K D D))],rfl,rfl⟩
  apply gI∘AK;apply dT (aD:=[_,_,_]) (j:=3) (b4:=46) rfl rfl aK rfl b2 rfl;·exact QG
  intro m2;apply(fD);apply dT (aD:=[_,_,_,_,_,_,_,_,_,_,_]) (j:=8) (b4:=51) rfl rfl aK rfl b2 rfl;·
   intro h7;replace h7:=cP h7;apply gB∘fD;apply lR (aD:=[_,_,_,_,_,_,_]) (j:=11) (b4:=54) rfl rfl aK rfl b2 rfl;·
    intro MV;replace MV:=cP MV;apply gB∘fD;apply dT (aD:=[_,_,_]) (j:=14) (b4:=57) rfl rfl aK rfl b2 rfl;·intro vQ;replace vQ:=cP vQ;exact(a6X) iA
    intro Fi;exact iA
   intro aA4;exact iA
  intro zV;apply(dD);refine aJ ?_ ?_<;>intro fW;·apply(GP);refine eL L R ?_;exact⟨by rw[Qa bV (GU i1 D (aX8 K D D Xb))],rfl,rfl⟩
  apply(k9);exact eG ⟨jJ+1,OY i1 D (aJ5 K D D (by cases aZ:x.dL<;>simp[aZ]at fW|- <;>first|exact fW|omega))⟩
 have uT:=QU i1 D;apply oS∘jM∘D1;rintro v E R' ⟨Js,rfl,rfl,a87⟩;replace a87:=a87.symm;subst a87;apply r2∘pE;refine e3 [(1,.pointer _),(5,.slice _ _ _),(70,.slice _ _ _),(71,.int _ _),(72,.int _ _)] cB λs4=>?_;refine e7 Nb ?_;refine m6 ([2,7]++dJ 72 21) ((⟨λg=>[(72,.int .i64 ((g.1.1:Nat):Int))],λg=>(⟨.own Js f.b6.l.length [],g.1.2⟩:J Bool).L 4 l1++(⟨fT,f.cells,120⟩::L),λ_=>R,λg=>f.b0.l.length-g.1.1⟩:e0 {g:Nat×List Bool//(g.1<=f.b0.l.length/\(List.range f.b0.l.length).findSome? (EK f.b6.l.length f.b0.l)=((List.range f.b0.l.length).drop g.1).findSome? (EK f.b6.l.length f.b0.l))/\Ca f.b6.l.length f.b0.l g.1 g.2})) (⟨(0,List.replicate f.b6.l.length false),UN _ _,Ca.zero⟩) ?_;rintro⟨⟨i,q⟩,⟨aB,aG⟩,bZ⟩ c1;try dsimp only
 dsimp only at aB aG bZ;have eZ:=bZ.len;have g7:(⟨.own Js f.b6.l.length [],q⟩:J Bool).ok 1 l1:=by have:=BT (f:=l1) (aI:=1) (b:=Js) (n:=f.b6.l.length) (x:=false) HX BE;exact J.tU HX this (by simp;exact eZ)
 apply(gU);refine aJ ?_ ?_<;>intro lJ;·
  have CC:=bR (l:=f.b0.l) (k:=i) 0 D;apply(jK);refine aA Xk rfl ?_;apply kY∘FA∘q5;apply dT (aD:=[_,_,_,_,_]) (j:=2) (b4:=78) rfl rfl aK rfl b2 rfl;·exact a4h
  intro o7;apply(dD);refine aJ ?_ ?_<;>intro kK;·apply(OE);refine eL L R ?_;exact⟨by rw[a7X bV uT (GU aG D (aYT D))],rfl,rfl⟩
  have a18:=bR (l:=q) (k:=(f.b0.l.getD i 0).toNat) false D;have a9o:=bZ.qC (f.b0.l.getD i 0).toNat D;have b1Y:(((f.b0.l.getD i 0).toNat:Nat):Int)=f.b0.l.getD i 0:=by omega
  rw[b1Y]at a9o;apply k5∘k2∘aH3;refine aA (rX M ((⟨.own Js f.b6.l.length [],q⟩:J Bool)) rfl rfl rfl cL bS bH bS aK) rfl ?_;apply(dD);refine aJ ?_ ?_<;>intro qM;·apply(OE);refine eL L R ?_;exact⟨by rw[a7X bV uT (GU aG D (aXH D (a9o.1 (by simpa using qM))))],rfl,rfl⟩
  refine gG (bY (dM ?_));apply k2∘aH3;refine mO (mV M ((⟨.own Js f.b6.l.length [],q⟩:J Bool)) (true) rfl rfl rfl rfl cL bS bH bS aX aK aK) ?_;rintro v E R' ⟨rfl,rfl⟩;apply(tF);exact eG ⟨(i+1,q.set (f.b0.l.getD i 0).toNat true),OY aG D (aEX D (λh=>by rw[a9o.2 h]at qM;cases qM)),bZ.next D⟩
 have aMp:=QU aG D;apply D2∘AK;apply dT (aD:=[_,_,_]) (j:=3) (b4:=96) rfl rfl aK rfl b2 rfl;·exact QG
 intro m2;apply(dD);refine aJ ?_ ?_<;>intro MR;·apply(uJ);refine eL L R ?_;exact⟨by rw[a1w bV uT aMp,if_pos D],rfl,rfl⟩
 apply(Rb);refine eL L R ?_;exact⟨by rw[a1w bV uT aMp,if_neg D],rfl,rfl⟩
end
end Go.Proofs.YtdiajbdaadlfhaaGreatDoor
/-
  Rounds of a range over a function: the regions of a round's frame, from the walks of plain regions; what a turn of the loop's record leaves alone. No program is named here. By an AI agent; no person has read it.
-/
namespace Go.Aw
open Go
def aZK{P:Program}{o:Oper}{l m:Nat}{a:Act}{next aNm:Act->World->Prop}{Q:Exit->Act->World->Prop}(bA:∀a w,next a w->aNm a w):
 ∀r,o.upon P a next Q r->o.uponIn (Fence.wide.inRound l) m P a aNm Q r:=by
 intro r h;cases r with
 |ok x w'=>
  cases x with
  |value v=>exact bA _ _ h
  |skip=>exact bA _ _ h
  |defer d=>exact bA _ _ h
  |enter f args=>
   refine⟨λh=>BF,?_⟩;have G:CallsIn Fence.wide (m-1) P f args w' _:=callsIn_wide.2 h;refine CallsIn.mono (F:=Fence.wide.inRound l) (show CallsIn (Fence.wide.inRound l) (m-1) P f args w' _ from G) ?_;intro e Wa V;cases e with
   |returned v=>exact bA _ _ V
   |panicked c=>exact V
   |outgrown=>exact V
  |row row args=>refine⟨λh=>BF,λc cs O=>?_⟩;obtain⟨v,Wa,cS,aF⟩:=h c cs;exact⟨v,Wa,bA _ _ cS,stepsIn_wide.2 aF⟩
  |_=>exact h.elim
 |halt e w'=>
  cases e with
  |panic v=>exact h
  |_=>exact h.elim
def aFS{P:Program}{all:Array Oper}{l m:Nat}{Q:Exit->Act->World->Prop}(G3:¬LetsOut Q):
 ∀(ops:List Oper),(∀o∈ops,∀c,o.op≠.defer c)->∀a w,wpList P all Q ops a w->wpListIn (Fence.wide.inRound l) m P all Q ops a w
 |[],_,a,w,h=>h
 |o::ops,a7,a,w,h=>by
  have cA:=aFS (P:=P) (all:=all) (l:=l) (m:=m) G3 ops (λo cM=>a7 o (K6 _ cM))
  unfold wpList at h
  unfold wpListIn
  by_cases cE:Region.wanted o (yielded all a.tmps)=true
  ·rw[if_pos cE]at h|-
   rcases h with h|h
   ·refine⟨λ_ _=>trivial, ?_⟩
    rw[Oper.semAt_eq _ _ _ (a7 o Gs)]
    exact aZK cA _ h
   ·exact absurd h.2 G3
  ·rw[if_neg cE]at h|-
   exact⟨λ_ _=>trivial,cA _ _ h⟩
def c5.Sr{fZ:World}{cQ:aW}{aD:Nat->Prop}{R:aP}{E:aW}{R':aP}{iE:World}(bF:Holds cQ aD R fZ)(h:c5 ⟨fZ,wU cQ,aD⟩ E R' iE):Holds E aD R iE:=by
 obtain⟨⟨EH,oQ,bE⟩,cM,Y⟩:=h;have lW:∀b,aD b->iE.heap[b]?=fZ.heap[b]?:=λb aT=>Y.block b (bF.nT b aT) (λ⟨e,V,V1⟩=>bF.pT e V (V1▸aT));refine⟨oQ.lC,oQ.own,λe V mH=>?_,λb aT=>Gr (bF.nT b aT) Y.size,λr O=>(bF.nH r O).mono (λ_ h=>h) lW⟩;rcases cM e V with⟨r7,uR,aT⟩|G;·exact bF.pT r7 uR (aT▸mH)
 ·exact absurd (bF.nT _ mH) (Nat.not_lt.2 G)
def c5.aZ7{fZ:World}{cQ:aW}{aD:Nat->Prop}{R:aP}{E:aW}{R':aP}{iE:World}(bF:Holds cQ aD R fZ)(h:c5 ⟨fZ,wU cQ,aD⟩ E R' iE):c5 ⟨fZ,wU cQ,aD⟩ E R iE:=
 ⟨⟨aD,h.Sr bF,λ_ aT=>.inl aT⟩,h.own,h.HK⟩
def EU(o:Obj):Prop:=(∀c t f,o≠.cells c t f)/\∀es lU,o≠.map es lU
def EU.bt{o:Obj}(h:EU o){cs:List Value}{T:QI}:o≠T.FZ cs:=by
 cases T with
 |ty t=>exact h.1 _ _ _
 |mp es lU=>exact h.2 _ _
def c5.put{fZ:World}{cQ:aW}{aD:Nat->Prop}{R E iE}{l:Nat}{o o':Obj}(bF:Holds cQ aD R fZ)(h:c5 ⟨fZ,wU cQ,aD⟩ E R iE)(cM:iE.heap[l]?=some o)(bA:EU o)(KJ:EU o')(aZ:fZ.heap.size<=l):c5 ⟨fZ,wU cQ,aD⟩ E R (iE.putObj l o'):=by
 have aH:=h.Sr bF;have Y:=h.HK;have jT:l<iE.heap.size:=(Array.getElem?_eq_some_iff.1 cM).1;have ne:∀e∈E,e.b≠l:=λe V aT=>by have:=aH.own e V;rw[aT,cM]at this;exact bA.bt (uA this)
 refine⟨⟨aD,⟨aH.lC,λe V=>(World.putObj_heap_other (ne e V)).trans (aH.own e V),aH.pT,λb aT=>by rw[World.putObj_size];exact aH.nT b aT,λr O=>(aH.nH r O).mono (λ_ h=>h) λb aT=>World.putObj_heap_other (by have:=bF.nT b aT;omega)⟩,λ_ aT=>.inl aT⟩,h.own,?_⟩;refine⟨Y.os,Y.tape,Y.output,by rw[World.putObj_size];exact Y.size,λb aT DR=>(World.putObj_heap_other (by have:b<fZ.heap.size:=aT;omega)).trans (Y.block b aT DR)⟩
structure s7(fZ:World)(cQ:aW)(aD:Nat->Prop)(R:aP)(oK:Nat)(qQ F0:Obj)(E:aW)(iE:World):Prop where
 eM:c5 ⟨fZ,wU cQ,aD⟩ E R iE
 Jx:iE.heap[oK]?=some qQ
 TC:iE.heap[oK+1]?=some F0
def aGm{L aD R iE}{l:Nat}{o:Obj}(aH:Holds L aD R iE)(cM:iE.heap[l]?=some o)(bA:EU o):¬wU L l:=by rintro⟨e,V,aT⟩;have:=aH.own e V;rw[aT,cM]at this;exact bA.bt (uA this)
def s7.step{fZ:World}{cQ:aW}{aD:Nat->Prop}{R:aP}{oK:Nat}{qQ F0:Obj}{E:aW}{iE:World}(bF:Holds cQ aD R fZ)(a7:EU qQ)(aZ:EU F0)(h:s7 fZ cQ aD R oK qQ F0 E iE){hA:aW}{uD:aP}{yB:World}(k:c5 ⟨iE,wU E,aD⟩ hA uD yB):s7 fZ cQ aD R oK qQ F0 hA yB:=by have aH:=h.eM.Sr bF;have s:=c5.trans h.eM (aD:=aD) (λb aT=>.inl aT) k;exact⟨s.aZ7 bF,(k.HK.block oK (Array.getElem?_eq_some_iff.1 h.Jx).1 (aGm aH h.Jx a7)).trans h.Jx,(k.HK.block (oK+1) (Array.getElem?_eq_some_iff.1 h.TC).1 (aGm aH h.TC aZ)).trans h.TC⟩
def s7.put{fZ:World}{cQ:aW}{aD:Nat->Prop}{R:aP}{oK:Nat}{qQ F0 a3n:Obj}{E:aW}{iE:World}(bF:Holds cQ aD R fZ)(h0:fZ.heap.size<=oK)(aZ:EU F0)(aMd:EU a3n)(h:s7 fZ cQ aD R oK qQ F0 E iE):s7 fZ cQ aD R oK qQ a3n E (iE.putObj (oK+1) a3n):=
 ⟨h.eM.put bF h.TC aZ aMd D,(World.putObj_heap_other D).trans h.Jx,World.putObj_heap_same (Array.getElem?_eq_some_iff.1 h.TC).1⟩
def s7.round{fZ:World}{cQ:aW}{aD:Nat->Prop}{R:aP}{oK:Nat}{qQ F0:Obj}{E:aW}{iE:World}(bF:Holds cQ aD R fZ)(a7:EU qQ)(aZ:EU F0)(h:s7 fZ cQ aD R oK qQ F0 E iE)
 {P:Program} {n m id l:Nat} {ops:List Oper} {t:Nat->Value} {a:Act} {Q:fR} {x7:Exit->Act->World->Prop} (aH:mD n t a) (V4:∀o∈ops,∀c,o.op≠.defer c) (cE:dG P n ops.toArray ops t E R Q) (A2:∀t L R,¬Q .outgrown t L R)
 (k:∀e eP yB t' hA uD,Q e t' hA uD->mD n t' eP->s7 fZ cQ aD R oK qQ F0 hA yB->x7 e eP yB):(Code.region id ops.toArray false).wpIn (Fence.wide.inRound l) m P x7 a iE:=by
 have xN:=h.eM.Sr bF;have b5a:=cE _ a iE aH (c5.M4 xN);refine Code.wpIn_mono ?_ (wpIn_region_lit (aFS (l:=l) (m:=m) ?_ ops V4 a iE b5a));·rintro e eP yB ⟨_,t',hA,uD,bZ,uS,qO⟩;exact k e eP yB t' hA uD bZ uS (h.step bF a7 aZ qO)
 ·rintro⟨eP,yB,_,t',hA,uD,bZ,_⟩;exact A2 _ _ _ bZ
def s7.plain{fZ:World}{cQ:aW}{aD:Nat->Prop}{R:aP}{oK:Nat}{qQ F0:Obj}{E:aW}{iE:World}(bF:Holds cQ aD R fZ)(a7:EU qQ)(aZ:EU F0)(h:s7 fZ cQ aD R oK qQ F0 E iE)
 {P:Program} {n m:Nat} {SC:Code} {t:Nat->Value} {a:Act} {Q:fR} {x7:Exit->Act->World->Prop} (aH:mD n t a) (cE:cO P n SC t E R Q)
 (k:∀e eP yB t' hA uD,Q e t' hA uD->mD n t' eP->s7 fZ cQ aD R oK qQ F0 hA yB->x7 e eP yB):SC.wpIn Fence.wide m P x7 a iE:=by have xN:=h.eM.Sr bF;refine Code.wpIn_mono ?_ (wpIn_wide.2 (cE _ a iE aH (c5.M4 xN)));rintro e eP yB ⟨_,t',hA,uD,bZ,uS,qO⟩;exact k e eP yB t' hA uD bZ uS (h.step bF a7 aZ qO)
def a6Q{P:Program}{n m:Nat}{all:Array Oper}{Q:Exit->Act->World->Prop}{aC:List Oper}{t:Nat->Value}{a:Act}{w:World}{c:sH}{L:aW}{R:aP}{d:Tmp}{op:Op}{ty:TypeId}{pos:String}{after:Array Edge}{v:Value}
 (aH:mD n t a) (aF:c5 c L R w) (cS:cI P ⟨some d,op,ty,pos,after,none⟩ (iL t) L R v) (a7:Nat.blt d n=true) (k:∀eP,mD n (kD t d v) eP->wpListIn Fence.wide m P all Q aC eP w):wpListIn Fence.wide m P all Q (⟨some d,op,ty,pos,after,none⟩::aC) a w:=by unfold wpListIn;rw[if_pos aK];refine⟨λ_ _=>trivial,?_⟩;rw[show Fence.wide.round=none from rfl,Oper.semAt_none];rw[aH.eval,cS c w aF];exact k _ (aH.put (d:=some d) a7 v)
def aYZ{P:Program}{aV:Operand->Value}{x y:Operand}{l:Nat}{v:Value}{d:Option Tmp}{n6:Array TypeId}{ty:TypeId}{pos:String}{after:Array Edge}{g:Option (Nat×Bool)}{w:World}(K:aV x=.func (.yield l) #[] #[])(bB:aV y=v):
 (execOp aV ⟨d,.call ⟨.value x,#[y],n6⟩,ty,pos,after,g⟩).run P w=(Instr.yield l #[v]).run P w:=by simp only[execOp,resolve,K,Deferred.ofValue];simp[invoke,bB,s5,D8]
def aU2{P:Program}{n m l:Nat}{all:Array Oper}{Q:Exit->Act->World->Prop}{aC:List Oper}{t:Nat->Value}{a:Act}{w:World}{d:Tmp}{x y:Operand}{n6:Array TypeId}{ty:TypeId}{pos:String}{after:Array Edge}{v r:Value}{S:World->Prop}
 (aH:mD n t a) (K:iL t x=.func (.yield l) #[] #[]) (bB:iL t y=v) (a7:Nat.blt d n=true) (b1A:YieldAt Fence.wide (m-1) P l #[v] w λe w'=>e=.returned r/\S w') (k:∀eP w',mD n (kD t d r) eP->S w'->wpListIn Fence.wide m P all Q aC eP w'):
 wpListIn Fence.wide m P all Q (⟨some d,.call ⟨.value x,#[y],n6⟩,ty,pos,after,none⟩::aC) a w:=by unfold wpListIn;rw[if_pos aK];refine⟨λ_ _=>trivial,?_⟩;rw[show Fence.wide.round=none from rfl,Oper.semAt_none];obtain⟨fn,tmps,b7O,b8f,G,U⟩:=b1A;rw[aH.eval,aYZ K bB,G];refine⟨λh=>BF,U.mono ?_⟩;rintro e w' ⟨rfl,aF⟩;exact k _ _ (aH.put (d:=some d) a7 r) aF
def c5.aKp{c:sH}{L:aW}{R:aP}{w:World}(h:c5 c L R w){o:Obj}(bA:EU o):c5 c L R (w.alloc o):=by
 obtain⟨⟨aD,bF,bE⟩,cM,Y⟩:=h;have lW:∀b,b<w.heap.size->(w.alloc o).heap[b]?=w.heap[b]?:=λb aT=>by exact aBR
 refine⟨⟨aD,⟨bF.lC,λe V=>(lW _ (bF.lt V)).trans (bF.own e V),bF.pT,λb aT=>by have:=bF.nT b aT;simp;omega,λr O=>(bF.nH r O).mono (λ_ h=>h) (λb aT=>lW b (bF.nT b aT))⟩,bE⟩,cM,⟨Y.os,Y.tape,Y.output,?_,λb aT DO=>?_⟩⟩;·have:=Y.size;simp;omega
 ·rw[lW b (Gr aT Y.size)];exact Y.block b aT DO
def aYr(w:World)(o:Obj)(b:Nat)(aT:b<w.heap.size):(w.alloc o).heap[b]?=w.heap[b]?:=by exact aBR
def aM.qS{P:Program}{f:FuncId}{args:Array Value}{L:aW}{R:aP}{Post:n8}(G: ∀(xs:Array Value) (w:World),(callFunc f xs).run P w= .ok (.enter f xs) w)
 (U:∀(w:World) (aD:Nat->Prop),Holds L aD R w->Calls P f args w λe w'=>∃v E R',e=.returned v/\Post v E R'/\c5 ⟨w,wU L,aD⟩ E R' w'):aM P f args L R Post:=⟨G,U⟩
end Go.Aw
namespace Go.Proofs.YtdiajbdaadlfhaaGreatDoor
open Go.Aw Go Go.Proofs.Tryz
end Go.Proofs.YtdiajbdaadlfhaaGreatDoor
