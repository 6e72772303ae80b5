/-
  Merged texts. By an AI agent.
-/
import Derived.Test.YtchfclmokpbldaaGreatCutB
import Derived.Test.YtchfclmokpbldaaGreatSiteD
import Derived.Test.YtchfclmokpbldaaGreatRefA
import Derived.Test.YtchfclmokpbldaaGreatCloneS
import Derived.Test.YtchfclmokpbldaaGreatRoundA
import Derived.Test.YtchfclmokpbldaaGreatTelF
import Derived.Test.YtchfclmokpbldaaGreatTelW
import Derived.Test.YtchfclmokpbldaaGreatDraws
import Derived.Laws.IdiomStrings
import Derived.Test.YtchfclmokpbldaaGreatRestN
import Derived.Test.YtchfclmokpbldaaGreatSiteS
set_option linter.all false
set_option maxHeartbeats 4000000
set_option maxRecDepth 20000
variable{A B:Prop}
namespace Go.Proofs.YtchfclmokpbldaaGreat
open Go.Aw Go Go.Proofs.Tryz
section
attribute [local irreducible] cQ dF dV aM cP eC e5 e1 e2 e6 eX e4 J.L
def a0u(h:B:=by exact⟨.nil,.nil,by rw[W];rfl,⟨J.iJ,J.iJ⟩,by rw[GW,if_pos D],by rw[oR,if_pos D],by rw[mE,mE];rfl,rfl⟩):=h
def a0U(h:A->B:=by exact aI aSq rfl):=h
def aIE(h:A->B:=by exact aI q1 rfl):=h
def aHs(h:A->B:=by exact qJ rfl (r9 (f:=fU.cells) (xs:=w) N rfl rfl rfl aW rfl rfl (dH) bD D) rfl rfl):=h
def aXT(h:A->B:=by exact nS 5 WC fM bI rfl rfl rfl rfl rfl zT):=h
def aVQ(h:A->B:=by exact nS 6 WC fM bI rfl rfl rfl rfl rfl zT):=h
def aHb(h:A->B:=by exact fP mM rfl rfl rfl rfl):=h
def aJ2{aA:List bC}{f:FQ}:a5U aA [f]=[p4 aA f]:=rfl
abbrev HX(s:eA)(w:List fU)(t:Int):Nat->Option Int:=λi=>xL (CL (s.fC.l.getD i default) (w.getD i default) t)
abbrev Cu(s:eA)(m:List eE)(w:List fU)(aA:List bC)(t:Int):Nat->Int:=λi=>LL s.cO.l m aA (s.fC.l.getD i default) (w.getD i default) t
abbrev Y9(s:eA)(m:List eE)(w:List fU)(t:Int):Nat->fU:=λi=>DZ s.cO.l m (s.fC.l.getD i default) (w.getD i default) t
structure aHW(s:eA)(m:a4 eE)(w:a4 fU)(aA:a4 bC)(R:aO):Prop where
 aK:zY s R
 bAE:aL (gT m) R
 bBc:aL (CJ w) R
 b9c:aL (sU aA) R
 ok:∀x∈m.l,v2 x
def aKb{s:eA}{m:List eE}{w:List fU}{aA:List bC}{t:Int}(b2:nO s=0)(O:m.length=s.cO.l.length/\w.length=s.fC.l.length/\aA.length=s.b0.aC.aJ.l.length)(X:¬(t<0\/2147483648<t)):pI s m w aA t=((List.range w.length).findSome? (HX s w t)).getD 0:=by rw[pI,if_neg D,if_neg (λh=>h O),if_neg X]
def aW3(s:eA)(m:a4 eE)(w:a4 fU)(aA:a4 bC)(t:Int)(L:aR)(R:aO)(h:aHW s m w aA R):
 aM prog 154 [s.val,m.val,w.val,aA.val,.int .i64 t].toArray L R
  (λv E G=>∃(p:J Int) (q:J fU),v=.tuple #[p.val,q.val,.int .i64 (pI s m.l w.l aA.l t)]/\(p.ok 1 a1/\q.ok 3 fU.cells)/\p.l=GW s m.l w.l aA.l t/\q.l=oR s m.l w.l aA.l t/\p.L 3 a1++(q.L 153 fU.cells++L)=E/\R=G):=by
 obtain⟨aH,a3,dH,gA,bH⟩:=h;have jB:=aH.cO;have AN:=aH.fC;refine b6 152 call154 func154 rfl rfl rfl ?_;apply(dB);intro gQ;apply wI∘hH∘aIE;refine cD rfl (a0d s _ _ aH) ?_;apply(j7);refine U ?_ ?_<;>intro aQ;·
  apply HO∘JS;refine bQ L R E3 ?_;have W:pI s m.l w.l aA.l t=nO s:=by rw[pI,if_pos aQ]
  exact a0u
 have xH:=JT (s:=s) D;have m6:=xH.len;have Aj:=(yR xH.b0).aC.aJ;apply VR∘kD∘p9;apply cA (Z:=[_,_,_,_,_,_]) (j:=6) (a9:=32) rfl rfl aB rfl aY rfl;·exact a3Z
 intro IJ;apply(dE);apply cA (Z:=[_,_,_,_,_,_,_,_]) (j:=14) (a9:=40) rfl rfl aB rfl aY rfl;·intro pF;replace pF:=bB pF;exact aCX
 intro Q4;apply(b9);refine U ?_ ?_<;>intro bL;·
  apply dC∘JS;refine bQ L R E3 ?_;have W:pI s m.l w.l aA.l t=11:=by rw[pI,if_neg D,if_pos D]
  exact a0u
 apply(LC);apply cA (Z:=[_,_]) (j:=2) (a9:=52) rfl rfl aB rfl aY rfl;·exact G3
 intro mK;apply(b9);refine U ?_ ?_<;>intro cC;·
  apply dC∘JS;refine bQ L R E3 ?_;have W:pI s m.l w.l aA.l t=8:=by rw[pI,if_neg D,if_neg D,if_pos D]
  exact a0u
 have AZ:=aKb (s:=s) (m:=m.l) (w:=w.l) (aA:=aA.l) (t:=t) D D D;apply(wW);refine a1w [56,57,58,59,60,14,15] ((⟨λg=>[(14,.slice (some ⟨g.1.1,0,none⟩) w.l.length w.l.length),(15,(⟨g.1.2,w.l⟩:J fU).val)],λg=>(⟨.own g.1.1 w.l.length [],List.replicate w.l.length 0⟩:J Int).L 3 a1++((⟨g.1.2,w.l⟩:J fU).L 153 fU.cells++(⟨gQ,s.cells,38⟩::L)),λ_=>R,λ_=>0⟩:fB {g:Nat×g6//(⟨g.2,w.l⟩:J fU).ok 3 fU.cells})) ?_ ?_;·
  skip
  refine Kn N [] [0,1,3,2,4,5,6] [] (_) [] 7 dO bI rfl rfl bA λWC=>?_;refine nS 0 WC fM bI rfl rfl rfl rfl rfl oS ?_;refine nS 1 WC fM bI rfl rfl rfl rfl rfl yG ?_;refine nS 3 WC fM bI rfl rfl rfl rfl rfl oS ?_;refine mC [2,4] WC fM bI ?_;refine pB ?_ ?_;·
   skip
   refine qJ rfl Wx rfl rfl ?_;rintro v E G ⟨NU,rfl,rfl,IA⟩;replace IA:=IA.symm;subst IA;apply(gJ);refine mC [4] WC fM bI ?_;apply mR∘aHs;rintro v E G ⟨aBF,rfl,Ma,rfl,rfl⟩;exact aOF
  apply mR∘aHs;rintro v E G ⟨aBF,rfl,Ma,rfl,rfl⟩;apply(gJ);refine mC [2] WC fM bI ?_;apply(mR);refine qJ rfl Wx rfl rfl ?_;rintro v E G ⟨NU,rfl,rfl,IA⟩;replace IA:=IA.symm;subst IA;exact aOF
 rintro⟨⟨b,o⟩,Ma⟩ cH;try dsimp only
 dsimp only at Ma;apply tD∘qP;refine dS [(1,.slice _ _ _),(2,.slice _ _ _),(3,.slice _ _ _),(4,.int _ _),(5,.pointer _),(14,.slice _ _ _),(15,.slice _ _ _),(62,.slice _ _ _),(63,.int _ _),(64,.int _ _)] bV λfK=>?_;refine k2 ([10,11,12,16,17,18,19,20]++cN 64 86) ((⟨λg=>[(64,.int .i64 ((g.1.1:Nat):Int))],λg=>(⟨.own b w.l.length [],g.1.2.1⟩:J Int).L 3 a1++((⟨o,g.1.2.2⟩:J fU).L 153 fU.cells++(⟨gQ,s.cells,38⟩::L)),λ_=>R,λg=>w.l.length-g.1.1⟩:fB {g:Nat×List Int×List fU//(g.1<=w.l.length/\(List.range w.l.length).findSome? (HX s w.l t)=((List.range w.l.length).drop g.1).findSome? (HX s w.l t))/\M6 w.l.length 0 (Cu s m.l w.l aA.l t) g.1 g.2.1/\K9 w.l (Y9 s m.l w.l t) g.1 g.2.2})) (⟨(0,List.replicate w.l.length 0,w.l),⟨by dsimp only;omega,by rw[Bx]⟩,.zero,.zero⟩) ?_;rintro⟨⟨k,vs,ws⟩,⟨aG,aP⟩,IC,qC⟩ cH;try dsimp only
 dsimp only at aG aP IC qC;have uX:=IC.len;have tX:=qC.len;have Uu:(⟨.own b w.l.length [],vs⟩:J Int).ok 1 a1:=by have:=ED (f:=a1) (aN:=1) (b:=b) (n:=w.l.length) (x:=0) HW DP;exact J.o6 HW this (by simp;exact uX)
 have W7:(⟨o,ws⟩:J fU).ok 3 fU.cells:=J.o6 bD Ma tX;apply(h0);refine U ?_ ?_<;>intro dX;·
  have qD:=bJ (l:=s.fC.l) (k:=k) default D;have Uv:=bJ (l:=w.l) (k:=k) default D;have aNn:=IC.T4 k (iK _) D;have aNo:=qC.pZ k (iK _);rw[Uv]at aNo;have Td:=aIs (xH.cond _ (hV qD));have ZU:=λ(v:Int)=>IC.next (x:=v) D;have TC:=λ(v:fU)=>qC.next (x:=v) D;have lK:=z2 (f:=HX s w.l t) aP D;have nE:=λ(e:Int) (W:HX s w.l t k=some e)=>wH (f:=HX s w.l t) aP D W;obtain⟨c,cG⟩:∃c,c=s.fC.l.getD k default:=⟨_,rfl⟩;obtain⟨qZ,W6⟩:∃qZ,qZ=w.l.getD k default:=⟨_,rfl⟩;obtain⟨gC,QI⟩:∃gC,gC=p6 s.cO.l m.l c.target t:=⟨_,rfl⟩;have aA8:HX s w.l t k=xL (CL c qZ t):=by rw[cG,W6]
  have aA9:Cu s m.l w.l aA.l t k=LL s.cO.l m.l aA.l c qZ t:=by rw[cG,W6]
  have a2x:Y9 s m.l w.l t k=DZ s.cO.l m.l c qZ t:=by rw[cG,W6]
  rw[<-cG]at qD Td;rw[<-W6]at Uv aNo;rw[aA9]at ZU;rw[aA8]at lK nE;rw[a2x]at TC;rw[LL,<-QI]at ZU;rw[CL]at lK nE;apply(oJ);refine aI pL rfl ?_;refine aI Wt rfl ?_;apply(dZ);intro QA;apply dM∘sI∘aIE∘gU∘gK;refine cD rfl (a4Z s m c.target t _ _ jB a3 bH D) ?_;rw[<-QI];apply(dZ);intro JX;apply(z8);refine eZ (a8 (fR (bK (c2 ?_))));apply(vX);refine U ?_ ?_<;>intro dY;·
   refine bK ?_;refine gZ N [0,1,2,3,4,5,6,7,8,9,10,11,12,13,14] ([bN.mk JX _ _,bN.mk QA _ _]) dO bI bA ?_;apply(lA);refine bE mM rfl rfl rfl ?_;refine bE oS rfl rfl rfl ?_;apply JO∘OO∘T7∘hK;refine lW rfl (aYh c.nF qZ gC t _ _) ?_;refine bE iL rfl rfl rfl ?_;refine bE q2 rfl rfl rfl ?_;refine bE q2 rfl rfl rfl ?_;apply(qH);intro C3;apply v0∘L4∘cE∘rR;refine U ?_ ?_<;>intro h1;·apply HO∘wI∘dM;refine eZ (a8 (iY (gB (iM (iM (gB (vW (iM (gB ?_)))))))));refine bQ L R E3 ?_;have i2:=nE (yP c.nF qZ t) (by rw[if_pos dY,Yj h1]);(have W:pI s m.l w.l aA.l t=yP c.nF qZ t:=by rw[AZ,i2];rfl);exact a0u
   (have GK:yP c.nF qZ t=0:=by omega);rw[a1v GK];refine eP (a8 ?_);refine iS N [96,97] [0,1,2,3,4,5,6,7,8,9] [10,11,12] ([bN.mk C3 _ _,bN.mk JX _ _,bN.mk QA _ _]) _ dO bI bA (by(repeat(first|apply List.Sublist.cons (a:=bN.mk Eh _ _)|apply List.Sublist.cons (a:=bN.mk rU _ _)|apply List.Sublist.cons_cons));exact rH _) ?_;apply(EA);refine m2 oS rfl rfl rfl rfl ?_;refine m2 zS rfl rfl rfl rfl ?_;apply(aHb);refine fP (u4 (row:=[_,_,_,_,_,_]) N rfl rfl rfl n0 aB aB) rfl rfl rfl rfl ?_;apply(aHb);refine fP X6 rfl rfl rfl rfl ?_;refine rQ rfl (aVR c (v4 c.nF qZ gC t) gC _ _) rfl rfl ?_;rintro v E G ⟨rfl,rfl,rfl⟩;refine⟨bA,iQ,?_⟩;refine fP (jA N ((⟨o,ws⟩:J fU)) _ rfl rfl ((show _=Value.slice _ _ _ from rfl).trans (by simp only[J.val,tX])) rfl bR (i:=k) dA jC) rfl rfl rfl rfl ?_;apply(zN);refine HN (R2 N ((⟨o,ws⟩:J fU)) (v4 c.nF qZ gC t) rfl rfl rfl rfl cF bR bD bR (KO rfl) aB aB) rfl rfl ?_;rintro v E G ⟨rfl,rfl⟩;apply(gJ);refine bE aSq rfl rfl rfl ?_;refine HN (j5 N ((⟨.own b w.l.length [],vs⟩:J Int)) (if(v4 c.nF qZ gC t).over=false then -1 else if uP gC c.nF.cut=1 then 1 else 0) rfl rfl rfl rfl cF bR bD bR aW aB aB) rfl rfl ?_;rintro v E G ⟨rfl,rfl⟩;apply(gJ);refine g5 (hI (hI (a8 (c2 ?_))));apply(s6);exact eO ⟨(k+1,vs.set k (if(v4 c.nF qZ gC t).over=false then -1 else if uP gC c.nF.cut=1 then 1 else 0),ws.set k (v4 c.nF qZ gC t)),lK (by rw[if_pos dY,GK];rfl),ZU _ (by rw[if_neg (show¬c.kind=5 by omega),if_neg (show¬c.kind=2 by omega),if_neg (show¬c.kind=3 by omega),if_neg (show¬c.kind=4 by omega)]),TC _ (by rw[DZ,if_pos dY,QI])⟩
  have cT:DZ s.cO.l m.l c qZ t=qZ:=by rw[DZ,if_neg dY]
  have Sz:=qC.EX (show w.l[k]?=some (Y9 s m.l w.l t k) by rw[a2x,Uv,cT]);have iF:=lK (by rw[if_neg dY];rfl);apply(oI);refine U ?_ ?_<;>intro h2;·apply wJ∘nZ∘fD;refine cD rfl (a5A gC c.value _ _) ?_;(have Fm:-1<=uP gC c.value/\uP gC c.value<=1:=by rw[uP];(repeat' split)<;>omega);apply wX∘a0U;refine jH (j5 N ((⟨.own b w.l.length [],vs⟩:J Int)) (-(uP gC c.value)) rfl rfl rfl rfl cF bR bD bR aW aB aB) ?_;rintro v E G ⟨rfl,rfl⟩;refine eZ (hI (hI (a8 (c2 ?_))));apply(s6);exact eO ⟨(k+1,vs.set k (-(uP gC c.value)),ws),iF,ZU _ (by rw[if_neg D,if_pos h2]),Sz⟩
  apply(oI);refine U ?_ ?_<;>intro n8;·apply wJ∘nZ;refine cD rfl (aZs gC _ _) ?_;apply(a0U);refine jH (j5 N ((⟨.own b w.l.length [],vs⟩:J Int)) (Ea gC) rfl rfl rfl rfl cF bR bD bR aW aB aB) ?_;rintro v E G ⟨rfl,rfl⟩;refine eZ (hI (hI (a8 (c2 ?_))));apply(s6);exact eO ⟨(k+1,vs.set k (Ea gC),ws),iF,ZU _ (by rw[if_neg D,if_neg D,if_pos n8]),Sz⟩
  apply(oI);refine U ?_ ?_<;>intro EM;·
   apply SN∘a0U;refine jH (j5 N ((⟨.own b w.l.length [],vs⟩:J Int)) (-1) rfl rfl rfl rfl cF bR bD bR aW aB aB) ?_;rintro v E G ⟨rfl,rfl⟩;apply(j2);refine gZ N [0,1,2] ([bN.mk JX _ _]) dO bI bA ?_;apply(T7);refine lW rfl (PK _ _) ?_;refine bE (a01 Kh rfl rfl) rfl rfl rfl ?_;apply(wV);refine U ?_ ?_<;>intro a9o;·have bAe:=J.qX (p:=(⟨.own b w.l.length [],vs⟩:J Int)) (i:=k) (x:= -1) HW Uu;have bAd:(vs.set k (-1))[k]?=some (-1):=tJ D;apply(wJ);refine aI (jA N ((⟨.own b w.l.length [],vs.set k (-1)⟩:J Int)) _ rfl rfl ((show _=Value.slice _ _ _ from rfl).trans (w6 (by rw[q0];exact uX))) rfl bR (i:=k) dA jC) rfl ?_;refine jH (j5 N ((⟨.own b w.l.length [],vs.set k (-1)⟩:J Int)) (1) rfl rfl rfl rfl cF bR bD bR aW aB aB) ?_;rintro v E G ⟨rfl,rfl⟩;refine eZ (hI (hI (a8 (c2 ?_))));apply(s6);exact eO ⟨(k+1,(vs.set k (-1)).set k 1,ws),iF,by dsimp only;rw[xQ];exact ZU _ (by rw[if_neg D,if_neg D,if_neg D,if_pos EM,if_pos (R4.2 D)]),Sz⟩
   refine eP (hI (hI (a8 (c2 ?_))));apply(s6);exact eO ⟨(k+1,vs.set k (-1),ws),iF,ZU _ (by rw[if_neg D,if_neg D,if_neg D,if_pos EM,if_neg (λe=>by rw[R4]at e;omega)]),Sz⟩
  apply(oI);refine U ?_ ?_<;>intro b2S;·apply wJ∘gU∘j0∘A4;refine hT a4k rfl ?_;rintro v E G ⟨b1e,rfl,rfl,a8A⟩;replace a8A:=a8A.symm;subst a8A;refine FL (aN:=2) (len:=1) (cap:=1) (rows:=[FQ.cells ⟨c.target,c.value⟩]) (eU:=[]) rfl aW aW (λr M=>by rw[List.mem_singleton.1 M];rfl) aW rfl e8 ?_;refine dT rfl (aVD aA ⟨some ⟨b1e,0,none⟩,1,[⟨c.target,c.value⟩]⟩ _ _ (gA.mono λr h=>aT (by simp[h])) mA (λf aF=>by rw[List.mem_singleton.1 aF];dsimp only;omega) (show 1<=1000 by decide) D) rfl ?_;rintro v E G ⟨p,rfl,Mc,eI,rfl,rfl⟩;rw[aJ2]at eI;(have gM:p.l[0]?=some (p4 aA.l ⟨c.target,c.value⟩):=by rw[eI];rfl);(have b9Y:p.l.length=1:=by rw[eI];rfl);(have LU:-1<=p4 aA.l ⟨c.target,c.value⟩/\p4 aA.l ⟨c.target,c.value⟩<=1:=by rw[p4,D3];(repeat' split)<;>omega);refine aI (jA N (p) _ rfl rfl rfl rfl bR (i:=0) dA jC) rfl ?_;refine aI O2 rfl ?_;apply wX∘a0U;refine jH (j5 N ((⟨.own b w.l.length [],vs⟩:J Int)) (-(p4 aA.l ⟨c.target,c.value⟩)) rfl rfl rfl rfl cF bR bD bR aW aB aB) ?_;rintro v E G ⟨rfl,rfl⟩;refine eZ (hI (hI (a8 (c2 ?_))));apply(s6);exact hP ⟨(k+1,vs.set k (-(p4 aA.l ⟨c.target,c.value⟩)),ws),iF,ZU _ (by rw[if_pos b2S]),Sz⟩ gW bV bA (λr h=>aT (by simp[h])) hO
  (exfalso;omega)
 obtain rfl:k=w.l.length:=by omega
 have b1:=HV (f:=HX s w.l t) aP (iK _);have W:pI s m.l w.l aA.l t=0:=by rw[AZ,b1];rfl
 apply M9∘gU∘wI∘vB;refine bQ ((⟨.own b w.l.length [],vs⟩:J Int).L 3 a1++((⟨o,ws⟩:J fU).L 153 fU.cells++L)) R E3 ?_;exact⟨(⟨.own b w.l.length [],vs⟩:J Int),(⟨o,ws⟩:J fU),by rw[W,J.val,J.val,uX,tX];try rfl,⟨Uu,W7⟩,by rw[GW,if_neg D];exact IC.done,by rw[oR,if_neg D];exact qC.done,rfl,rfl⟩
def a5e(h:B:=by exact⟨.nil,.nil,by rw[W];rfl,⟨J.iJ,J.iJ⟩,by rw[o1,if_pos D],by rw[x6,if_pos D],by rw[mE,mE];rfl,rfl⟩):=h
def aJQ{s:eA}{v:List Int}{c:List b8}{k:Nat}:yU s v c (k+1)=if tL (s.a2.l.getD k default).jN.l v≠-1/\(c.getD k default).off=false then yU s v c k++[(k:Int)]else yU s v c k:=rfl
def a5r{s:eA}{v:List Int}{c:List b8}: ∀n,(yU s v c n).length<=n
 |0=>by simp[yU]
 |n+1=>by
  have:=a5r (s:=s) (v:=v) (c:=c) n
  rw[yU]
  split
  ·rw[l9,OW];omega
  ·omega
def aWR(s:eA)(u:a4 Int)(c:a4 b8)(t:Int)(L:aR)(R:aO)(aH:zY s R)(cY:aL (dU u) R)(cG:aL (sE c) R):
 aM prog 155 [s.val,u.val,c.val,.int .i64 t].toArray L R
  (λz E G=>∃(p:J b8) (q:J Int),z=.tuple #[p.val,q.val,.int .i64 (pU s u.l c.l t)]/\(p.ok 3 b8.cells/\q.ok 1 a1)/\p.l=o1 s u.l c.l t/\q.l=x6 s u.l c.l t/\q.L 3 a1++(p.L 71 b8.cells++L)=E/\R=G):=by
 have o4:=aH.a2;refine b6 93 call155 func155 rfl rfl rfl ?_;apply(dB);intro eD;apply wI∘hH;refine aI q1 rfl ?_;refine cD rfl (a0d s _ _ aH) ?_;apply(j7);refine U ?_ ?_<;>intro aQ;·
  apply HO∘JS;refine bQ L R E3 ?_;have W:pU s u.l c.l t=nO s:=by rw[pU,if_pos aQ]
  exact a5e
 have xH:=JT (s:=s) D;have m6:=xH.len;apply VR∘kD∘p9;apply cA (Z:=[_,_,_,_,_,_]) (j:=6) (a9:=29) rfl rfl aB rfl aY rfl;·exact a3Z
 intro IJ;apply(b9);refine U ?_ ?_<;>intro bL;·
  apply dC∘JS;refine bQ L R E3 ?_;have W:pU s u.l c.l t=11:=by rw[pU,if_neg D,if_pos D]
  exact a5e
 apply(LC);apply cA (Z:=[_,_]) (j:=2) (a9:=39) rfl rfl aB rfl aY rfl;·exact G3
 intro mK;apply(b9);refine U ?_ ?_<;>intro cC;·
  apply dC∘JS;refine bQ L R E3 ?_;have W:pU s u.l c.l t=8:=by rw[pU,if_neg D,if_neg D,if_pos D]
  exact a5e
 have W:pU s u.l c.l t=0:=by rw[pU,if_neg D,if_neg D,if_neg D]
 apply(D9);refine hT aQI rfl ?_;rintro v E G ⟨b6A,rfl,aMR,rfl,rfl⟩;apply(BK);obtain⟨wF,a8o⟩:∃wF,wF=b6A:=⟨_,rfl⟩;rw[<-a8o]at aMR|-;apply eB∘v1∘qP;refine dS [(1,.slice _ _ _),(3,.int _ _),(12,.slice _ _ _),(13,.slice _ _ _),(46,.slice _ _ _),(47,.int _ _),(48,.int _ _)] bV λfK=>?_;refine qK ([13,14,15,16,17]++cN 48 43) ((⟨λg=>[(48,.int .i64 ((g.1.1:Nat):Int)),(13,g.1.2.2.val)],λg=>g.1.2.2.L 3 a1++((⟨wF,g.1.2.1⟩:J b8).L 71 b8.cells++(⟨eD,s.cells,38⟩::L)),λ_=>R,λg=>c.l.length-g.1.1⟩:fB {g:Nat×List b8×J Int//g.1<=c.l.length/\K9 c.l (H3 s u.l c.l t) g.1 g.2.1/\g.2.2.ok 1 a1/\g.2.2.l=yU s u.l c.l g.1})) (⟨(0,c.l,J.nil),by dsimp only;omega,.zero,J.iJ,rfl⟩) bV X2 eN ?_;rintro⟨⟨k,cs,q⟩,aG,qC,gR,fT⟩ cH;try dsimp only
 dsimp only at aG qC gR fT;have tX:=qC.len;have x8:(⟨wF,cs⟩:J b8).ok 3 b8.cells:=J.o6 bD aMR tX;have sO:q.l.length<=k:=by rw[fT];exact a5r k
 apply(h0);refine U ?_ ?_<;>intro dX;·
  have qG:=bJ (l:=s.a2.l) (k:=k) default D;have Fq:=bJ (l:=c.l) (k:=k) default D;have qD:=qC.pZ k (iK _);rw[Fq]at qD;have TC:=λ(x:b8)=>qC.next (x:=x) D;have a12:=qC.EX (i:=k);have Ae:=aJQ (s:=s) (v:=u.l) (c:=c.l) (k:=k);obtain⟨z,eW⟩:∃z,z=s.a2.l.getD k default:=⟨_,rfl⟩;obtain⟨h7,Fr⟩:∃h7,h7=c.l.getD k default:=⟨_,rfl⟩;obtain⟨R3,IC⟩:∃R3,R3=tL z.jN.l u.l:=⟨_,rfl⟩;have N2:H3 s u.l c.l t k=R0 R3 h7 t:=by rw[H3,IC,eW,Fr]
  rw[<-eW]at qG;rw[<-Fr]at qD Fq;rw[<-eW,<-Fr,<-IC]at Ae;rw[N2]at TC;rw[N2,Fq]at a12;apply(oJ);refine aI pL rfl ?_;apply(LG);intro Eh;apply dM∘sI∘h9;refine aI aSk rfl ?_;apply T8∘j8∘fD∘gU;refine cD rfl (aIF z.jN u _ _ (aL.jN o4 qG) cY) ?_;rw[<-IC];apply Y3∘nJ;refine U ?_ ?_<;>intro dY;·
   apply tD∘lX;refine aI jV rfl ?_;apply(l6);refine aI aRk rfl ?_;apply(nJ);refine U ?_ ?_<;>intro h1;·apply eB∘SQ;refine aI jV rfl ?_;apply(l6);refine jH aR2 ?_;rintro v E G ⟨rfl,rfl⟩;refine eZ (a8 (mD (mF (mB (a8 (c2 ?_))))));exact(s6) aRS
   refine eP (a8 (mD (mF (mB (a8 (c2 ?_))))));exact(s6) aQr
  apply e0∘lX;refine aI jV rfl ?_;apply(l6);refine jH aRX ?_;rintro v E G ⟨rfl,rfl⟩;apply(j2);have a9t:=J.qX (f:=b8.cells) (aN:=3) (p:=(⟨wF,cs⟩:J b8)) (i:=k) (x:=⟨h7.off,-1,h7.i4⟩) bD x8;have a9s:(cs.set k ⟨h7.off,-1,h7.i4⟩)[k]?=some ⟨h7.off,-1,h7.i4⟩:=tJ D;apply eB∘lX;refine aI jV rfl ?_;apply(l6);refine aI aR8 rfl ?_;apply(nK);refine U ?_ ?_<;>intro h2;·have b25:=J.qX (f:=b8.cells) (aN:=3) (p:=(⟨wF,cs.set k ⟨h7.off,-1,h7.i4⟩⟩:J b8)) (i:=k) (x:=⟨true,-1,h7.i4⟩) bD a9t;have b22:((cs.set k ⟨h7.off,-1,h7.i4⟩).set k ⟨true,-1,h7.i4⟩)[k]?=some ⟨true,-1,h7.i4⟩:=tJ Xd;apply dC∘lX∘SQ;refine aI jV rfl ?_;apply(l6);refine jH aRA ?_;rintro v E G ⟨rfl,rfl⟩;refine aI jV rfl ?_;apply(l6);refine jH aQ4 ?_;rintro v E G ⟨rfl,rfl⟩;refine eZ (a8 (c2 ?_));apply(SU);rintro v E G ⟨a1G,rfl,rfl,B0⟩;replace B0:=B0.symm;subst B0;refine hT aSQ rfl ?_;rintro v E G ⟨aBL,rfl,Uc,rfl,rfl⟩;apply kA∘uJ;exact eO ⟨(k+1,((cs.set k ⟨h7.off,-1,h7.i4⟩).set k ⟨true,-1,h7.i4⟩).set k ⟨true,-1,R3⟩,(⟨aBL,_⟩:J Int)),by dsimp only;omega,by dsimp only;rw[xQ,xQ];exact TC _ (by rw[R0,if_neg dY,if_neg Oh]),Uc,by dsimp only;rw[Ae,if_pos ⟨dY,by simpa using h2⟩,fT]⟩
  exact(mU) aRB
 exact aR4
structure aTt(f:hJ)(n:Nat):Prop where
 IR:1<=n/\n<=3
 Y:f.aZ.l=LM n
 cI:f.a2.l=[(n:Int)-1]
 bX:f.cB=3
def aIw(c:Nat)(x:a4 Int)(k:Nat)(R:aO)(K:wE x R)(aG:k<=x.l.length):
 aM prog 15 [.pointer (some ⟨c,0,none⟩)].toArray [sK c x k] R
  (λv E G=>∃(s:eA) (len qQ dG:Int) (f:hJ) (n g3:Nat),v=.tuple #[s.val,f.val]/\Ow s len qQ dG/\aTt f n/\(g3<=x.l.length/\(x.l.length<=k->len=1/\qQ=1/\dG=1/\n=1/\g3=k))/\(zY s G/\k0 f G/\∀r∈R,aL r G)/\sK c x g3::[]=E):=by refine aM.aOj (aWW c x k R K aG) ?_;rintro v E G c w ⟨s,len,qQ,dG,Y,cI,n,g3,rfl,c5,⟨xH,a2E⟩,b1,m6,sP,Lw,⟨aH,bO⟩,rfl⟩ cT;have O:=cT.ZO (eU:=[]) xH bD aW e8;have X:=O.ZO (eU:=[]) a2E bD aW e8;have aU:∀r∈G,aL r (dU cI.V::s4 Y.V::G):=λr M=>aT (.tail _ (.tail _ M));exact⟨_,_,X,s,len,qQ,dG,⟨Y.V,cI.V,3⟩,n,g3,rfl,c5,⟨b1,m6,sP,rfl⟩,Lw,⟨aH.mono aU,⟨aT (.tail _ (.head _)),aT (.head _)⟩,λr M=>(bO r M).mono aU⟩,rfl⟩
end
def a6n(l:List Int):ByteArray:=⟨(l.map λn=>UInt8.ofNat n.toNat).toArray⟩
section
variable{P:Program}{bF:Operand->Value}{L:aR}{R:aO}{dst:Option Tmp}{ty:TypeId}{pos:String}{after:Array Edge}{guard:Option (Nat×Bool)}(N:oE P){T iZ:TypeId}{x y:Operand}
def aJd{iW:jD}(h:FA P T=some iW)(aG:iW.k=.string):P.underlying T=some .string:=by obtain⟨i,u,z,aE,dL,eW,rfl⟩:=JI h;cases u<;>simp[HU]at aG;rw[dL]
def aG7{xs:a4 Int}{e r3 jY gL k6 fV iE eH iX Ay Sl eS OX}(dW:hW N.g1 T=some ⟨.slice e,r3,jY,gL,k6⟩)(c5:hW N.g1 e=some ⟨.int .u8,fV,iE,eH,iX⟩)(eL:hW N.g1 iZ=some ⟨.string,Ay,Sl,eS,OX⟩)(K:bF x=xs.val)(bO:aL (gX xs) R)(a5:pN xs.l):
 cP P ⟨dst,.convert T iZ x,ty,pos,after,guard⟩ bF L R (.string (a6n xs.l)):=λc w cT=>by
 obtain⟨jQ,cap,l⟩:=xs
 dsimp only at K bO a5|-
 have Vt:=M1 (N.ok _ _ dW) rfl
 have Vu:=a5p (N.ok _ _ c5) rfl
 have a3a:=aJd (N.ok _ _ eL) rfl
 have aNa:0<l.length->∃b off,jQ=some ⟨b,off,none⟩:=λTW=>by
  have qF:=cT
  obtain⟨⟨Z,b4,_⟩,_,_⟩:=qF
  obtain⟨r,M,lU⟩:=bO
  have EQ:=(b4.o8 r M).sub lU
  cases EQ with
  |mk _ _ _ _ a3 _=>
   rcases a3 with h|⟨b,off,bT,_⟩
   ·have c4:=congrArg List.length h
    simp at c4
    rw[c4]at TW
    simp at TW
   ·exact⟨b,off,bT⟩
 have aX:(l.map λn=>UInt8.ofNat n.toNat).length=l.length:=sV _
 have key:(convert T iZ (.slice jQ l.length cap)).run P w=.ok (.string (a6n l)) w:=by
  cases jQ with
  |some a=>
   have O:=run_convert_bytes_back (P:=P) w T iZ e a cap (l.map λn=>UInt8.ofNat n.toNat) Vt Vu a3a (λj a6=>by
    have LX:j<l.length:=by rw[aX]at a6;exact a6
    have b7:=DN LX
    have cG:=a1p cT bO (i:=j) (j:=0) (row:=rL l[j]) (by rw[pA,b7];rfl) (v:=.int .u8 l[j]) rfl
    have b9t:=a5 _ (aCA LX)
    have eV:((l.map λn=>UInt8.ofNat n.toNat)[j].toNat:Int)=l[j]:=by
     rw[List.getElem_map,UInt8.toNat_ofNat']
     omega
    rw[eV]
    obtain⟨b,off,bT⟩:=aNa D
    obtain rfl:=yF bT
    have b1D:(Addr.add ⟨b,off,none⟩ j)=⟨w9 (some ⟨b,off,none⟩),n6 (some ⟨b,off,none⟩) 1 j 0,none⟩:=by
     rw[Addr.add]
     split
     ·rename_i b2;subst b2;rfl
     ·show(⟨b,off+j,none⟩:Addr)=⟨b,off+j*1+0,none⟩
      rw[Nat.mul_one,Nat.add_zero]
    rw[b1D];exact cG)
   rw[aX]at O
   exact O
  |none=>
   rcases a3H l.length with b2|b2
   ·obtain rfl:=List.length_eq_zero_iff.1 b2
    rw[run_convert_bytes_string w T iZ e none _ cap Vt Vu a3a]
    simp[Conv.bytesToString,a6n]
    rfl
   ·obtain⟨b,off,bT⟩:=aNa b2
    cases bT
 simp[execOp,K,key]
def b0a{a b:ByteArray}{r3 jY gL k6}(dW:hW N.g1 T=some ⟨.string,r3,jY,gL,k6⟩)(K:bF x=.string a)(aS:bF y=.string b)(h:a=b):cP P ⟨dst,.binOp .eql T x y iZ,ty,pos,after,guard⟩ bF L R (.bool true):=λ_ w _=>by
 have a3a:=aJd (N.ok _ _ dW) rfl
 subst h
 simp[execOp,K,aS,eqGuard,binOp,Op.stringOp]
end
section
def Y0(h:A->B:=by exact fP mM rfl rfl rfl rfl):=h
def YP(h:A->B:=by exact fP (FB Ie) rfl rfl rfl rfl):=h
def a5i(h:A->B:=by exact iS N [] [0,1] [2,3] ([bN.mk NT _ _]) _ dO bI bA fM):=h
def aIk(h:A->B:=by exact fP X6 rfl rfl rfl rfl):=h
def aGl(h:A->B:=by exact iS N [] [0,1] [2,3] ([bN.mk h6 _ _]) _ dO bI bA fM):=h
def aEf(h:A->B:=by exact aI mM rfl):=h
def aWv{A:aR}{R:aO}{b:Nat}{T:TypeId}{f:FQ}{aA:a4 bC}(kG:(⟨b,FQ.cells f,T⟩:bN)∈A)(gA:aL (sU aA) R)(b1:-4611686018427387904<=f.zH/\f.zH<=4611686018427387904)(a9E:aA.l.length<=1000):
 aM prog 298 [aA.val,.slice (some ⟨b,0,none⟩) 1 1].toArray A R (λw E G=>∃p:J Int,w=p.val/\p.ok 1 a1/\p.l=[p4 aA.l f]/\A++(p.L 3 a1++[])=E/\R=G):=by
 have X:=aM.Mn (S:=[a5O (⟨some ⟨b,0,none⟩,1,[f]⟩:a4 FQ)]) (Post:=λv E=>∃p:J Int,v=p.val/\p.ok 1 a1/\p.l=[p4 aA.l f]/\p.L 3 a1++[]=E) (zZ.aD (L:=A)) (λw Z b4 s aH=>by
  rw[List.mem_singleton.1 aH];exact VF (p:=(⟨.own b 1 [],[f]⟩:J FQ)) (T:=T) b4 (λe W=>by(have uU:e∈[(⟨b,FQ.cells f,T⟩:bN)]:=by simpa[J.L,g6.L]using W);rw[List.mem_singleton.1 uU];exact kG) (a1y bD rfl aW) bD aW e8)
  ((b0g aA ⟨some ⟨b,0,none⟩,1,[f]⟩ [] _ (gA.mono λr h=>aT (.tail _ h)) mA (λz eW=>by rw[List.mem_singleton.1 eW];exact b1) (show 1<=1000 by decide) a9E).mono λv E G ⟨p,O,X,aU,cK,fY⟩=>⟨⟨p,O,X,aU.trans aJ2,cK⟩,fY⟩)
 exact X.mono λv i6 G ⟨E,e,⟨p,O,X,aU,cK⟩,fY⟩=>⟨p,O,X,aU,by rw[cK];exact e,fY⟩
def aYQ{S:List gP}{m:List eE}{aA:List bC}{c:qM}{w:fU}{t:Int}{gC:bC}(QI:gC=p6 S m c.target t):LL S m aA c w t=
 if c.kind=5 then -(p4 aA ⟨c.target,c.value⟩)else if c.kind=2 then -(uP gC c.value)else if c.kind=3 then Ea gC else if c.kind=4 then(if gC=kH then 1 else -1)
 else if(v4 c.nF w gC t).over=false then -1 else if uP gC c.nF.cut=1 then 1 else 0:=by rw[LL,<-QI]
attribute [local irreducible] cQ dF dV aM cP eC e5 e1 e2 e6 eX e4 J.L
def b0m(s:eA)(c:qM)(w:fU)(m:a4 eE)(aA:a4 bC)(t:Int)(L:aR)(R:aO)(aH:aL (CI s.cO) R)(a3:aL (gT m) R)(gA:aL (sU aA) R)(bH: ∀x∈m.l,v2 x)(fH:0<=t/\t<=2147483648)
 (aG:1<=c.kind/\c.kind<=5) (cY:0<=c.value/\c.value<=1099511627776) (AP:aA.l.length<=1000):
 aM prog 292 [s.val,c.val,w.val,m.val,aA.val,.int .i64 t].toArray L R
  (λv E G=>v=.tuple #[.int .i64 (if CL c w t=0 then LL s.cO.l m.l aA.l c w t else 0),(if CL c w t=0 then DZ s.cO.l m.l c w t else w).val,.int .i64 (CL c w t)]/\L=E/\R=G):=by
 obtain⟨gC,QI⟩:∃gC,gC=p6 s.cO.l m.l c.target t:=⟨_,rfl⟩;have Ap:=aYQ (aA:=aA.l) (w:=w) QI;have W3:DZ s.cO.l m.l c w t=if c.kind=1 then v4 c.nF w gC t else w:=by rw[DZ,QI]
 have AZ:CL c w t=if c.kind=1 then yP c.nF w t else 0:=rfl;refine b6 86 call292 func292 rfl rfl rfl ?_;apply(dB);intro i1;apply(iV);intro o0;apply(iV);intro h6;apply dM∘dZ;intro C2;apply LH∘nJ;refine U ?_ ?_<;>intro aQ;·
  have o2:CL c w t=0:=by rw[AZ,if_neg D]
  have LU:-1<=p4 aA.l ⟨c.target,c.value⟩/\p4 aA.l ⟨c.target,c.value⟩<=1:=by rw[p4,D3];(repeat' split)<;>omega
  refine bK ?_;refine Kn N [] [0,1,2,3,4,5,11,6,7,8,9,10,12] [13,14] ([bN.mk h6 _ _,bN.mk o0 _ _]) [] 13 dO bI rfl rfl bA λlE=>?_;refine nS 0 lE fM bI rfl rfl rfl rfl rfl oS ?_;refine nS 1 lE fM bI rfl rfl rfl rfl rfl xS ?_;refine nS 2 lE fM bI rfl rfl rfl rfl rfl I1 ?_;refine nS 3 lE fM bI rfl rfl rfl rfl rfl xS ?_;refine nS 4 lE fM bI rfl rfl rfl rfl rfl I1 ?_;refine nS 5 lE fM bI rfl rfl rfl rfl rfl Oe ?_;refine nS 11 lE fM bI rfl rfl rfl rfl rfl mM ?_;refine mC [6] lE fM bI ?_;apply(mR);refine qJ rfl a4k rfl rfl ?_;rintro v E G ⟨b8K,rfl,rfl,a8F⟩;replace a8F:=a8F.symm;subst a8F;apply(gJ);refine mC [7] lE fM bI ?_;apply(mR);refine qJ rfl (aEk rfl (aWv (f:=⟨c.target,c.value⟩) (.head _) gA hO AP)) rfl rfl ?_;rintro v E G ⟨p,rfl,iF,eI,rfl,rfl⟩;refine⟨bA,iQ,?_⟩;simp only[oB,pK,nN];have gM:p.l[0]?=some (p4 aA.l ⟨c.target,c.value⟩):=by rw[eI];rfl
  have lK:p.l.length=1:=by rw[eI];rfl
  refine mC [8] lE fM bI ?_;apply(mR);refine qJ rfl (Go.Proofs.YtchfclmokpbldaaGreat.cP.a8g (jA N (p) _ rfl rfl rfl rfl bR (i:=0) dA jC)) rfl rfl ?_;rintro v E G ⟨rfl,rfl,rfl⟩;apply(gJ);refine mC [9] lE fM bI ?_;apply(mR);refine qJ rfl (Go.Proofs.YtchfclmokpbldaaGreat.cP.a8g O2) rfl rfl ?_;rintro v E G ⟨rfl,rfl,rfl⟩;apply(gJ);refine nS 10 lE fM bI rfl rfl rfl rfl rfl (a1e rfl D D) ?_;refine nS 12 lE fM bI rfl rfl rfl rfl rfl (FB Ie) ?_;refine Je lE fM bI rfl ?_;apply(v0);refine g5 (a8 (iY (gB ?_)));refine lH (E:=L) (G:=R) XZ ?aP ?dI ?bO;case aP=>exact⟨by rw[if_pos o2,if_pos o2,o2,W3,if_neg D,Ap,if_pos aQ],rfl,rfl⟩
  case dI=>exact(by repeat(first|exact aCF _ _|apply Cq))
  case bO=>exact n1 _
 apply(e0);refine aI q1 rfl ?_;apply gU∘gK;refine cD rfl (a4M s m c.target t _ _ aH a3 bH fH) ?_;rw[<-QI];apply(dZ);intro Eh;apply(F0);refine eZ (a8 (fR (bK (c2 ?_))));apply(vX);refine U ?_ ?_<;>intro bL;·
  refine bK ?_;refine iS N [] [0,1,2,5,3,4,6] [7,8] ([bN.mk Eh _ _,bN.mk h6 _ _,bN.mk o0 _ _]) _ dO bI bA fM ?_;apply aIk∘mH∘Y0;refine rQ rfl (a7b gC c.value _ _) rfl rfl ?_;rintro v E G ⟨rfl,rfl,rfl⟩;refine⟨bA,iQ,?_⟩;have Fm:-1<=uP gC c.value/\uP gC c.value<=1:=by rw[uP];(repeat' split)<;>omega
  refine fP (a1e rfl D D) rfl rfl rfl rfl ?_;apply YP∘oX∘qV;refine g5 (a8 (iY (iM (gB ?_))));refine bQ L R XZ ?_;have o2:CL c w t=0:=by rw[AZ,if_neg D]
  exact⟨by rw[if_pos o2,if_pos o2,o2,W3,if_neg D,Ap,if_neg aQ,if_pos bL],rfl,rfl⟩
 apply(oI);refine U ?_ ?_<;>intro cC;·
  refine bK ?_;refine iS N [] [0,2,1,3] [4,5] ([bN.mk Eh _ _,bN.mk h6 _ _]) _ dO bI bA fM ?_;apply aIk∘Y0;refine rQ rfl (aX2 gC _ _) rfl rfl ?_;rintro v E G ⟨rfl,rfl,rfl⟩;refine⟨bA,iQ,?_⟩;apply YP∘oX∘qV;refine g5 (a8 (iY (iM (gB ?_))));refine bQ L R XZ ?_;have o2:CL c w t=0:=by rw[AZ,if_neg D]
  exact⟨by rw[if_pos o2,if_pos o2,o2,W3,if_neg D,Ap,if_neg aQ,if_neg bL,if_pos cC],rfl,rfl⟩
 apply(oI);refine U ?_ ?_<;>intro dX;·
  have o2:CL c w t=0:=by rw[AZ,if_neg D]
  refine bK (bK ?_);refine gZ N [0,1,2] ([bN.mk Eh _ _]) dO bI bA ?_;apply(T7);refine lW rfl G5 ?_;refine bE (a01 Kh rfl rfl) rfl rfl rfl ?_;apply(wV);refine U ?_ ?_<;>intro dY;·refine bK ?_;apply aGl∘Y0∘YP∘oX∘qV;refine g5 (a8 (iY (gB (iM (gB ?_)))));refine bQ L R XZ ?_;exact⟨by rw[if_pos o2,if_pos o2,o2,W3,if_neg D,Ap,if_neg aQ,if_neg bL,if_neg cC,if_pos dX,if_pos (R4.2 D)],rfl,rfl⟩
  apply wW∘aGl∘Y0∘YP∘oX∘qV;refine g5 (a8 (iY (iM (gB ?_))));refine bQ L R XZ ?_;exact⟨by rw[if_pos o2,if_pos o2,o2,W3,if_neg D,Ap,if_neg aQ,if_neg bL,if_neg cC,if_pos dX,if_neg (λe=>by rw[R4]at e;omega)],rfl,rfl⟩
 have hE:c.kind=1:=by omega
 rw[if_pos hE]at W3 AZ;refine eP (hI (a8 (bK (c2 ?_))));apply e7∘aEf∘aEf∘nZ∘cE;refine cD rfl (aZY c.nF w gC t _ _) ?_;refine aI iL rfl ?_;apply(CS);intro NT;apply jZ∘PT;refine U ?_ ?_<;>intro h1;·refine bK ?_;refine iS N [73] [0,1,2] [3,4] ([bN.mk h6 _ _]) _ dO bI bA fM ?_;apply(Y0);refine m2 zS rfl rfl rfl rfl ?_;apply YP∘oX∘qV;refine g5 (a8 (iY (gB ?_)));refine bQ L R XZ ?_;exact⟨by rw[if_neg (by rw[AZ];exact h1),if_neg (by rw[AZ];exact h1),AZ],rfl,rfl⟩
 have GK:yP c.nF w t=0:=by omega
 rw[a1v GK];apply D5∘nK;refine U ?_ ?_<;>intro h2;·refine bK ?_;apply a5i∘Y0∘YP∘oX∘qV;refine g5 (a8 (iY (gB ?_)));refine bQ L R XZ ?_;exact⟨by rw[AZ,GK,if_pos rfl,if_pos rfl,W3,Ap,if_neg aQ,if_neg bL,if_neg cC,if_neg dX,if_pos Oh],rfl,rfl⟩
 apply hN∘nZ∘HP;refine cD rfl (a7b gC c.nF.cut _ _) ?_;apply(nJ);refine U ?_ ?_<;>intro n8;·refine bK ?_;apply a5i∘Y0∘YP∘oX∘qV;refine g5 (a8 (iY (gB ?_)));refine bQ L R XZ ?_;exact⟨by rw[AZ,GK,if_pos rfl,if_pos rfl,W3,Ap,if_neg aQ,if_neg bL,if_neg cC,if_neg dX,if_neg Oh,if_pos n8],rfl,rfl⟩
 apply wW∘a5i∘Y0∘YP∘oX∘qV;refine g5 (a8 (iY ?_));refine bQ L R XZ ?_;exact⟨by rw[AZ,GK,if_pos rfl,if_pos rfl,W3,Ap,if_neg aQ,if_neg bL,if_neg cC,if_neg dX,if_neg Oh,if_neg n8],rfl,rfl⟩
end
section
attribute [local irreducible] cQ dF dV aM cP eC e5 e1 e2 e6 eX e4 J.L
def Ed(h:A->B:=by exact bE oS rfl rfl rfl):=h
def a0w(h:B:=by exact⟨.nil,.nil,by rw[W];rfl,⟨J.iJ,J.iJ⟩,by rw[GW,if_pos D],by rw[oR,if_pos D],by rw[mE,mE];rfl,rfl⟩):=h
def aFp(h:A->B:=by exact qJ rfl (pO (f:=a1) (p:=p) (a:=LL s.cO.l m.l aA.l c qZ t) N rfl rfl rfl rfl (iF) cF p2 rfl qI) rfl rfl):=h
def a7k(h:A->B:=by exact qJ rfl Xg rfl rfl):=h
def aUe(h:A->B:=by exact qJ rfl (pO (f:=fU.cells) (p:=q) (a:=DZ s.cO.l m.l c qZ t) N rfl rfl rfl rfl (gR) cF p2 rfl qI) rfl rfl):=h
def aUE(h:A->B:=by exact nS 8 LR fM bI rfl rfl rfl rfl rfl zT):=h
def aTB(h:A->B:=by exact nS 9 LR fM bI rfl rfl rfl rfl rfl zT):=h
def aI6(h:A->B:=by exact gZ N [0,1,2,3,4,5,6,7,8] ([]) dO bI bA):=h
def aUZ(s:eA)(m:a4 eE)(w:a4 fU)(aA:a4 bC)(t:Int)(L:aR)(R:aO)(h:aHW s m w aA R):
 aM prog 263 [s.val,m.val,w.val,aA.val,.int .i64 t].toArray L R
  (λv E G=>∃(p:J Int) (q:J fU),v=.tuple #[p.val,q.val,.int .i64 (pI s m.l w.l aA.l t)]/\(p.ok 1 a1/\q.ok 3 fU.cells)/\p.l=GW s m.l w.l aA.l t/\q.l=oR s m.l w.l aA.l t/\p.L 3 a1++(q.L 153 fU.cells++L)=E/\R=G):=by
 obtain⟨aH,a3,dH,gA,bH⟩:=h;have jB:=aH.cO;have AN:=aH.fC;refine b6 92 call263 func263 rfl rfl rfl ?_;apply(dB);intro gQ;apply wI∘hH;refine aI q1 rfl ?_;refine cD rfl (a5c s _ _ aH) ?_;apply(j7);refine U ?_ ?_<;>intro aQ;·
  apply HO∘JS;refine bQ L R E3 ?_;have W:pI s m.l w.l aA.l t=nO s:=by rw[pI,if_pos aQ]
  exact a0w
 have xH:=JT (s:=s) D;have m6:=xH.len;have Aj:=(yR xH.b0).aC.aJ;apply VR∘kD∘p9;apply cA (Z:=[_,_,_,_,_,_]) (j:=6) (a9:=31) rfl rfl aB rfl aY rfl;·exact a3Z
 intro IJ;apply(dE);apply cA (Z:=[_,_,_,_,_,_,_,_]) (j:=14) (a9:=39) rfl rfl aB rfl aY rfl;·intro pF;replace pF:=bB pF;exact aCX
 intro Q4;apply(b9);refine U ?_ ?_<;>intro bL;·
  apply dC∘JS;refine bQ L R E3 ?_;have W:pI s m.l w.l aA.l t=11:=by rw[pI,if_neg D,if_pos D]
  exact a0w
 apply(LC);apply cA (Z:=[_,_]) (j:=2) (a9:=51) rfl rfl aB rfl aY rfl;·exact G3
 intro mK;apply(b9);refine U ?_ ?_<;>intro cC;·
  apply dC∘JS;refine bQ L R E3 ?_;have W:pI s m.l w.l aA.l t=8:=by rw[pI,if_neg D,if_neg D,if_pos D]
  exact a0w
 have AZ:=aKb (s:=s) (m:=m.l) (w:=w.l) (aA:=aA.l) (t:=t) D D D;apply e0∘vD∘v1∘nP;refine dS [(1,.slice _ _ _),(2,.slice _ _ _),(3,.slice _ _ _),(4,.int _ _),(5,.pointer _),(14,.slice _ _ _),(15,.slice _ _ _),(16,.int _ _)] bV λfK=>?_;refine qK ([10,11,12]++cN 14 6++cN 55 35) ((⟨λg=>[(16,.int .i64 ((g.1.1:Nat):Int)),(14,g.1.2.1.val),(15,g.1.2.2.val)],λg=>g.1.2.1.L 3 a1++(g.1.2.2.L 153 fU.cells++(⟨gQ,s.cells,38⟩::L)),λ_=>R,λg=>w.l.length-g.1.1⟩:fB {g:Nat×J Int×J fU//(g.1<=w.l.length/\(List.range w.l.length).findSome? (HX s w.l t)=((List.range w.l.length).drop g.1).findSome? (HX s w.l t))/\(g.2.1.ok 1 a1/\g.2.2.ok 3 fU.cells)/\g.2.1.l=(List.range g.1).map (Cu s m.l w.l aA.l t)/\g.2.2.l=(List.range g.1).map (Y9 s m.l w.l t)})) (⟨(0,J.nil,J.nil),⟨by dsimp only;omega,by rw[Bx]⟩,⟨J.iJ,J.iJ⟩,rfl,rfl⟩) bV (by dsimp only;rw[mE,mE,nN,nN];exact rH _) eN ?_;rintro⟨⟨k,p,q⟩,⟨aG,aP⟩,⟨iF,gR⟩,eI,fT⟩ cH;try dsimp only
 dsimp only at aG aP iF gR eI fT;have lK:p.l.length=k:=by rw[eI];simp
 have sO:q.l.length=k:=by rw[fT];simp
 apply(uM);refine U ?_ ?_<;>intro dX;·
  have qD:=bJ (l:=s.fC.l) (k:=k) default D;have Uv:=bJ (l:=w.l) (k:=k) default D;have Td:=aIs (xH.cond _ (hV qD));have aMZ:=z2 (f:=HX s w.l t) aP D;have nE:=λ(e:Int) (W:HX s w.l t k=some e)=>wH (f:=HX s w.l t) aP D W;have Al:(List.range (k+1)).map (Cu s m.l w.l aA.l t)=(List.range k).map (Cu s m.l w.l aA.l t)++[Cu s m.l w.l aA.l t k]:=by rw[IX,u1];rfl
  have aM6:(List.range (k+1)).map (Y9 s m.l w.l t)=(List.range k).map (Y9 s m.l w.l t)++[Y9 s m.l w.l t k]:=by rw[IX,u1];rfl
  obtain⟨c,cG⟩:∃c,c=s.fC.l.getD k default:=⟨_,rfl⟩;obtain⟨qZ,W6⟩:∃qZ,qZ=w.l.getD k default:=⟨_,rfl⟩;have aA8:HX s w.l t k=xL (CL c qZ t):=by rw[cG,W6]
  have aA9:Cu s m.l w.l aA.l t k=LL s.cO.l m.l aA.l c qZ t:=by rw[cG,W6]
  have a2x:Y9 s m.l w.l t k=DZ s.cO.l m.l c qZ t:=by rw[cG,W6]
  rw[<-cG]at qD Td;rw[<-W6]at Uv;rw[aA8]at aMZ nE;rw[aA9,<-eI]at Al;rw[a2x,<-fT]at aM6;refine eP (a8 (bK (fR (bK ?_))));refine gZ N [0,1,2,3,4,5,6,7,8,9,10,11,12,13,14,15,16,17,18,19,20,21] ([bN.mk gQ _ _]) dO bI bA ?_;refine bE q1 rfl rfl rfl ?_;apply(HQ);refine bE Wt rfl rfl rfl ?_;apply Ed∘JO∘OO∘Ed∘Ed∘hK;refine lW rfl (b0m s c qZ m aA t _ _ jB a3 gA bH D Td.1 Td.2.1 D) ?_;refine bE iL rfl rfl rfl ?_;iterate 3 refine bE q2 rfl rfl rfl ?_
  apply(qH);intro JX;apply qV∘v0∘L4∘cE∘rR;refine U ?_ ?_<;>intro dY;·apply HO∘wI∘dM∘Bg;refine bQ L R E3 ?_;have i2:=nE (CL c qZ t) (Yj dY);(have W:pI s m.l w.l aA.l t=CL c qZ t:=by rw[AZ,i2];rfl);exact a0w
  have o2:CL c qZ t=0:=by omega
  have TO:=aMZ (by rw[xL,if_pos o2]);rw[if_pos o2,if_pos o2];refine eP (a8 ?_);refine Kn N [] [0,1,4,5,2,3,6,7,8,9] [] ([bN.mk JX _ _]) [] 10 dO bI rfl rfl bA λLR=>?_;refine nS 0 LR fM bI rfl rfl rfl rfl rfl oS ?_;refine nS 1 LR fM bI rfl rfl rfl rfl rfl zS ?_;refine nS 4 LR fM bI rfl rfl rfl rfl rfl oS ?_;refine nS 5 LR fM bI rfl rfl rfl rfl rfl mM ?_;refine mC [2,6] LR fM bI ?_;refine pB ?_ ?_;·
   skip
   apply(aOp);rintro v E G ⟨Lc,rfl,rfl,IB⟩;replace IB:=IB.symm;subst IB;apply(gJ);refine mC [3,6] LR fM bI ?_;refine pB ?_ ?_;·
    skip
    apply(aFp);rintro v E G ⟨a2N,rfl,a2l,rfl,rfl⟩;apply(gJ);refine mC [6] LR fM bI ?_;apply mR∘a7k;rintro v E G ⟨a1G,rfl,rfl,B0⟩;replace B0:=B0.symm;subst B0;exact aRd
   apply mR∘a7k;rintro v E G ⟨a1G,rfl,rfl,B0⟩;replace B0:=B0.symm;subst B0;exact aR1
  apply mR∘a7k;rintro v E G ⟨a1G,rfl,rfl,B0⟩;replace B0:=B0.symm;subst B0;apply(gJ);refine mC [2] LR fM bI ?_;apply mR∘aOp;rintro v E G ⟨Lc,rfl,rfl,IB⟩;replace IB:=IB.symm;subst IB;exact aR1
 obtain rfl:k=w.l.length:=by omega
 have b1:=HV (f:=HX s w.l t) aP (iK _);have W:pI s m.l w.l aA.l t=0:=by rw[AZ,b1];rfl
 apply M9∘gU∘wI∘vB;refine bQ (p.L 3 a1++(q.L 153 fU.cells++L)) R E3 ?_;exact⟨p,q,by rw[W];try rfl,⟨iF,gR⟩,by rw[GW,if_neg D];exact eI,by rw[oR,if_neg D];exact fT,rfl,rfl⟩
def aWF(x y:a4 fU)(L:aR)(R:aO)(K:aL (CJ x) R)(aS:aL (CJ y) R)(W:x.l=y.l):
 aM prog 126 [x.val,y.val].toArray L R (λv E G=>v=.bool true/\L=E/\R=G):=by
 have IF:x.l.length=y.l.length:=by rw[W]
 refine m1 call126 K λQZ=>?_;refine b6 26 call126 func126 rfl rfl rfl ?_;apply VY∘pR∘pR∘rR;refine U ?_ ?_<;>intro aQ;·exact a4b
 apply(yZ);refine dS [(0,.slice _ _ _),(1,.slice _ _ _),(5,.int _ _)] bV λfK=>?_;refine gY ([4,5]++cN 11 15) (λg:{k:Nat//k<=x.l.length}=>[(5,.int .i64 ((g.1:Nat):Int))]) (λg=>x.l.length-g.1) (⟨0,by omega⟩) ?_;rintro⟨k,aG⟩ cH;try dsimp only
 apply(uM);refine U ?_ ?_<;>intro bL;·
  have pX:=bJ (l:=x.l) (k:=k) default D;have W8:y.l[k]?=some (x.l.getD k default):=by rw[<-W];exact pX
  refine eP (a8 (bK (fR (bK ?_))));apply aI6∘Ed∘JO∘OO∘Ed∘JO∘OO;refine bE (Cz aTM rfl rfl DO DO rfl) rfl rfl rfl ?_;exact Nd
 exact Ny
def aWY(x y:a4 b8)(L:aR)(R:aO)(K:aL (sE x) R)(aS:aL (sE y) R)(W:x.l=y.l):
 aM prog 69 [x.val,y.val].toArray L R (λv E G=>v=.bool true/\L=E/\R=G):=by
 have IF:x.l.length=y.l.length:=by rw[W]
 refine m1 call69 K λQZ=>?_;refine b6 26 call69 func69 rfl rfl rfl ?_;apply VY∘pR∘pR∘rR;refine U ?_ ?_<;>intro aQ;·exact a4b
 apply(yZ);refine dS [(0,.slice _ _ _),(1,.slice _ _ _),(5,.int _ _)] bV λfK=>?_;refine gY ([4,5]++cN 11 15) (λg:{k:Nat//k<=x.l.length}=>[(5,.int .i64 ((g.1:Nat):Int))]) (λg=>x.l.length-g.1) (⟨0,by omega⟩) ?_;rintro⟨k,aG⟩ cH;try dsimp only
 apply(uM);refine U ?_ ?_<;>intro bL;·
  have pX:=bJ (l:=x.l) (k:=k) default D;have W8:y.l[k]?=some (x.l.getD k default):=by rw[<-W];exact pX
  refine eP (a8 (bK (fR (bK ?_))));apply aI6∘Ed∘JO∘OO∘Ed∘JO∘OO;refine bE (Cz aXm rfl rfl DO DO rfl) rfl rfl rfl ?_;exact Nd
 exact Ny
end
end Go.Proofs.YtchfclmokpbldaaGreat
