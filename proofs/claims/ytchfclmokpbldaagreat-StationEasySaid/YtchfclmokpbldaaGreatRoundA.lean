-- By an AI agent; no person has read it.
import Derived.Test.YtchfclmokpbldaaGreatSiteD
import Derived.Test.YtchfclmokpbldaaGreatOwn
import Derived.RangeFuncRecord
import Derived.RangeFuncSeq
set_option linter.all false
set_option maxHeartbeats 4000000
variable{A B:Prop}
namespace Go.Proofs.YtchfclmokpbldaaGreat
open Go.Aw Go Go.Proofs.Tryz
def a0A(h:A->B:=by exact nS 12 lE fM bI rfl rfl rfl rfl rfl aQH):=h
def YW(h:A->B:=by exact qJ rfl (I5 (iD:=[(0,(Value.agg _).cells.toList)]) (dD:=[_,_,_,_,_,_]) N rfl rfl rfl rfl rfl rfl rfl) rfl rfl):=h
def NJ(h:A->B:=by exact qJ rfl (I5 (iD:=[(0,(Value.agg _).cells.toList)]) (dD:=[_,_,_,_,_,_,_,_]) N rfl rfl rfl rfl rfl rfl rfl) rfl rfl):=h
def NK(h:A->B:=by exact qJ rfl (I5 (iD:=[(0,(Value.agg _).cells.toList),(1,(Value.agg _).cells.toList)]) (dD:=[_,_]) N rfl rfl rfl rfl rfl rfl rfl) rfl rfl):=h
def YI(h:A->B:=by exact qJ rfl (aEk rfl (a68 KS DE hE D)) rfl rfl):=h
def YE(h:A->B:=by exact nS 6 lE fM bI rfl rfl rfl rfl rfl (oU (iD:=[(0,(Value.int _ _).cells.toList),(1,(Value.int _ _).cells.toList),(2,(Value.int _ _).cells.toList)]) (dD:=[_,_,_]) N rfl rfl rfl rfl)):=h
def YF(h:A->B:=by exact nS 7 lE fM bI rfl rfl rfl rfl rfl (oU (iD:=[(0,(Value.int _ _).cells.toList),(3,(Value.agg _).cells.toList)]) (dD:=[_,_,_,_,_,_]) N rfl rfl rfl rfl)):=h
def aGP(h:A->B:=by exact hT Xf rfl):=h
def aFC(h:A->B:=by exact aI (oU (iD:=[(0,(Value.int _ _).cells.toList),(3,(Value.bool _).cells.toList)]) (dD:=[_,_,_,_,_]) N rfl rfl rfl rfl) rfl):=h
def aK4(h:A->B:=by exact hT aCM rfl):=h
structure bS where
 bG:Int
 cZ:Int
 c1:Int
 eJ:Bool
 bY:Bool
 deriving Inhabited,DecidableEq
def bS.cells(x:bS):List Value:=[.int .i64 x.bG,.int .i64 x.cZ,.int .i64 x.c1,.bool x.eJ,.bool x.bY]
abbrev bS.val(x:bS):Value:=.agg #[.int .i64 x.bG,.int .i64 x.cZ,.int .i64 x.c1,.bool x.eJ,.bool x.bY]
structure hJ where
 aZ:a4 bS
 a2:a4 Int
 cB:Int
def hJ.cells(x:hJ):List Value:=[x.aZ.val,x.a2.val,.int .i64 x.cB]
abbrev hJ.val(x:hJ):Value:=.agg #[x.aZ.val,x.a2.val,.int .i64 x.cB]
abbrev s4(x:a4 bS):fJ:=x.gN 5 bS.cells []
def b6P{x:bN}{l m:aR}(h:l.Perm m):(x::l).Perm (x::m):=h.cons x
def aOi{a x:bN}{l m:aR}(h:(a::l).Perm m):(a::x::l).Perm (x::m):=(List.Perm.swap x a l).trans (h.cons x)
def KG{a b x:bN}{l m:aR}(h:(a::b::l).Perm m):(a::b::x::l).Perm (x::m):=((List.Perm.swap x b l).cons a).trans (aOi h)
def b6Q{a b c x:bN}{l m:aR}(h:(a::b::c::l).Perm m):(a::b::c::x::l).Perm (x::m):=(((List.Perm.swap x c l).cons b).cons a).trans (KG h)
def a4t(len:Int):qN:=⟨0,1,len,4,false,false,⟨1,1⟩,⟨90000,90000⟩⟩
def a1M:gP:=⟨0,1,0,0,1000,1,1000,60⟩
def KZ(qQ:Int):qM:=⟨1,0,0,⟨100,60,qQ⟩⟩
structure Ow(s:eA)(len qQ dG:Int):Prop where
 places:s.b0.aC.places.l=[⟨0,true⟩,⟨0,true⟩]
 aJ:s.b0.aC.aJ.l=[a4t len]
 c3:s.b0.c3.l=[]
 cM:s.b0.cM.l=[]
 OP:s.cO.l=[a1M]
 fC:s.fC.l=[KZ qQ]
 dN:∃z:kW,s.a2.l=[z]/\z.jN.l=[⟨1,0,0,0⟩]/\z.hold=dG/\z.aJ.l=[0]/\z.uR=1
 bBd:s.a2.cap=1
 aBQ:s.lM.l=[1,2]
 IR:(1<=len/\len<=4)/\(1<=qQ/\qQ<=5)/\1<=dG/\dG<=5
def LM(n:Nat):List bS:=(List.range n).map λ(i:Nat)=>⟨(i:Int)-1,0,0,true,false⟩
def aX6{n:Nat}:(LM n).length=n:=by simp[LM]
def b0N{n:Nat}:LM (n+1)=LM n++[⟨(n:Int)-1,0,0,true,false⟩]:=by rw[LM,IX,u1];rfl
set_option maxRecDepth 20000
attribute [local irreducible] cQ dF dV aM cP eC e5 e1 e2 e6 eX e4 J.L
structure aTs where
 gL:Nat
 eH:Nat
 eS:Nat
 gQ:Nat
def aWW(c:Nat)(x:a4 Int)(k:Nat)(R:aO)(K:wE x R)(aG:k<=x.l.length):
 aM prog 15 [.pointer (some ⟨c,0,none⟩)].toArray [sK c x k] R
  (λv E G=>∃(s:eA) (len qQ dG:Int) (Y:J bS) (cI:J Int) (n g3:Nat),v=.tuple #[s.val,.agg #[Y.val,cI.val,.int .i64 3]]/\Ow s len qQ dG/\(Y.ok 5 bS.cells/\cI.ok 1 a1)/\(1<=n/\n<=3)/\Y.l=LM n/\cI.l=[(n:Int)-1]/\(g3<=x.l.length/\(x.l.length<=k->len=1/\qQ=1/\dG=1/\n=1/\g3=k))/\(zY s G/\∀r∈R,aL r G)/\Y.L 76 bS.cells++(cI.L 3 a1++(sK c x g3::[]))=E):=by
 refine b6 68 call15 func15 rfl rfl rfl ?_;apply dC∘dZ;intro eH;apply(dZ);intro eS;apply(j8);refine aI aQD rfl ?_;refine aI aQD rfl ?_;refine hT aCJ rfl ?_;rintro v E G ⟨i0,rfl,rfl,Ew⟩;replace Ew:=Ew.symm;subst Ew;refine FL (aN:=2) (len:=2) (cap:=2) (rows:=[yX.cells ⟨0,true⟩,yX.cells ⟨0,true⟩]) (eU:=[]) rfl aW aW (λr M=>by simp only[sW,vR,or_false]at M;rcases M with rfl|rfl<;>rfl) aW rfl e8 ?_;apply(lX);refine dT rfl (a68 KS (K.mono λr h=>aT (.tail _ h)) aG D) rfl ?_;rintro v E G ⟨Hn,g9,rfl,LP,aLI,hE,b3i,rfl,rfl⟩;apply A4∘A4;refine aI (oU (iD:=[(1,(Value.int _ _).cells.toList),(2,(Value.int _ _).cells.toList),(3,(Value.int _ _).cells.toList),(6,(Value.agg _).cells.toList),(7,(Value.agg _).cells.toList)]) (dD:=[_,_,_,_,_,_,_,_,_,_]) N rfl rfl rfl rfl) rfl ?_;refine hT (I5 (iD:=[(0,(Value.agg _).cells.toList)]) (dD:=[_,_,_,_,_,_,_,_,_,_]) N rfl rfl rfl rfl rfl rfl rfl) rfl ?_;rintro v E G ⟨NT,rfl,rfl,Ey⟩;replace Ey:=Ey.symm;subst Ey;refine FL (aN:=10) (len:=1) (cap:=1) (rows:=[qN.cells (a4t Hn)]) (eU:=[]) rfl aW aW (λr M=>by rw[List.mem_singleton.1 M];rfl) aW rfl e8 ?_;refine aI a4i rfl ?_;apply(dZ);intro eD;apply(HT);refine Qu 4 (Qu 3 ?_);obtain⟨c9,eI⟩:∃c9:a4 yX,c9=⟨some ⟨i0,0,none⟩,2,[⟨0,true⟩,⟨0,true⟩]⟩:=⟨_,rfl⟩;obtain⟨Vr,aAU⟩:∃Vr:a4 qN,Vr=⟨some ⟨NT,0,none⟩,1,[a4t Hn]⟩:=⟨_,rfl⟩;obtain⟨gS,BZ⟩:∃gS,gS=V8 ⟨none,0,[]⟩::Em ⟨none,0,[]⟩::Bm Vr::OM c9::R:=⟨_,rfl⟩;have kJ:∀r∈R,aL r gS:=λr M=>aT (by rw[BZ];exact .tail _ (.tail _ (.tail _ (.tail _ M))));have b41:aL (OM c9) gS:=aT (by rw[BZ];exact .tail _ (.tail _ (.tail _ (.head _))));have b5m:aL (Bm Vr) gS:=aT a3W;have b3A:aL (Em ⟨none,0,[]⟩) gS:=aT Xi;have b3h:aL (V8 ⟨none,0,[]⟩) gS:=aT Xp;have DE:=K.mono kJ;refine wK (show _=gS by rw[BZ,eI,aAU];rfl) ?_;refine a1w (cN 18 13++[5]) ((⟨λg=>[(5,.pointer (some ⟨g.1.gQ,0,none⟩))],λg=>⟨g.1.gQ,[.slice (some ⟨i0,0,none⟩) 2 2,.slice (some ⟨NT,0,none⟩) 1 1,.slice none 0 0,.slice none 0 0,.slice (some ⟨g.1.gL,0,none⟩) 1 1,.slice (some ⟨g.1.eH,0,none⟩) 1 1,.slice none 0 0,.slice (some ⟨g.1.eS,0,none⟩) 2 2],38⟩::⟨g.1.eS,[.int .i64 1,.int .i64 2],170⟩::⟨g.1.eH,qM.cells (KZ g.2.1.1),102⟩::⟨g.1.gL,a1M.cells,88⟩::⟨eD,[.slice (some ⟨i0,0,none⟩) 2 2,.slice (some ⟨NT,0,none⟩) 1 1],28⟩::⟨eS,[.slice none 0 0,.slice none 0 0,.int .i64 0],42⟩::⟨eH,[.slice none 0 0,.slice none 0 0,.slice none 0 0,.slice none 0 0,.slice none 0 0,.slice none 0 0,.slice none 0 0,.slice none 0 0],38⟩::sK c x g.2.1.2::[],λ_=>gS,λ_=>0⟩:fB (aTs×{g:Int×Nat//(1<=g.1/\g.1<=5)/\g.2<=x.l.length/\(x.l.length<=g9->g.1=1/\g.2=g9)}))) ?_ ?_;·
  skip
  refine Kn N [] [0,1,2,4,9,10,3,5,6,7,8,11,12,13] [14] ([bN.mk eD _ _]) [] 14 dO bI rfl rfl bA λlE=>?_;refine nS 0 lE fM bI rfl rfl rfl rfl rfl X6 ?_;refine nS 1 lE fM bI rfl rfl rfl rfl rfl aTo ?_;refine nS 2 lE fM bI rfl rfl rfl rfl rfl (oU (iD:=[(1,(Value.int _ _).cells.toList),(4,(Value.int _ _).cells.toList),(5,(Value.int _ _).cells.toList),(6,(Value.int _ _).cells.toList),(7,(Value.int _ _).cells.toList)]) (dD:=[_,_,_,_,_,_,_,_]) N rfl rfl rfl rfl) ?_;refine nS 4 lE fM bI rfl rfl rfl rfl rfl (CH Cc) ?_;refine nS 9 lE fM bI rfl rfl rfl rfl rfl aQL ?_;refine nS 10 lE fM bI rfl rfl rfl rfl rfl aQL ?_;refine mC [3,5,11,13] lE fM bI ?_;refine pB ?_ ?_;·
   skip
   apply(NJ);rintro v E G ⟨y4,rfl,rfl,l4⟩;replace l4:=l4.symm;subst l4;apply(gJ);refine mC [5,11,13] lE fM bI ?_;refine pB ?_ ?_;·
    skip
    apply(YI);rintro v E G ⟨A6,fI,rfl,y7,S5,l5,EO,rfl,rfl⟩;refine⟨bA,iQ,?_⟩;apply YE∘YF;exact aPa
   refine pB ?_ ?_;·
    skip
    apply(NK);rintro v E G ⟨xB,rfl,rfl,k8⟩;replace k8:=k8.symm;subst k8;exact aOV
   apply(mR);refine qJ rfl OY rfl rfl ?_;rintro v E G ⟨gQ,rfl,rfl,kO⟩;replace kO:=kO.symm;subst kO;exact aOW
  refine pB ?_ ?_;·
   skip
   apply(YI);rintro v E G ⟨A6,fI,rfl,y7,S5,l5,EO,rfl,rfl⟩;refine⟨bA,iQ,?_⟩;apply YE∘YF;refine mC [3,8,11,13] lE fM bI ?_;refine pB ?_ ?_;·
    skip
    apply(NJ);rintro v E G ⟨y4,rfl,rfl,l4⟩;replace l4:=l4.symm;subst l4;apply(gJ);exact aPa
   refine pB ?_ ?_;·
    skip
    apply(YW);rintro v E G ⟨QB,rfl,rfl,rX⟩;replace rX:=rX.symm;subst rX;apply(gJ);refine mC [3,11,13] lE fM bI ?_;refine pB ?_ ?_;·
     skip
     apply(NJ);rintro v E G ⟨y4,rfl,rfl,l4⟩;replace l4:=l4.symm;subst l4;exact aPD
    refine pB ?_ ?_;·
     skip
     apply(NK);rintro v E G ⟨xB,rfl,rfl,k8⟩;replace k8:=k8.symm;subst k8;exact aPE
    apply(mR);refine qJ rfl OY rfl rfl ?_;rintro v E G ⟨gQ,rfl,rfl,kO⟩;replace kO:=kO.symm;subst kO;exact aPF
   refine pB ?_ ?_;·
    skip
    apply(NK);rintro v E G ⟨xB,rfl,rfl,k8⟩;replace k8:=k8.symm;subst k8;apply(gJ);exact aPb
   apply(mR);refine qJ rfl OY rfl rfl ?_;rintro v E G ⟨gQ,rfl,rfl,kO⟩;replace kO:=kO.symm;subst kO;apply(gJ);exact aPc
  refine pB ?_ ?_;·
   skip
   apply(NK);rintro v E G ⟨xB,rfl,rfl,k8⟩;replace k8:=k8.symm;subst k8;apply(gJ);refine mC [3,5,13] lE fM bI ?_;refine pB ?_ ?_;·
    skip
    apply(NJ);rintro v E G ⟨y4,rfl,rfl,l4⟩;replace l4:=l4.symm;subst l4;exact aOV
   refine pB ?_ ?_;·
    skip
    apply(YI);rintro v E G ⟨A6,fI,rfl,y7,S5,l5,EO,rfl,rfl⟩;refine⟨bA,iQ,?_⟩;apply YE∘YF;exact aPb
   apply(mR);refine qJ rfl OY rfl rfl ?_;rintro v E G ⟨gQ,rfl,rfl,kO⟩;replace kO:=kO.symm;subst kO;exact aOO
  apply(mR);refine qJ rfl OY rfl rfl ?_;rintro v E G ⟨gQ,rfl,rfl,kO⟩;replace kO:=kO.symm;subst kO;apply(gJ);refine mC [3,5,11] lE fM bI ?_;refine pB ?_ ?_;·
   skip
   apply(NJ);rintro v E G ⟨y4,rfl,rfl,l4⟩;replace l4:=l4.symm;subst l4;exact aOW
  refine pB ?_ ?_;·
   skip
   apply(YI);rintro v E G ⟨A6,fI,rfl,y7,S5,l5,EO,rfl,rfl⟩;refine⟨bA,iQ,?_⟩;apply YE∘YF;exact aPc
  apply mR∘NK;rintro v E G ⟨xB,rfl,rfl,k8⟩;replace k8:=k8.symm;subst k8;exact aOO
 rintro⟨⟨y4,QB,xB,gQ⟩,⟨⟨A6,fI⟩,⟨y7,S5⟩,l5,EO⟩⟩ cH;try dsimp only
 dsimp only at y7 S5 l5 EO;refine Pd (A:=[_]) (aN:=1) (len:=2) (cap:=2) (rows:=[a1 1,a1 2]) (eU:=[]) rfl aW aW (λr M=>by simp only[sW,vR,or_false]at M;rcases M with rfl|rfl<;>rfl) aW rfl e8 ?_;apply(L3);refine Pd (A:=[_]) (aN:=6) (len:=1) (cap:=1) (rows:=[qM.cells (KZ A6)]) (eU:=[]) rfl aW aW (λr M=>by rw[List.mem_singleton.1 M];rfl) aW rfl e8 ?_;apply(L3);refine Pd (A:=[_]) (aN:=8) (len:=1) (cap:=1) (rows:=[gP.cells a1M]) (eU:=[]) rfl aW aW (λr M=>by rw[List.mem_singleton.1 M];rfl) aW rfl e8 ?_;apply(L3);obtain⟨Mz,GK⟩:∃Mz:a4 gP,Mz=⟨some ⟨y4,0,none⟩,1,[a1M]⟩:=⟨_,rfl⟩;obtain⟨Lf,EN⟩:∃Lf:a4 qM,Lf=⟨some ⟨QB,0,none⟩,1,[KZ A6]⟩:=⟨_,rfl⟩;obtain⟨ps,nE⟩:∃ps:a4 Int,ps=⟨some ⟨xB,0,none⟩,2,[1,2]⟩:=⟨_,rfl⟩;obtain⟨hG,C5⟩:∃hG,hG=CI Mz::Iz Lf::dU ps::gS:=⟨_,rfl⟩;have kY:∀r∈gS,aL r hG:=λr M=>aT (by rw[C5];exact .tail _ (.tail _ (.tail _ M)));have b5r:aL (CI Mz) hG:=aT Xq;have b29:aL (Iz Lf) hG:=aT a32;have b43:aL (dU ps) hG:=aT a3X;have QY:=DE.mono kY;refine wK (show _=hG by rw[C5,GK,EN,nE];rfl) ?_;apply(dC);refine aI aTk rfl ?_;apply(aGP);rintro v E G ⟨LN,rfl,rfl,QG⟩;replace QG:=QG.symm;subst QG;refine FL (aN:=4) (len:=1) (cap:=1) (rows:=[jE.cells ⟨1,0,0,0⟩]) (eU:=[]) rfl aW aW (λr M=>by rw[List.mem_singleton.1 M];rfl) aW rfl e8 ?_;apply(lX);refine dT rfl (a68 KS (QY.mono λr h=>aT (.tail _ h)) l5 D) rfl ?_;rintro v E G ⟨UB,o5,rfl,Sn,b9f,DA,b3j,rfl,rfl⟩;apply(GU);rintro v E G ⟨a7U,rfl,rfl,a8I⟩;replace a8I:=a8I.symm;subst a8I;refine FL (aN:=1) (len:=1) (cap:=1) (rows:=[a1 0]) (eU:=[]) rfl aW aW (λr M=>by rw[List.mem_singleton.1 M];rfl) aW rfl e8 ?_;refine aI (oU (iD:=[(0,(Value.slice _ _ _).cells.toList),(1,(Value.int _ _).cells.toList),(2,(Value.slice _ _ _).cells.toList),(3,(Value.int _ _).cells.toList)]) (dD:=[_,_,_,_]) N rfl rfl rfl rfl) rfl ?_;apply(aGP);rintro v E G ⟨QC,rfl,rfl,QH⟩;replace QH:=QH.symm;subst QH;refine FL (aN:=4) (len:=1) (cap:=1) (rows:=[kW.cells ⟨⟨some ⟨LN,0,none⟩,1,[⟨1,0,0,0⟩]⟩,UB,⟨some ⟨a7U,0,none⟩,1,[0]⟩,1⟩]) (eU:=kW.eU ⟨⟨some ⟨LN,0,none⟩,1,[⟨1,0,0,0⟩]⟩,UB,⟨some ⟨a7U,0,none⟩,1,[0]⟩,1⟩) rfl aW aW (λr M=>by rw[List.mem_singleton.1 M];rfl) aW rfl (λs aH=>by simp only[sW,vR,or_false]at aH;rcases aH with rfl|rfl;exact aT (.tail _ (.head _));exact aT (.head _)) ?_;apply FT∘j2;obtain⟨cI,KC⟩:∃cI:kW,cI=⟨⟨some ⟨LN,0,none⟩,1,[⟨1,0,0,0⟩]⟩,UB,⟨some ⟨a7U,0,none⟩,1,[0]⟩,1⟩:=⟨_,rfl⟩;obtain⟨UL,zE⟩:∃UL:a4 kW,UL=⟨some ⟨QC,0,none⟩,1,[cI]⟩:=⟨_,rfl⟩;obtain⟨oV,F8⟩:∃oV,oV=VL UL::dU cI.aJ::D1 cI.jN::hG:=⟨_,rfl⟩;have NY:∀r∈hG,aL r oV:=λr M=>aT (by rw[F8];exact .tail _ (.tail _ (.tail _ M)));have b59:aL (VL UL) oV:=aT a36;have b5P:=QY.mono NY;refine wK (show _=oV by rw[F8,zE,KC];rfl) ?_;apply eB∘GU;rintro v E G ⟨V7,rfl,rfl,Fe⟩;replace Fe:=Fe.symm;subst Fe;apply aFC∘aK4;rintro v E G ⟨b1h,rfl,rfl,a8K⟩;replace a8K:=a8K.symm;subst a8K;refine aI (oU (iD:=[(2,(Value.int _ _).cells.toList),(1,(Value.slice _ _ _).cells.toList),(0,(Value.slice _ _ _).cells.toList)]) (dD:=[_,_,_]) N rfl rfl rfl rfl) rfl ?_;apply(dZ);intro i1;apply rT∘lX;refine dT rfl (aVs KS b5P DA D) rfl ?_;rintro v E G ⟨Hg,fZ,rfl,a8e,b1L,b9g,B4,b3k,rfl,rfl⟩;have b9h:=b1L D;apply(nP);refine dS [(2,.pointer _),(3,.pointer _),(5,.pointer _),(6,.pointer _),(7,.int _ _)] bV λfK=>?_;refine qK ([7]++cN 45 21) ((⟨λg=>[(7,.int .i64 g.1.1)],λg=>⟨i1,[g.1.2.1.val,.slice (some ⟨V7,0,none⟩) 1 1,.int .i64 3],42⟩::(g.1.2.1.L 76 bS.cells++((⟨.own V7 1 [],g.1.2.2⟩:J Int).L 3 a1++(⟨gQ,[.slice (some ⟨i0,0,none⟩) 2 2,.slice (some ⟨NT,0,none⟩) 1 1,.slice none 0 0,.slice none 0 0,.slice (some ⟨y4,0,none⟩) 1 1,.slice (some ⟨QB,0,none⟩) 1 1,.slice (some ⟨QC,0,none⟩) 1 1,.slice (some ⟨xB,0,none⟩) 2 2],38⟩::⟨eD,[.slice (some ⟨i0,0,none⟩) 2 2,.slice (some ⟨NT,0,none⟩) 1 1],28⟩::⟨eS,[.slice none 0 0,.slice none 0 0,.int .i64 0],42⟩::⟨eH,[.slice none 0 0,.slice none 0 0,.slice none 0 0,.slice none 0 0,.slice none 0 0,.slice none 0 0,.slice none 0 0,.slice none 0 0],38⟩::sK c x fZ::[]))),λ_=>oV,λg=>g.1.1.toNat⟩:fB {g:Int×J bS×List Int//(0<=g.1/\(g.2.1.l.length:Int)+g.1=1+Hg/\1<=g.2.1.l.length)/\g.2.1.ok 5 bS.cells/\g.2.1.l=LM g.2.1.l.length/\g.2.2=[(g.2.1.l.length:Int)-1]})) (⟨(Hg,(⟨.own b1h 1 [],[⟨-1,0,0,true,false⟩]⟩:J bS),[0]),by dsimp only[List.length_cons,List.length_nil];omega,a1y bD rfl aW,rfl,rfl⟩) bV (by dsimp only;rw[<-aFL (f:=bS.cells) (n:=1) [⟨-1,0,0,true,false⟩] rfl,<-aFL (f:=a1) (n:=1) [0] rfl];exact rH _) eN ?_;rintro⟨⟨n,Y,w1⟩,b1,xH,m6,sP⟩ cH;try dsimp only
 dsimp only at b1 xH m6 sP;apply FR∘HS;refine U ?_ ?_<;>intro aQ;·
  apply j9∘fD∘kD∘j3∘aFC∘aK4;rintro v E G ⟨b8O,rfl,rfl,a8P⟩;replace a8P:=a8P.symm;subst a8P;refine hT (pO (f:=bS.cells) (p:=Y) (a:=⟨(Y.l.length:Int)-1,0,0,true,false⟩) N rfl rfl rfl rfl (xH) cF p2 rfl qI) rfl ?_;rintro v E G ⟨b6D,rfl,b4F,rfl,rfl⟩;apply FT∘b9;have aMC:(Y.l++[(⟨(Y.l.length:Int)-1,0,0,true,false⟩:bS)]).length=Y.l.length+1:=by simp
  have bAj:w1.length=1:=by rw[sP];rfl
  have aBj:w1[0]?=some ((Y.l.length:Int)-1):=by rw[sP];rfl
  have a2E:(⟨.own V7 1 [],w1⟩:J Int).ok 1 a1:=by rw[sP];exact a1y HW rfl aW
  apply eB∘fD∘kD;refine aI (aHw rfl rfl hO hO) rfl ?_;refine aI (jA N ((⟨.own V7 1 [],w1⟩:J Int)) _ rfl rfl (by rw[sP];rfl) rfl bR (i:=0) dA jC) rfl ?_;refine jH (j5 N ((⟨.own V7 1 [],w1⟩:J Int)) (((Y.l++[(⟨(Y.l.length:Int)-1,0,0,true,false⟩:bS)]).length:Int)-1) rfl rfl rfl rfl cF bR bD bR aW aB aB) ?_;rintro v E G ⟨rfl,rfl⟩;apply RD∘Y4;exact eO ⟨(n-1,(⟨b6D,Y.l++[⟨(Y.l.length:Int)-1,0,0,true,false⟩]⟩:J bS),w1.set 0 (((Y.l++[(⟨(Y.l.length:Int)-1,0,0,true,false⟩:bS)]).length:Int)-1)),by dsimp only;rw[aMC];omega,b4F,by dsimp only;rw[aMC,b0N,<-m6],by dsimp only;rw[sP];rfl⟩
 apply(Hk);refine iS N [67] [0,1] [2,3] ([bN.mk i1 _ _,bN.mk gQ _ _]) _ dO bI bA (by(repeat(first|apply List.Sublist.cons (a:=bN.mk eH _ _)|apply List.Sublist.cons (a:=bN.mk eS _ _)|apply List.Sublist.cons_cons));exact rH _) ?_;refine fP q1 rfl rfl rfl rfl ?_;refine m2 mM rfl rfl rfl rfl ?_;apply oX∘uC;refine g5 (a8 (iY ?_));refine bQ (Y.L 76 bS.cells++((⟨.own V7 1 [],w1⟩:J Int).L 3 a1++(sK c x fZ::[]))) oV (yK rfl (K0 (row:=[_,_,_,_,_,_,_,_]) N rfl rfl rfl n0 aB aB) Ii) ?_;have a2E:(⟨.own V7 1 [],w1⟩:J Int).ok 1 a1:=by rw[sP];exact a1y HW rfl aW
 have Vz:∀r∈gS,aL r oV:=λr M=>(kY r M).mono NY;refine⟨⟨⟨⟨c9,Vr⟩,⟨none,0,[]⟩,⟨none,0,[]⟩⟩,Mz,Lf,UL,ps⟩,Hn,A6,UB,Y,⟨.own V7 1 [],w1⟩,Y.l.length,fZ,?_,⟨by rw[eI],by rw[aAU],rfl,rfl,by rw[GK],by rw[EN],⟨cI,by rw[zE],by rw[KC],by rw[KC],by rw[KC],by rw[KC]⟩,by rw[zE],by rw[nE],by omega⟩,⟨xH,a2E⟩,by omega,m6,sP,⟨B4,λh=>by have uB:=b3i h;have fW:=EO D;have jU:=b3j D;have Vp:=b3k D;omega⟩,⟨⟨⟨b41.mono Vz,b5m.mono Vz,b3A.mono Vz,b3h.mono Vz⟩,b5r.mono NY,b29.mono NY,b59,b43.mono NY⟩,λr M=>(kJ r M).mono Vz⟩,rfl⟩;rw[eI,aAU,GK,EN,zE,nE,sP];rfl
end Go.Proofs.YtchfclmokpbldaaGreat
namespace Go.Proofs.YtchfclmokpbldaaGreat
open Go.Aw Go Go.Proofs.Tryz
section
attribute [local irreducible] cQ dF dV aM cP eC e5 e1 e2 e6 eX e4 J.L
def aK2(h:A->B:=by exact aI (jA N ((⟨.own Lb f.aZ.l.length [],q⟩:J Bool)) _ rfl rfl ((show _=Value.slice _ _ _ from rfl).trans (w6 fT)) rfl bR (i:=(f.a2.l.getD i 0).toNat) dA jC) rfl):=h
structure k0(f:hJ)(R:aO):Prop where
 Y:aL (s4 f.aZ) R
 cI:aL (dU f.a2) R
def k0.mono{f:hJ}{R G:aO}(h:k0 f R)(k:∀r∈R,aL r G):k0 f G:=⟨h.Y.mono k,h.cI.mono k⟩
def yQ(l:List bS)(i:Nat):Option Int:=
 if(l.getD i default).bG< -1\/(i:Int)<=(l.getD i default).bG then some 16
 else if(l.getD i default).cZ<0\/2147483648<(l.getD i default).cZ then some 8
 else if((l.getD i default).c1< -1\/1<(l.getD i default).c1)\/(l.getD i default).bY=true/\((l.getD i default).eJ=true\/(l.getD i default).c1= -1)then some 10 else none
def DX(n:Nat)(z:List Int)(i:Nat):Option Int:=
 if z.getD i 0<0\/(n:Int)<=z.getD i 0 then some 16 else if∃k:Nat,k<i/\z.getD k 0=z.getD i 0 then some 17 else none
def jS(Y:List bS)(cI:List Int)(bX:Int):Int:=
 if 32<Y.length\/16<cI.length then 2
 else match(List.range Y.length).findSome? (yQ Y)with
  |some e=>e
  |none=>match(List.range cI.length).findSome? (DX Y.length cI)with
   |some e=>e
   |none=>if bX<1\/100000<bX then 1 else 0
def Qt{Y:List bS}{cI:List Int}{bX e:Int}(b2:¬(32<Y.length\/16<cI.length))(h:(List.range Y.length).findSome? (yQ Y)=some e):jS Y cI bX=e:=by rw[jS,if_neg b2,h]
def Ph{Y:List bS}{cI:List Int}{bX e:Int}(b2:¬(32<Y.length\/16<cI.length))(O:(List.range Y.length).findSome? (yQ Y)=none)(h:(List.range cI.length).findSome? (DX Y.length cI)=some e):jS Y cI bX=e:=by rw[jS,if_neg b2,O,h]
def Iw{Y:List bS}{cI:List Int}{bX:Int}(b2:¬(32<Y.length\/16<cI.length))(O:(List.range Y.length).findSome? (yQ Y)=none)(X:(List.range cI.length).findSome? (DX Y.length cI)=none):jS Y cI bX=if bX<1\/100000<bX then 1 else 0:=by rw[jS,if_neg b2,O,X]
def a7m{l:List bS}{i:Nat}{x:bS}(K:x=l.getD i default)(O:¬(x.bG< -1\/(i:Int)<=x.bG))(X:¬(x.cZ<0\/2147483648<x.cZ))(aU:¬((x.c1< -1\/1<x.c1)\/x.bY=true/\(x.eJ=true\/x.c1= -1))):yQ l i=none:=by rw[yQ,<-K,if_neg O,if_neg X,if_neg aU]
def aVf{l:List bS}{i:Nat}{x:bS}(K:x=l.getD i default)(O:x.bG< -1\/(i:Int)<=x.bG):yQ l i=some 16:=by rw[yQ,<-K,if_pos O]
def aZP{l:List bS}{i:Nat}{x:bS}(K:x=l.getD i default)(O:¬(x.bG< -1\/(i:Int)<=x.bG))(X:x.cZ<0\/2147483648<x.cZ):yQ l i=some 8:=by rw[yQ,<-K,if_neg O,if_pos X]
def aVz{l:List bS}{i:Nat}{x:bS}(K:x=l.getD i default)(O:¬(x.bG< -1\/(i:Int)<=x.bG))(X:¬(x.cZ<0\/2147483648<x.cZ))(aU:(x.c1< -1\/1<x.c1)\/x.bY=true/\(x.eJ=true\/x.c1= -1)):yQ l i=some 10:=by rw[yQ,<-K,if_neg O,if_neg X,if_pos aU]
def aKJ{n:Nat}{z:List Int}{i:Nat}(h:z.getD i 0<0\/(n:Int)<=z.getD i 0):DX n z i=some 16:=by rw[DX,if_pos h]
def aE3{n:Nat}{z:List Int}{i:Nat}(h:¬(z.getD i 0<0\/(n:Int)<=z.getD i 0))(X:∃k:Nat,k<i/\z.getD k 0=z.getD i 0):DX n z i=some 17:=by rw[DX,if_neg h,if_pos X]
def a63{n:Nat}{z:List Int}{i:Nat}(h:¬(z.getD i 0<0\/(n:Int)<=z.getD i 0))(X:¬∃k:Nat,k<i/\z.getD k 0=z.getD i 0):DX n z i=none:=by rw[DX,if_neg h,if_neg X]
structure Dc(n:Nat)(z:List Int)(i:Nat)(l:List Bool):Prop where
 len:l.length=n
 KD:∀j:Nat,j<n->(l.getD j false=true↔∃k:Nat,k<i/\z.getD k 0=(j:Int))
def Dc.zero{n:Nat}{z:List Int}:Dc n z 0 (List.replicate n false):=⟨by simp,λj a6=>by
 rw[m8,UE,if_pos a6]
 exact⟨λh=>MJ,λ⟨k,aG,_⟩=>D⟩⟩
def Dc.next{n:Nat}{z:List Int}{i:Nat}{l:List Bool}(h:Dc n z i l)(b2:0<=z.getD i 0/\z.getD i 0<n):Dc n z (i+1) (l.set (z.getD i 0).toNat true):=by
 have aX:=h.len;refine⟨by simp[aX],λj a6=>?_⟩;rw[m8,IW];split;·rename_i e;rw[if_pos D];exact⟨λ_=>⟨i,by omega,by omega⟩,λ_=>rfl⟩
 ·
  rename_i e;have:=h.KD j a6;rw[m8]at this;rw[this];constructor;·rintro⟨k,g9,fI⟩;exact⟨k,by omega,fI⟩
  ·
   rintro⟨k,g9,fI⟩;rcases hF k i with aG|aG;·exact⟨k,aG,fI⟩
   ·(obtain rfl:k=i:=by omega);omega
def ZC(f:hJ)(L:aR)(R:aO)(aF:k0 f R):
 aM prog 75 [f.val].toArray L R (λv E G=>v=.int .i64 (jS f.aZ.l f.a2.l f.cB)/\L=E/\R=G):=by
 have jB:=aF.Y;have o4:=aF.cI;refine G9 call75 jB λJ2=>?_;refine G9 call75 o4 λaL9=>?_;refine b6 101 call75 func75 rfl rfl rfl ?_;apply(dB);intro gL;apply hH∘JM∘dE;apply cA (Z:=[_,_,_,_]) (j:=4) (a9:=12) rfl rfl aB rfl aY rfl;·exact UJ
 intro wP;apply(b9);refine U ?_ ?_<;>intro aQ;·apply(kM);refine cX L R ?_;exact⟨by rw[jS,if_pos D],rfl,rfl⟩
 have b2:¬(32<f.aZ.l.length\/16<f.a2.l.length):=by omega
 apply(NI);refine dS [(1,.pointer _),(19,.slice _ _ _),(20,.int _ _),(21,.int _ _)] bV λfK=>?_;refine gY ([2,3,4]++cN 21 44) (λg:E5 (yQ f.aZ.l) (f.aZ.l.length)=>[(21,.int .i64 ((g.1:Nat):Int))]) (λg=>(f.aZ.l.length)-g.1) ⟨0,EC _ _⟩ ?_;rintro⟨fF,zA,gM⟩ cH;try dsimp only
 apply(h0);refine U ?_ ?_<;>intro bL;·
  have pX:=bJ (l:=f.aZ.l) (k:=fF) default D;obtain⟨x,K⟩:∃x,x=f.aZ.l.getD fF default:=⟨_,rfl⟩;rw[<-K]at pX;apply(oJ);refine aI O0 rfl ?_;apply(SO);intro eD;apply dM∘rT∘qO;apply cA (Z:=[_,_,_,_]) (j:=3) (a9:=29) rfl rfl aB rfl aY rfl;·exact a4d
  intro h8;apply(b9);refine U ?_ ?_<;>intro cC;·exact aQv
  apply hN∘qO;apply cA (Z:=[_,_,_]) (j:=3) (a9:=38) rfl rfl aB rfl aY rfl;·exact DR
  intro h8;apply(b9);refine U ?_ ?_<;>intro dX;·exact aSW
  apply e0∘qO;apply cA (Z:=[_,_,_]) (j:=3) (a9:=46) rfl rfl aB rfl aY rfl;·exact DR
  intro h8;apply(dE);apply cA (Z:=[_,_,_,_,_,_,_,_,_,_,_]) (j:=8) (a9:=51) rfl rfl aB rfl aY rfl;·
   intro gH;replace gH:=bB gH;apply fD∘dE;apply iR (Z:=[_,_,_,_,_,_,_]) (j:=11) (a9:=54) rfl rfl aB rfl aY rfl;·
    intro C9;replace C9:=bB C9;apply fD∘dE;apply cA (Z:=[_,_,_]) (j:=14) (a9:=57) rfl rfl aB rfl aY rfl;·intro pF;replace pF:=bB pF;exact(fD) KV
    intro Q4;exact g4
   intro Vg;exact g4
  intro uY;apply(b9);refine U ?_ ?_<;>intro dY;·exact aSo
  apply(mU);exact eO ⟨fF+1,z2 gM D (a7m K D D aTa)⟩
 have mX:=HV gM D;apply n9∘kD∘GS;rintro v E G ⟨Lb,rfl,rfl,a8T⟩;replace a8T:=a8T.symm;subst a8T;apply v1∘qP;refine dS [(1,.pointer _),(5,.slice _ _ _),(70,.slice _ _ _),(71,.int _ _),(72,.int _ _)] bV λoA=>?_;refine eM Ib ?_;refine k2 ([2,7]++cN 72 21) ((⟨λg=>[(72,.int .i64 ((g.1.1:Nat):Int))],λg=>(⟨.own Lb f.aZ.l.length [],g.1.2⟩:J Bool).L 4 jJ++(⟨gL,f.cells,42⟩::L),λ_=>R,λg=>f.a2.l.length-g.1.1⟩:fB {g:Nat×List Bool//(g.1<=f.a2.l.length/\(List.range f.a2.l.length).findSome? (DX f.aZ.l.length f.a2.l)=((List.range f.a2.l.length).drop g.1).findSome? (DX f.aZ.l.length f.a2.l))/\Dc f.aZ.l.length f.a2.l g.1 g.2})) (⟨(0,List.replicate f.aZ.l.length false),EC _ _,Dc.zero⟩) ?_;rintro⟨⟨i,q⟩,⟨aE,aP⟩,cJ⟩ cH;try dsimp only
 dsimp only at aE aP cJ;have fT:=cJ.len;have gR:(⟨.own Lb f.aZ.l.length [],q⟩:J Bool).ok 1 jJ:=by have:=ED (f:=jJ) (aN:=1) (b:=Lb) (n:=f.aZ.l.length) (x:=false) BP DP;exact J.o6 BP this (by simp;exact fT)
 apply(h0);refine U ?_ ?_<;>intro h1;·
  have qG:=bJ (l:=f.a2.l) (k:=i) 0 D;apply(j9);refine aI Ol rfl ?_;apply jG∘SL;apply cA (Z:=[_,_,_,_,_]) (j:=2) (a9:=78) rfl rfl aB rfl aY rfl;·exact Cm
  intro mK;apply(b9);refine U ?_ ?_<;>intro h2;·apply(FU);refine cX L R ?_;exact⟨by rw[Ph b2 mX (wH aP D (aKJ D))],rfl,rfl⟩
  have a15:=bJ (l:=q) (k:=(f.a2.l.getD i 0).toNat) false D;have a9k:=cJ.KD (f.a2.l.getD i 0).toNat D;have b20:(((f.a2.l.getD i 0).toNat:Nat):Int)=f.a2.l.getD i 0:=by omega
  rw[b20]at a9k;apply hN∘h9∘aK2;refine aI (tK N ((⟨.own Lb f.aZ.l.length [],q⟩:J Bool)) rfl rfl rfl cF bR bD bR aB) rfl ?_;apply(b9);refine U ?_ ?_<;>intro n8;·apply(FU);refine cX L R ?_;exact⟨by rw[Ph b2 mX (wH aP D (aE3 D (a9k.1 (by simpa using n8))))],rfl,rfl⟩
  refine eP (a8 (c2 ?_));apply h9∘aK2;refine jH (j5 N ((⟨.own Lb f.aZ.l.length [],q⟩:J Bool)) (true) rfl rfl rfl rfl cF bR bD bR aW aB aB) ?_;rintro v E G ⟨rfl,rfl⟩;apply(uJ);exact eO ⟨(i+1,q.set (f.a2.l.getD i 0).toNat true),z2 aP D (a63 D (λh=>by rw[a9k.2 h]at n8;cases n8)),cJ.next D⟩
 have aMK:=HV aP D;apply xN∘qO;apply cA (Z:=[_,_,_]) (j:=3) (a9:=96) rfl rfl aB rfl aY rfl;·exact DR
 intro h8;apply(b9);refine U ?_ ?_<;>intro EM;·apply(kM);refine cX L R ?_;exact⟨by rw[Iw b2 mX aMK,if_pos D],rfl,rfl⟩
 apply(PN);refine cX L R ?_;exact⟨by rw[Iw b2 mX aMK,if_neg D],rfl,rfl⟩
end
end Go.Proofs.YtchfclmokpbldaaGreat
/-
  Rounds of a range over a function: the regions of a round's frame, from the walks of plain regions; what a turn of the loop's record leaves alone. No program is named here. By an AI agent; no person has read it.
-/
namespace Go.Aw
open Go
def b0j{P:Program}{o:Oper}{l m:Nat}{a:Act}{next aNF:Act->World->Prop}{Q:Exit->Act->World->Prop}(b1:∀a w,next a w->aNF a w):
 ∀r,o.upon P a next Q r->o.uponIn (Fence.wide.inRound l) m P a aNF Q r:=by
 intro r h;cases r with
 |ok x w'=>
  cases x with
  |value v=>exact b1 _ _ h
  |skip=>exact b1 _ _ h
  |defer d=>exact b1 _ _ h
  |enter f args=>
   refine⟨λh=>MJ,?_⟩;have O:CallsIn Fence.wide (m-1) P f args w' _:=callsIn_wide.2 h;refine CallsIn.mono (F:=Fence.wide.inRound l) (show CallsIn (Fence.wide.inRound l) (m-1) P f args w' _ from O) ?_;intro e Wc W;cases e with
   |returned v=>exact b1 _ _ W
   |panicked c=>exact W
   |outgrown=>exact W
  |row row args=>refine⟨λh=>MJ,λc cs M=>?_⟩;obtain⟨v,Wc,cY,aH⟩:=h c cs;exact⟨v,Wc,b1 _ _ cY,stepsIn_wide.2 aH⟩
  |_=>exact h.elim
 |halt e w'=>
  cases e with
  |panic v=>exact h
  |_=>exact h.elim
def aHq{P:Program}{all:Array Oper}{l m:Nat}{Q:Exit->Act->World->Prop}(QF:¬LetsOut Q):
 ∀(ops:List Oper),(∀o∈ops,∀c,o.op≠.defer c)->∀a w,wpList P all Q ops a w->wpListIn (Fence.wide.inRound l) m P all Q ops a w
 |[],_,a,w,h=>h
 |o::ops,bM,a,w,h=>by
  have c6:=aHq (P:=P) (all:=all) (l:=l) (m:=m) QF ops (λo dG=>bM o (OV _ dG))
  unfold wpList at h
  unfold wpListIn
  by_cases dH:Region.wanted o (yielded all a.tmps)=true
  ·rw[if_pos dH]at h|-
   rcases h with h|h
   ·refine⟨λ_ _=>trivial, ?_⟩
    rw[Oper.semAt_eq _ _ _ (bM o Ht)]
    exact b0j c6 _ h
   ·exact absurd h.2 QF
  ·rw[if_neg dH]at h|-
   exact⟨λ_ _=>trivial,c6 _ _ h⟩
def dQ.Sm{gV:World}{cW:aR}{Z:Nat->Prop}{R:aO}{E:aR}{G:aO}{jI:World}(b4:sZ cW Z R gV)(h:dQ ⟨gV,zF cW,Z⟩ E G jI):sZ E Z R jI:=by
 obtain⟨⟨I4,qE,b7⟩,dG,aG⟩:=h;have pZ:∀b,Z b->jI.heap[b]?=gV.heap[b]?:=λb a5=>aG.block b (b4.sM b a5) (λ⟨e,W,WE⟩=>b4.tZ e W (WE▸a5));refine⟨qE.nM,qE.own,λe W n7=>?_,λb a5=>Wi (b4.sM b a5) aG.size,λr M=>(b4.o8 r M).mono (λ_ h=>h) pZ⟩;rcases dG e W with⟨uQ,uU,a5⟩|O;·exact b4.tZ uQ uU (a5▸n7)
 ·exact absurd (b4.sM _ n7) (Nat.not_lt.2 O)
def dQ.b1n{gV:World}{cW:aR}{Z:Nat->Prop}{R:aO}{E:aR}{G:aO}{jI:World}(b4:sZ cW Z R gV)(h:dQ ⟨gV,zF cW,Z⟩ E G jI):dQ ⟨gV,zF cW,Z⟩ E R jI:=
 ⟨⟨Z,h.Sm b4,λ_ a5=>.inl a5⟩,h.own,h.GM⟩
def D2(o:Obj):Prop:=(∀c t f,o≠.cells c t f)/\∀C4 h7,o≠.map C4 h7
def D2.g0{o:Obj}(h:D2 o){cs:List Value}{T:RK}:o≠T.Mr cs:=by
 cases T with
 |ty t=>exact h.1 _ _ _
 |mp C4 h7=>exact h.2 _ _
def a6p{w:World}{a:Addr}{o:Obj}(h:w.heap[a.block]?=some o)(b1:D2 o):w.frozen? a=false:=by unfold World.frozen?;rw[h];cases o<;>first|rfl|exact absurd rfl (b1.1 _ _ _)|exact absurd rfl (b1.2 _ _)
def dQ.put{gV:World}{cW:aR}{Z:Nat->Prop}{R E jI}{l:Nat}{o o':Obj}(b4:sZ cW Z R gV)(h:dQ ⟨gV,zF cW,Z⟩ E R jI)(dG:jI.heap[l]?=some o)(b1:D2 o)(QS:D2 o')(aX:gV.heap.size<=l):dQ ⟨gV,zF cW,Z⟩ E R (jI.putObj l o'):=by
 have aF:=h.Sm b4;have aG:=h.GM;have i3:l<jI.heap.size:=(Array.getElem?_eq_some_iff.1 dG).1;have ne:∀e∈E,e.b≠l:=λe W a5=>by have:=aF.own e W;rw[a5,dG]at this;exact b1.g0 (yF this)
 refine⟨⟨Z,⟨aF.nM,λe W=>(World.putObj_heap_other (ne e W)).trans (aF.own e W),aF.tZ,λb a5=>by rw[World.putObj_size];exact aF.sM b a5,λr M=>(aF.o8 r M).mono (λ_ h=>h) λb a5=>World.putObj_heap_other (by have:=b4.sM b a5;omega)⟩,λ_ a5=>.inl a5⟩,h.own,?_⟩;refine⟨aG.os,aG.tape,aG.output,by rw[World.putObj_size];exact aG.size,λb a5 AV=>(World.putObj_heap_other (by have:b<gV.heap.size:=a5;omega)).trans (aG.block b a5 AV),λa=>?_⟩;rw[<-aG.JY a];by_cases hC:a.block=l;·rw[a6p (w:=jI) (by rw[hC];exact dG) b1];exact a6p (by rw[hC];exact World.putObj_heap_same i3) QS
 ·exact aCI (World.putObj_heap_other hC)
structure u3(gV:World)(cW:aR)(Z:Nat->Prop)(R:aO)(lP:Nat)(r4 GN:Obj)(E:aR)(jI:World):Prop where
 hZ:dQ ⟨gV,zF cW,Z⟩ E R jI
 Lh:jI.heap[lP]?=some r4
 T0:jI.heap[lP+1]?=some GN
def aKd{L Z R jI}{l:Nat}{o:Obj}(aF:sZ L Z R jI)(dG:jI.heap[l]?=some o)(b1:D2 o):¬zF L l:=by rintro⟨e,W,a5⟩;have:=aF.own e W;rw[a5,dG]at this;exact b1.g0 (yF this)
def u3.step{gV:World}{cW:aR}{Z:Nat->Prop}{R:aO}{lP:Nat}{r4 GN:Obj}{E:aR}{jI:World}(b4:sZ cW Z R gV)(bM:D2 r4)(aX:D2 GN)(h:u3 gV cW Z R lP r4 GN E jI){i6:aR}{u5:aO}{yV:World}(k:dQ ⟨jI,zF E,Z⟩ i6 u5 yV):u3 gV cW Z R lP r4 GN i6 yV:=by have aF:=h.hZ.Sm b4;have s:=dQ.trans h.hZ (Z:=Z) (λb a5=>.inl a5) k;exact⟨s.b1n b4,(k.GM.block lP (Array.getElem?_eq_some_iff.1 h.Lh).1 (aKd aF h.Lh bM)).trans h.Lh,(k.GM.block (lP+1) (Array.getElem?_eq_some_iff.1 h.T0).1 (aKd aF h.T0 aX)).trans h.T0⟩
def u3.put{gV:World}{cW:aR}{Z:Nat->Prop}{R:aO}{lP:Nat}{r4 GN a2X:Obj}{E:aR}{jI:World}(b4:sZ cW Z R gV)(uT:gV.heap.size<=lP)(aX:D2 GN)(aMA:D2 a2X)(h:u3 gV cW Z R lP r4 GN E jI):u3 gV cW Z R lP r4 a2X E (jI.putObj (lP+1) a2X):=
 ⟨h.hZ.put b4 h.T0 aX aMA D,(World.putObj_heap_other D).trans h.Lh,World.putObj_heap_same (Array.getElem?_eq_some_iff.1 h.T0).1⟩
def u3.round{gV:World}{cW:aR}{Z:Nat->Prop}{R:aO}{lP:Nat}{r4 GN:Obj}{E:aR}{jI:World}(b4:sZ cW Z R gV)(bM:D2 r4)(aX:D2 GN)(h:u3 gV cW Z R lP r4 GN E jI)
 {P:Program} {n m id l:Nat} {ops:List Oper} {t:Nat->Value} {a:Act} {Q:gF} {K6:Exit->Act->World->Prop} (aF:mS n t a) (Fu:∀o∈ops,∀c,o.op≠.defer c) (dH:dF P n ops.toArray ops t E R Q) (vO:∀t L R,¬Q .outgrown t L R)
 (k:∀e fA yV t' i6 u5,Q e t' i6 u5->mS n t' fA->u3 gV cW Z R lP r4 GN i6 yV->K6 e fA yV):(Code.region id ops.toArray false).wpIn (Fence.wide.inRound l) m P K6 a jI:=by
 have qC:=h.hZ.Sm b4;have b5N:=dH _ a jI aF (dQ.XB qC);refine Code.wpIn_mono ?_ (wpIn_region_lit (aHq (l:=l) (m:=m) ?_ ops Fu a jI b5N));·rintro e fA yV ⟨_,t',i6,u5,cJ,xF,r1⟩;exact k e fA yV t' i6 u5 cJ xF (h.step b4 bM aX r1)
 ·rintro⟨fA,yV,_,t',i6,u5,cJ,_⟩;exact vO _ _ _ cJ
def u3.plain{gV:World}{cW:aR}{Z:Nat->Prop}{R:aO}{lP:Nat}{r4 GN:Obj}{E:aR}{jI:World}(b4:sZ cW Z R gV)(bM:D2 r4)(aX:D2 GN)(h:u3 gV cW Z R lP r4 GN E jI)
 {P:Program} {n m:Nat} {SZ:Code} {t:Nat->Value} {a:Act} {Q:gF} {K6:Exit->Act->World->Prop} (aF:mS n t a) (dH:cQ P n SZ t E R Q)
 (k:∀e fA yV t' i6 u5,Q e t' i6 u5->mS n t' fA->u3 gV cW Z R lP r4 GN i6 yV->K6 e fA yV):SZ.wpIn Fence.wide m P K6 a jI:=by have qC:=h.hZ.Sm b4;refine Code.wpIn_mono ?_ (wpIn_wide.2 (dH _ a jI aF (dQ.XB qC)));rintro e fA yV ⟨_,t',i6,u5,cJ,xF,r1⟩;exact k e fA yV t' i6 u5 cJ xF (h.step b4 bM aX r1)
def a5T{P:Program}{n m:Nat}{all:Array Oper}{Q:Exit->Act->World->Prop}{aD:List Oper}{t:Nat->Value}{a:Act}{w:World}{c:w3}{L:aR}{R:aO}{d:Tmp}{op:Op}{ty:TypeId}{pos:String}{after:Array Edge}{v:Value}
 (aF:mS n t a) (aH:dQ c L R w) (cY:cP P ⟨some d,op,ty,pos,after,none⟩ (iT t) L R v) (bM:Nat.blt d n=true) (k:∀fA,mS n (kR t d v) fA->wpListIn Fence.wide m P all Q aD fA w):wpListIn Fence.wide m P all Q (⟨some d,op,ty,pos,after,none⟩::aD) a w:=by unfold wpListIn;rw[if_pos aB];refine⟨λ_ _=>trivial,?_⟩;rw[show Fence.wide.round=none from rfl,Oper.semAt_none];rw[aF.eval,cY c w aH];exact k _ (aF.put (d:=some d) bM v)
def aUi{P:Program}{bF:Operand->Value}{x y:Operand}{l:Nat}{v:Value}{d:Option Tmp}{qY:Array TypeId}{ty:TypeId}{pos:String}{after:Array Edge}{g:Option (Nat×Bool)}{w:World}(K:bF x=.func (.yield l) #[] #[])(aS:bF y=v):
 (execOp bF ⟨d,.call ⟨.value x,#[y],qY⟩,ty,pos,after,g⟩).run P w=(Instr.yield l #[v]).run P w:=by simp only[execOp,resolve,K,Deferred.ofValue];simp[invoke,aS,w0,KQ]
def aYe{P:Program}{n m l:Nat}{all:Array Oper}{Q:Exit->Act->World->Prop}{aD:List Oper}{t:Nat->Value}{a:Act}{w:World}{d:Tmp}{x y:Operand}{qY:Array TypeId}{ty:TypeId}{pos:String}{after:Array Edge}{v r:Value}{S:World->Prop}
 (aF:mS n t a) (K:iT t x=.func (.yield l) #[] #[]) (aS:iT t y=v) (bM:Nat.blt d n=true) (b2s:YieldAt Fence.wide (m-1) P l #[v] w λe w'=>e=.returned r/\S w') (k:∀fA w',mS n (kR t d r) fA->S w'->wpListIn Fence.wide m P all Q aD fA w'):
 wpListIn Fence.wide m P all Q (⟨some d,.call ⟨.value x,#[y],qY⟩,ty,pos,after,none⟩::aD) a w:=by unfold wpListIn;rw[if_pos aB];refine⟨λ_ _=>trivial,?_⟩;rw[show Fence.wide.round=none from rfl,Oper.semAt_none];obtain⟨fn,tmps,b8C,b8X,O,X⟩:=b2s;rw[aF.eval,aUi K aS,O];refine⟨λh=>MJ,X.mono ?_⟩;rintro e w' ⟨rfl,aH⟩;exact k _ _ (aF.put (d:=some d) bM r) aH
def dQ.aLp{c:w3}{L:aR}{R:aO}{w:World}(h:dQ c L R w){o:Obj}(b1:D2 o):dQ c L R (w.alloc o):=by
 obtain⟨⟨Z,b4,b7⟩,dG,aG⟩:=h;have pZ:∀b,b<w.heap.size->(w.alloc o).heap[b]?=w.heap[b]?:=λb a5=>by exact aCg
 refine⟨⟨Z,⟨b4.nM,λe W=>(pZ _ (b4.lt W)).trans (b4.own e W),b4.tZ,λb a5=>by have:=b4.sM b a5;simp;omega,λr M=>(b4.o8 r M).mono (λ_ h=>h) (λb a5=>pZ b (b4.sM b a5))⟩,b7⟩,dG,⟨aG.os,aG.tape,aG.output,?_,λb a5 y8=>?_,λa=>?_⟩⟩;·have:=aG.size;simp;omega
 ·rw[pZ b (Wi a5 aG.size)];exact aG.block b a5 y8
 ·
  rw[<-aG.JY a];rcases Nat.lt_trichotomy a.block w.heap.size with O|O|O;·exact aCI (pZ _ O)
  ·rw[a6p (w:=w.alloc o) (o:=o) (by rw[O];show(w.heap.push _)[w.heap.size]? =_;simp) b1];unfold World.frozen?;rw[O,IV (iK _)]
  ·unfold World.frozen?;rw[IV DQ,IV D]
def aYF(w:World)(o:Obj)(b:Nat)(a5:b<w.heap.size):(w.alloc o).heap[b]?=w.heap[b]?:=by exact aCg
def aM.p0{P:Program}{f:FuncId}{args:Array Value}{L:aR}{R:aO}{Post:oK}(O: ∀(xs:Array Value) (w:World),(callFunc f xs).run P w= .ok (.enter f xs) w)
 (X:∀(w:World) (Z:Nat->Prop),sZ L Z R w->Calls P f args w λe w'=>∃v E G,e=.returned v/\Post v E G/\dQ ⟨w,zF L,Z⟩ E G w'):aM P f args L R Post:=⟨O,X⟩
end Go.Aw
namespace Go.Proofs.YtchfclmokpbldaaGreat
open Go.Aw Go Go.Proofs.Tryz
end Go.Proofs.YtchfclmokpbldaaGreat
