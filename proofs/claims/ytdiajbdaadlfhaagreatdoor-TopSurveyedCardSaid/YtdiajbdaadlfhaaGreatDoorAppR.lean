/-
  Merged texts. By an AI agent.
-/
import Derived.Test.YtdiajbdaadlfhaaGreatDoorRestN
import Derived.Test.YtdiajbdaadlfhaaGreatDoorCongrS
import Derived.Test.YtdiajbdaadlfhaaGreatDoorFits
set_option linter.all false
set_option maxHeartbeats 4000000
set_option maxRecDepth 20000
variable{A B:Prop}
namespace Go.Proofs.YtdiajbdaadlfhaaGreatDoor
open Go.Aw Go Go.Proofs.Tryz
section
def Ok(h:A->B:=by exact aA qW rfl):=h
def Zv(h:A->B:=by exact m9 rfl (Go.Proofs.YtdiajbdaadlfhaaGreatDoor.cI.aKX qY) rfl rfl):=h
def a0H(h:A->B:=by exact p4 qX rfl rfl rfl rfl):=h
def Ye(h:A->B:=by exact p4 qW rfl rfl rfl rfl):=h
def a03(h:A->B:=by exact b7 (qG K8) rfl rfl rfl):=h
def a7o(h:A->B:=by exact aA EC rfl):=h
def a6i(h:A->B:=by exact aA X0 rfl):=h
def aIQ(h:A->B:=by exact m9 rfl aPY rfl rfl):=h
def aH9(h:A->B:=by exact eU 6 SN b9 aQ rfl rfl rfl rfl rfl kT):=h
def aX2(h:A->B:=by exact m9 rfl aQt rfl rfl):=h
def a52(h:A->B:=by exact fE X0 rfl rfl rfl rfl):=h
def a0i{P:Program}{fn:Func}{t:Nat->Value}{L:aW}{R:aP}{r s q z:ResultVar}{v u x y:Value}(O:fn.results=#[r,s,q,z])(h:eQ P t L R r v)(k:eQ P t L R s u)(m:eQ P t L R q x)(PT:eQ P t L R z y):∀c n a w,mD n t a->c5 c L R w->(results fn a.tmps).run P w=.ok (.tuple #[v,u,x,y]) w:=by intro c n a w aH aF;have G:=QT h aH aF;have U:=QT k aH aF;have aO:=QT m aH aF;have bW:=QT PT aH aF;rw[Qp,O];simp[G,U,aO,bW]
attribute [local irreducible] cO dG dP aM cI dR fA e2 e5 fB eQ e9 J.L
def yF(f:jG)(k:Int):Int:=a05 f.b6.l (DG f.b6.l f.b0.l f.eB (f.b0.l.getD k.toNat 0))
def sI(s:dY)(c:List cY)(fl:List bG)(r:k8)(f:jG)(t:Int):Int:=
 if tX s c.length fl.length t≠0 then tX s c.length fl.length t
 else if r.eR= -1\/r.step≠2 then 10
 else if YE r t then 8
 else if u0 s c fl r.eR t≠0 then u0 s c fl r.eR t
 else if lA f.b6.l f.b0.l f.eB≠0 then lA f.b6.l f.b0.l f.eB
 else if f.b0.l.length≠s.b0.l.length then 17
 else if Hv c f.b6.l f.b0.l f.eB r.eR (yF f r.eR)then 20 else 0
def a6H{s:dY}{c:List cY}{fl:List bG}{k t:Int}(h:u0 s c fl k t=0):0<=k/\k<c.length:=by
 rw[u0]at h;split at h;·cases h
 ·omega
def aY4(s:dY)(c:bP cY)(fl:bP bG)(r:k8)(f:jG)(t:Int)(L:aW)(R:aP)(h:Hj s c fl R)(aH:pY f R):
 aM prog 137 [s.val,c.val,fl.val,r.val,f.val,.int .i64 t].toArray L R (λv E R'=>∃a:Int,v=.tuple #[.int .i64 a,.int .i64 (sI s c.l fl.l r f t)]/\(sI s c.l fl.l r f t=0->a=yF f r.eR)/\L=E/\∀r∈R,aN r R'):=by
 refine cX 70 call137 func137 rfl rfl rfl ?_;apply(fC);intro jN;apply(nW);intro jB;apply(nW);intro lI;apply eA∘kB∘a7o∘gQ∘k2;refine eD rfl (a7d s c fl t _ _ h) ?_;apply(pQ);refine aJ ?_ ?_<;>intro bI;·
  apply RZ∘uG;refine cF L R TV ?_;have V:sI s c.l fl.l r f t=tX s c.l.length fl.l.length t:=by rw[sI,if_pos bI]
  exact Ns
 obtain⟨bM,lL,gJ⟩:=Zq (s:=s) (Fq:=c.l.length) (PU:=fl.l.length) (t:=t) D;apply a0B∘BQ;apply dT (aD:=[_,_,_]) (j:=3) (b4:=30) rfl rfl aK rfl b2 rfl;·exact aBP
 intro m2;apply(dD);refine aJ ?_ ?_<;>intro cK;·
  apply oO∘uG;refine cF L R TV ?_;have V:sI s c.l fl.l r f t=10:=by rw[sI,if_neg bI,if_pos D]
  exact Ns
 apply k5∘a6i∘cJ;refine eD rfl (aFh r t _ _ gJ) ?_;apply(dD);refine aJ ?_ ?_<;>intro dE;·
  apply oO∘uG;refine cF L R TV ?_;have V:sI s c.l fl.l r f t=8:=by rw[sI,if_neg bI,if_neg D,if_pos Bb]
  exact Ns
 have jT:¬YE r t:=by simpa using dE
 apply k5∘a7o∘gQ∘gQ∘h1;refine eD rfl (a5k s c fl r.eR t _ _ h bM lL gJ) ?_;apply(pQ);refine aJ ?_ ?_<;>intro gZ;·
  apply RZ∘uG;refine cF L R TV ?_;have V:sI s c.l fl.l r f t=u0 s c.l fl.l r.eR t:=by rw[sI,if_neg bI,if_neg D,if_neg jT,if_pos gZ]
  exact Ns
 apply k5∘Ok;refine eD rfl (Dd f _ _ aH) ?_;apply(pQ);refine aJ ?_ ?_<;>intro fW;·
  apply RZ∘uG;refine cF L R TV ?_;have V:sI s c.l fl.l r f t=lA f.b6.l f.b0.l f.eB:=by rw[sI,if_neg bI,if_neg D,if_neg jT,if_neg gZ,if_pos fW]
  exact Ns
 apply k5∘jM∘jM∘pG;refine aJ ?_ ?_<;>intro lJ;·
  apply oO∘uG;refine cF L R TV ?_;have V:sI s c.l fl.l r f t=17:=by rw[sI,if_neg bI,if_neg D,if_neg jT,if_neg gZ,if_neg fW,if_pos D]
  exact Ns
 have b4H:=a6H (s:=s) (c:=c.l) (fl:=fl.l) (k:=r.eR) (t:=t) D;apply OI∘Ok∘gB;refine dN rfl (aFE c f r.eR _ _ h.b1 aH D D D) rfl ?_;rintro v E R' ⟨rfl,rfl,nG⟩;refine aA jE rfl ?_;apply UZ∘xF∘fD∘dD;refine aJ ?_ ?_<;>intro kK;·
  apply oO∘uG;refine cF L _ TV ?_;have V:sI s c.l fl.l r f t=20:=by rw[sI,if_neg bI,if_neg D,if_neg jT,if_neg gZ,if_neg fW,if_neg D,if_pos (by simpa[yF]using kK)]
  exact⟨0,by rw[V],λh=>by omega,rfl,nG⟩
 apply gI∘cJ∘eA∘sO;refine cF L _ TV ?_;have V:sI s c.l fl.l r f t=0:=by rw[sI,if_neg bI,if_neg D,if_neg jT,if_neg gZ,if_neg fW,if_neg D,if_neg (by simpa[yF]using kK)]
 exact⟨yF f r.eR,by rw[V];rfl,λ_=>rfl,rfl,nG⟩
def aEi{s:dY}{c:List cY}{fl:List bG}{r:k8}{f:jG}{t:Int}(h:sI s c fl r f t=0):(0<=r.eR/\r.eR<c.length)/\c.length=f.b0.l.length/\lA f.b6.l f.b0.l f.eB=0:=by
 rw[sI]at h;split at h;·omega
 rename_i bV;obtain⟨_,lL,_⟩:=Zq (Decidable.not_not.1 bV);split at h;·cases h
 split at h;·cases h
 split at h;·omega
 rename_i aO;have:=a6H (Decidable.not_not.1 aO);split at h;·omega
 split at h;·cases h
 omega
def xD(s:dY)(c:List cY)(fl:List bG)(r:k8)(f:jG)(t:Int):Int:=
 if sI s c fl r f t≠0 then sI s c fl r f t else OP f.b6.l f.b0.l f.eB (yF f r.eR) t
def RN(f:jG)(r:k8):Prop:=yF f r.eR=f.b0.l.getD r.eR.toNat 0
instance(f:jG)(r:k8):Decidable (RN f r):=by unfold RN;infer_instance
def N6(s:dY)(c:List cY)(fl:List bG)(r:k8)(f:jG)(t:Int):k8:=
 if xD s c fl r f t≠0 then r else if RN f r then HN else⟨r.eR,r.first,r.Mf,r.step,t⟩
def LF(s:dY)(c:List cY)(fl:List bG)(r:k8)(f:jG)(t:Int):List cY:=
 if xD s c fl r f t≠0 then c else if RN f r then c.set r.eR.toNat ⟨false,(c.getD r.eR.toNat default).clear,(c.getD r.eR.toNat default).n4⟩else c
def MC(s:dY)(c:List cY)(fl:List bG)(r:k8)(f:jG)(t:Int):List cH:=
 if xD s c fl r f t≠0 then f.b6.l else a7e f.b6.l (yF f r.eR) t
structure aDb(s:dY)(c:List cY)(fl:List bG)(r:k8)(f:jG)(t:Int)(q:k8)(jS:List cY)(aL:List cH)(c4:List Int)(cV:Int):Prop where
 aC:q=N6 s c fl r f t
 b1:jS=LF s c fl r f t
 aL:aL=MC s c fl r f t
 c4:c4=f.b0.l
 cV:cV=f.eB
def aDW{s:dY}{c:List cY}{fl:List bG}{r:k8}{f:jG}{t e:Int}(h:xD s c fl r f t=e)(V:e≠0):aDb s c fl r f t r c f.b6.l f.b0.l f.eB:=by
 have bV:xD s c fl r f t≠0:=by omega
 exact⟨by rw[N6,if_pos bV],by rw[LF,if_pos bV],by rw[MC,if_pos bV],rfl,rfl⟩
def aZO(s:dY)(c:bP cY)(fl:bP bG)(r:k8)(f:jG)(t:Int)(L:aW)(R:aP)(h:Hj s c fl R)(aH:pY f R)(bA:c.l.length<=1000/\f.b6.l.length<=1000/\f.b0.l.length<=1000):
 aM prog 94 [s.val,c.val,fl.val,r.val,f.val,.int .i64 t].toArray L R (λv E R'=>∃(q:k8) (fG:J cY) (KS:J cH) (sD:J Int) (cV:Int),v=.tuple #[q.val,fG.val,.agg #[KS.val,sD.val,.int .i64 cV],.int .i64 (xD s c.l fl.l r f t)]/\
  (fG.ok 3 cY.cells/\KS.ok 5 cH.cells/\sD.ok 1 aR)/\aDb s c.l fl.l r f t q fG.l KS.l sD.l cV/\sD.L 3 aR++(KS.L 143 cH.cells++(fG.L 141 cY.cells++L))=E/\∀r∈R,aN r R'):=by
 have PK:=h.b1;have pK:=aH.aL;have FW:=aH.c4;refine cX 84 call94 func94 rfl rfl rfl ?_;apply(fC);intro jN;apply(nW);intro jB;apply(nW);intro lI;apply(dO);intro rM;apply kS∘dO;intro wL;apply p5∘gQ;refine g2 (rH (f:=cY.cells) (xs:=c) M rfl rfl rfl aX rfl rfl (PK) bH D) rfl ?_;rintro v E R' ⟨yM,rfl,S1,rfl,rfl⟩;apply tH∘Ok∘dO;intro FG;apply(J4);refine a66 (dJ 25 8) ((⟨λ_=>[],λg=>(⟨g.1.2,f.b0.l⟩:J Int).L 3 aR++((⟨g.1.1,f.b6.l⟩:J cH).L 143 cH.cells++(⟨FG,[(⟨g.1.1,f.b6.l⟩:J cH).val,(⟨g.1.2,f.b0.l⟩:J Int).val,.int .i64 f.eB],120⟩::((⟨yM,c.l⟩:J cY).L 141 cY.cells++(⟨wL,[.slice none 0 0,.slice none 0 0,.int .i64 0],120⟩::⟨rM,[.int .i64 0,.int .i64 0,.int .i64 0,.int .i64 0,.int .i64 0],129⟩::⟨lI,f.cells,120⟩::⟨jB,r.cells,129⟩::⟨jN,s.cells,117⟩::L)))),λ_=>R,λ_=>0⟩:e0 {g:gT×gT//(⟨g.1,f.b6.l⟩:J cH).ok 5 cH.cells/\(⟨g.2,f.b0.l⟩:J Int).ok 1 aR})) ?_ ?_;·
  skip
  refine RM M [] [0,1,3,4,2,6,5] [7,8,9] (_) [] 7 mixed aQ rfl rfl bC λSN=>?_;refine eU 0 SN b9 aQ rfl rfl rfl rfl rfl kT ?_;refine eU 3 SN b9 aQ rfl rfl rfl rfl rfl kT ?_;refine iU [1,4] SN b9 aQ ?_;refine nM ?_ ?_;·
   skip
   apply(Zv);rintro v E R' ⟨rfl,rfl,rfl⟩;apply(fI);refine iU [2,4] SN b9 aQ ?_;refine nM ?_ ?_;·
    skip
    apply(aIQ);rintro v E R' ⟨Ft,rfl,Ue,rfl,rfl⟩;apply fI∘aH9;refine iU [4] SN b9 aQ ?_;apply kC∘Zv;rintro v E R' ⟨rfl,rfl,rfl⟩;apply(fI);exact aOX
   exact aOE
  apply kC∘Zv;rintro v E R' ⟨rfl,rfl,rfl⟩;apply(fI);refine iU [1] SN b9 aQ ?_;exact aOE
 rintro⟨⟨a3l,a3m⟩,Kx,a9M⟩ c1;try dsimp only
 dsimp only at Kx a9M;apply eV∘a7o∘gQ∘gQ∘a6i∘Ok∘cJ;refine dN rfl (aY4 s c fl r f t _ _ h aH) rfl ?_;rintro v E R' ⟨a,rfl,bX,rfl,nG⟩;have tR:=aH.mono nG;have aAY:=tR.c4;refine aA jE rfl ?_;apply UZ∘FA∘pG;refine aJ ?_ ?_<;>intro bI;·
  refine cC ?_;refine jV M [46,47,48] [0,1,2,3] [4,5,6,7] ([bQ.mk FG _ _,bQ.mk wL _ _,bQ.mk rM _ _,bQ.mk jB _ _]) _ mixed aQ bC a4C ?_;apply a52∘a0H∘Ye;refine p4 (mN D9) rfl rfl rfl rfl ?_;apply FB∘a03∘R3;refine jI (bY (mE (i7 ?_)));refine cF ((⟨a3m,f.b0.l⟩:J Int).L 3 aR++((⟨a3l,f.b6.l⟩:J cH).L 143 cH.cells++((⟨yM,c.l⟩:J cY).L 141 cY.cells++L))) _ a4s ?_;have V:xD s c.l fl.l r f t=sI s c.l fl.l r f t:=by rw[xD,if_pos bI]
  exact⟨r,⟨yM,c.l⟩,⟨a3l,f.b6.l⟩,⟨a3m,f.b0.l⟩,f.eB,by rw[V];rfl,⟨S1,Kx,a9M⟩,aDW V bI,rfl,nG⟩
 obtain rfl:a=yF f r.eR:=bX D;obtain⟨b4H,b84,qA⟩:=aEi (s:=s) (c:=c.l) (fl:=fl.l) (r:=r) (f:=f) (t:=t) D;have V:xD s c.l fl.l r f t=OP f.b6.l f.b0.l f.eB (yF f r.eR) t:=by rw[xD,if_neg bI]
 have CC:=bR (l:=f.b0.l) (k:=r.eR.toNat) 0 D;have I1:=bR (l:=c.l) (k:=r.eR.toNat) default D;obtain⟨x,K⟩:∃x,x=c.l.getD r.eR.toNat default:=⟨_,rfl⟩;rw[<-K]at I1;apply gI∘Ok∘wF;refine dN rfl (aYE f (yF f r.eR) t _ _ tR) rfl ?_;rintro v E R' ⟨p,q,cV,rfl,⟨iN,g7⟩,jO,rfl,rfl⟩;refine aA jE rfl ?_;apply(OG);intro vI;apply E7∘U2∘pG;refine aJ ?_ ?_<;>intro cK;·refine cC ?_;refine jV M [59,60,61] [0,1,2,3] [4,5,6,7] ([bQ.mk FG _ _,bQ.mk wL _ _,bQ.mk rM _ _,bQ.mk jB _ _]) _ mixed aQ bC a4C ?_;apply a52∘a0H∘Ye;refine p4 (mN D9) rfl rfl rfl rfl ?_;apply FB∘a03∘R3;refine jI (bY (mE (i7 ?_)));refine cF ((⟨a3m,f.b0.l⟩:J Int).L 3 aR++((⟨a3l,f.b6.l⟩:J cH).L 143 cH.cells++((⟨yM,c.l⟩:J cY).L 141 cY.cells++L))) _ a4s ?_;exact⟨r,⟨yM,c.l⟩,⟨a3l,f.b6.l⟩,⟨a3m,f.b0.l⟩,f.eB,by rw[V];rfl,⟨S1,Kx,a9M⟩,aDW V cK,rfl,nG⟩
 obtain⟨dC,eZ,rfl⟩:=jO D;have xP:OP f.b6.l f.b0.l f.eB (yF f r.eR) t=0:=by omega
 have SQ:¬xD s c.l fl.l r f t≠0:=by omega
 apply FC∘nZ;refine aA aQI rfl ?_;apply kY∘pG;refine aJ ?_ ?_<;>intro dE;·apply eV∘a6i∘dO;intro zI;apply p6∘cJ∘r1∘j6;refine jV M [74,75] [0,1,2] [3,4,5,6] ([bQ.mk zI _ _,bQ.mk vI _ _,bQ.mk wL _ _,bQ.mk rM _ _]) _ mixed aQ bC a4C ?_;apply a52∘a0H∘Ye∘FB∘a03∘R3;refine jI (bY (mE (i7 ?_)));refine cF (q.L 3 aR++(p.L 143 cH.cells++((⟨yM,c.l⟩:J cY).L 141 cY.cells++L))) _ a4s ?_;exact⟨⟨r.eR,r.first,r.Mf,r.step,t⟩,⟨yM,c.l⟩,p,q,f.eB,by rw[V,xP];rfl,⟨S1,iN,g7⟩,⟨by rw[N6,if_neg SQ,if_neg (by rw[RN];omega)],by rw[LF,if_neg SQ,if_neg (by rw[RN];omega)],by rw[MC,if_neg SQ,dC],eZ,rfl⟩,rfl,nG⟩
 apply gI∘FD;refine aA (iV M ((⟨yM,c.l⟩:J cY)) _ rfl rfl rfl rfl bS (i:=r.eR.toNat) c7 iY) rfl ?_;apply(w0);refine mO (mV M ((⟨yM,c.l⟩:J cY)) (⟨false,x.clear,x.n4⟩) rfl rfl rfl rfl cL bS bH bS aX aK aK) ?_;rintro v E R' ⟨rfl,rfl⟩;apply(j6);have b32:=J.yS (f:=cY.cells) (aI:=3) (p:=⟨yM,c.l⟩) (i:=r.eR.toNat) (x:=⟨false,x.clear,x.n4⟩) bH S1;refine jV M [82,83] [1,2,0] [3,4,5,6] ([bQ.mk vI _ _,bQ.mk wL _ _,bQ.mk rM _ _]) _ mixed aQ bC a4C ?_;apply a0H∘Ye;refine mW rfl (a77 _ _) rfl rfl ?_;rintro v E R' ⟨rfl,rfl,rfl⟩;refine⟨bC,hC,?_⟩;apply FB∘a03∘R3;refine jI (bY (mE ?_));refine cF (q.L 3 aR++(p.L 143 cH.cells++((⟨yM,c.l.set r.eR.toNat ⟨false,x.clear,x.n4⟩⟩:J cY).L 141 cY.cells++L))) _ a4s ?_;exact⟨HN,⟨yM,c.l.set r.eR.toNat ⟨false,x.clear,x.n4⟩⟩,p,q,f.eB,by simp only[V,xP,J.val,w3],⟨b32,iN,g7⟩,⟨by rw[N6,if_neg SQ,if_pos (by rw[RN];omega)],by rw[LF,if_neg SQ,if_pos (by rw[RN];omega),<-K],by rw[MC,if_neg SQ,dC],eZ,rfl⟩,rfl,nG⟩
end
def H9(z:kJ):kJ:=⟨⟨none,0,z.mB.l⟩,z.hold,⟨none,0,z.Z.l⟩,z.vM⟩
def sL(s:dY):dY:=⟨pI s.c2,⟨none,0,s.e8.l⟩,⟨none,0,s.h2.l⟩,⟨none,0,s.b0.l.map H9⟩,⟨none,0,s.m4.l⟩⟩
def Sb(s:dY)(k:Nat):(sL s).b0.l.getD k default=H9 (s.b0.l.getD k default):=a1m rfl
def Rp(s:dY):(sL s).b0.l.length=s.b0.l.length:=pU _
def aYl(a:bT)(x:g0):T7 (pI a) x=T7 a x:=by rw[T7,T7,show(pI a).bD.l.length=a.bD.l.length from pU _,show(pI a).a8.l.length=a.a8.l.length from pU _];rfl
def aYp(a:bT)(S:List g0):EY (pI a) S=EY a S:=by
 have e:AR (pI a) S=AR a S:=by funext i;rw[AR,AR,aYl]
 rw[EY,EY,e]
def aRo(s:dY):KA (sL s)=KA s:=by rw[KA,KA,show(sL s).b0.l=s.b0.l.map H9 from rfl,aB3];rfl
def Oo(s:dY):o0 (sL s)=o0 s:=by rw[o0,o0,aRo,Rp,show h4 (sL s).c2=h4 s.c2 from aDC _,show EY (sL s).c2 (sL s).e8.l=EY s.c2 s.e8.l from aYp _ _];rfl
def aFl(s:dY)(m:List e6)(w:List gW)(fl:List bG)(t:Int):tY (sL s) m w fl t=tY s m w fl t:=by rw[tY,tY,Oo];rfl
def aJC(s:dY)(v:List Int)(c:List cY)(t:Int):vL (sL s) v c t=vL s v c t:=by rw[vL,vL,Oo,Rp];rfl
def aIw(s:dY)(v:List Int)(c:List cY)(t:Int):MK (sL s) v c t=MK s v c t:=by funext i;rw[MK,MK,Sb];rfl
def a6R(s:dY)(v:List Int)(c:List cY): ∀k,AG (sL s) v c k=AG s v c k
 |0=>rfl
 |k+1=>by rw[AG,AG,a6R s v c k,Sb];rfl
def aGk(s:dY)(c:List cY)(fl:List bG)(k t:Int):u0 (sL s) c fl k t=u0 s c fl k t:=by rw[u0,u0,Sb];rfl
def aJc(s:dY)(n m:Nat)(t:Int):tX (sL s) n m t=tX s n m t:=by rw[tX,tX,Oo,Rp];rfl
abbrev hH(s s':dY):Prop:=sL s=sL s'
section
variable{s s':dY}(h:hH s s')
include h
def hH.c2:pI s.c2=pI s'.c2:=congrArg dY.c2 Nc
def hH.TP:s.e8.l=s'.e8.l:=by have e:=congrArg (λx:dY=>x.e8.l) Nc;exact e
def hH.h2:s.h2.l=s'.h2.l:=by have e:=congrArg (λx:dY=>x.h2.l) Nc;exact e
def hH.m4:s.m4.l=s'.m4.l:=by have e:=congrArg (λx:dY=>x.m4.l) Nc;exact e
def hH.W2:s.c2.bD.l.length=s'.c2.bD.l.length:=by have:=congrArg (λx:dY=>x.c2.bD.l.length) Nc;simpa[sL,pI]using this
def hH.Fr:s.c2.a8.l.length=s'.c2.a8.l.length:=by have:=congrArg (λx:dY=>x.c2.a8.l.length) Nc;simpa[sL,pI]using this
def hH.aNq:s.b0.l.length=s'.b0.l.length:=by rw[<-Rp s,h,Rp s']
def hH.eR(k:Nat):H9 (s.b0.l.getD k default)=H9 (s'.b0.l.getD k default):=by rw[<-Sb s,h,Sb s']
def hH.mB(k:Nat):(s.b0.l.getD k default).mB.l=(s'.b0.l.getD k default).mB.l:=by have e:=congrArg (λz:kJ=>z.mB.l) (hH.eR h k);exact e
def hH.tN(k:Nat):(s.c2.a8.l.getD k default).hY.l=(s'.c2.a8.l.getD k default).hY.l:=by
 have e:ER (s.c2.a8.l.getD k default)=ER (s'.c2.a8.l.getD k default):=by rw[<-a4U s.c2,hH.c2 h,a4U s'.c2]
 have eH:=congrArg (λd:gV=>d.hY.l) e;exact eH
def hH.DI:o0 s=o0 s':=by rw[<-Oo s,h,Oo s']
def hH.tY(m:List e6)(w:List gW)(fl:List bG)(t:Int):tY s m w fl t=tY s' m w fl t:=by rw[<-aFl s,h,aFl s']
def hH.NG(m:List e6)(w:List gW)(fl:List bG)(t:Int):NG s m w fl t=NG s' m w fl t:=by rw[Go.Proofs.YtdiajbdaadlfhaaGreatDoor.NG,Go.Proofs.YtdiajbdaadlfhaaGreatDoor.NG,hH.tY h,hH.TP h,hH.h2 h]
def hH.w2(m:List e6)(w:List gW)(fl:List bG)(t:Int):w2 s m w fl t=w2 s' m w fl t:=by rw[Go.Proofs.YtdiajbdaadlfhaaGreatDoor.w2,Go.Proofs.YtdiajbdaadlfhaaGreatDoor.w2,hH.tY h,hH.TP h,hH.h2 h]
def hH.vL(v:List Int)(c:List cY)(t:Int):vL s v c t=vL s' v c t:=by rw[<-aJC s,h,aJC s']
def hH.MK(v:List Int)(c:List cY)(t:Int):MK s v c t=MK s' v c t:=by rw[<-aIw s,h,aIw s']
def hH.wO(v:List Int)(c:List cY)(t:Int):wO s v c t=wO s' v c t:=by rw[Go.Proofs.YtdiajbdaadlfhaaGreatDoor.wO,Go.Proofs.YtdiajbdaadlfhaaGreatDoor.wO,hH.vL h,hH.MK h]
def hH.G1(v:List Int)(c:List cY)(t:Int):G1 s v c t=G1 s' v c t:=by rw[Go.Proofs.YtdiajbdaadlfhaaGreatDoor.G1,Go.Proofs.YtdiajbdaadlfhaaGreatDoor.G1,hH.vL h,<-a6R s,h,a6R s']
def hH.u0(c:List cY)(fl:List bG)(k t:Int):u0 s c fl k t=u0 s' c fl k t:=by rw[<-aGk s,h,aGk s']
def hH.tX(n m:Nat)(t:Int):tX s n m t=tX s' n m t:=by rw[<-aJc s,h,aJc s']
def hH.tM(c:List cY)(fl:List bG)(r:k8)(p k t:Int):tM s c fl r p k t=tM s' c fl r p k t:=by rw[Go.Proofs.YtdiajbdaadlfhaaGreatDoor.tM,Go.Proofs.YtdiajbdaadlfhaaGreatDoor.tM,hH.tX h,hH.u0 h,hH.m4 h]
def hH.wK(c:List cY)(fl:List bG)(r:k8)(p k t:Int):wK s c fl r p k t=wK s' c fl r p k t:=by rw[Go.Proofs.YtdiajbdaadlfhaaGreatDoor.wK,Go.Proofs.YtdiajbdaadlfhaaGreatDoor.wK,hH.tM h]
def hH.r6(c:List cY)(fl:List bG)(r:k8)(p t:Int):r6 s c fl r p t=r6 s' c fl r p t:=by
 have e:VA s r p↔VA s' r p:=by unfold VA;rw[hH.m4 h]
 simp only[Go.Proofs.YtdiajbdaadlfhaaGreatDoor.r6,hH.tX h,hH.u0 h,e]
def hH.xK(c:List cY)(fl:List bG)(r:k8)(p t:Int):xK s c fl r p t=xK s' c fl r p t:=by rw[Go.Proofs.YtdiajbdaadlfhaaGreatDoor.xK,Go.Proofs.YtdiajbdaadlfhaaGreatDoor.xK,hH.r6 h]
end
def aHO(x:cH)(t:Int):cH:=⟨x.eI,t,0,false,false⟩
def uL(aL:List cH)(s t:Int):List cH:=if(aL.getD s.toNat default).dZ=true then aL.set s.toNat (aHO (aL.getD s.toNat default) t)else aL
def aVn(aL:List cH)(s t:Int):(uL aL s t).length=aL.length:=by rw[uL];split<;>simp
structure u4(aL qU:List cH)(t:Int):Prop where
 len:qU.length=aL.length
 l9:∀i:Nat,i<aL.length->(qU.getD i default).eI=(aL.getD i default).eI/\((qU.getD i default).fY=(aL.getD i default).fY\/(qU.getD i default).fY=t)/\(-1<=(qU.getD i default).hQ/\(qU.getD i default).hQ<=1)/\¬((qU.getD i default).dL=true/\((qU.getD i default).dZ=true\/(qU.getD i default).hQ= -1))
def aG3{aL:List cH}{c4:List Int}{cV:Int}(h:lA aL c4 cV=0):∀i:Nat,i<aL.length->(-1<=(aL.getD i default).hQ/\(aL.getD i default).hQ<=1)/\¬((aL.getD i default).dL=true/\((aL.getD i default).dZ=true\/(aL.getD i default).hQ= -1)):=λi aB=>by
 by_cases bV:32<aL.length\/16<c4.length
 ·rw[lA,if_pos bV]at h;omega
 cases G:(List.range aL.length).findSome? (y2 aL)with
 |some e=>rw[Qa bV G]at h;exact absurd h (a7U (λ_=>aEm) G)
 |none=>
  have:=a6P G aB
  rw[y2]at this
  split at this
  ·cases this
  split at this
  ·cases this
  split at this
  ·cases this
  rename_i g8 eK mJ
  rw[not_or]at mJ
  exact⟨by omega,mJ.2⟩
def u4.refl{aL:List cH}{c4:List Int}{cV:Int}(h:lA aL c4 cV=0)(t:Int):u4 aL aL t:=⟨rfl,λi aB=>⟨rfl,.inl rfl,aG3 h i aB⟩⟩
def u4.lA{aL qU:List cH}{c4:List Int}{cV t:Int}(k:u4 aL qU t)(h:lA aL c4 cV=0)(gJ:0<=t/\t<=2147483648):lA qU c4 cV=0:=by
 have aZ:=k.len;have bM:=L1 h;have b0A:¬(32<qU.length\/16<c4.length):=by have:=bM.CN;have:=bM.BI;omega
 have Sw:(List.range qU.length).findSome? (y2 qU)=none:=by
  rw[NK];intro i aB;rw[XO,aZ]at aB;have U:=k.l9 i aB;have aO:=bM.up i aB;have bW:=bM.fY i aB;exact aJ5 rfl D D (λh=>by
   rcases h with h|h;·omega
   ·exact U.2.2.2 h)
 have aK1:(List.range c4.length).findSome? (EK qU.length c4)=none:=by rw[NK];intro i aB;rw[XO]at aB;have:=bM.Xm i aB;exact aEX D (λ⟨j,a6,e⟩=>bM.b7d i j a6 aB e)
 rw[a1w b0A Sw aK1,if_neg (by have:=bM.cV;omega)]
def u4.time{aL qU:List cH}{t:Int}(k:u4 aL qU t)(h:L7 aL t):L7 qU t:=⟨h.1,λx K=>by
 obtain⟨i,aB⟩:=List.mem_iff_getElem?.1 K
 have Tp:=(List.getElem?_eq_some_iff.1 aB).1
 have aZ:=k.len
 have e:=getD_some (d:=default) aB
 have U:=k.l9 i D
 have aO:=h.2 _ (hS (bR (l:=aL) (k:=i) default D))
 rw[e]at U
 omega⟩
def u4.set{aL qU:List cH}{t:Int}(k:u4 aL qU t){i:Nat}{x:cH}(G:x.eI=(qU.getD i default).eI)(U:x.fY=(qU.getD i default).fY\/x.fY=t)(aO:-1<=x.hQ/\x.hQ<=1)(bW:¬(x.dL=true/\(x.dZ=true\/x.hQ= -1))):u4 aL (qU.set i x) t:=by
 refine⟨by rw[w3];exact k.len,λj a6=>?_⟩;have aZ:=k.len;have Y:=k.l9 j a6;rw[lN,I9];split;·
  rename_i e;subst e;rw[if_pos D];refine⟨by rw[<-Y.1,<-G];rfl,?_,aO,bW⟩;rcases U with U|U;·
   rcases Y.2.1 with dV|dV;·exact .inl (by rw[<-dV,<-U];rfl)
   ·exact .inr (by rw[<-dV,<-U];rfl)
  ·exact .inr U
 ·rw[<-lN];exact Y
def u4.a3o{aL qU:List cH}{t:Int}(k:u4 aL qU t)(s:Int):u4 aL (uL qU s t) t:=by
 rw[uL];split;·exact k.set rfl (.inr rfl) ⟨by show(-1:Int)<=0;decide,by show(0:Int)<=1;decide⟩ (by simp[aHO])
 ·exact k
def Yd(x:cH):Bool:=!x.dZ && decide (x.hQ≠-1) && !x.dL
structure Cm where
 aL:List cH
 dL:List Int
 Ak:List Int
 deriving Inhabited
def Pz(x:cH):cH:=⟨x.eI,x.fY,x.hQ,x.dZ,true⟩
def Y7(cV t:Int)(y:Cm)(i:Nat):Cm:=
 if Yd (y.aL.getD i default)=true/\cV<=t-(y.aL.getD i default).fY then
  if 0<=(y.aL.getD i default).eI/\((y.aL.set i (Pz (y.aL.getD i default))).getD (y.aL.getD i default).eI.toNat default).dZ=true then
   ⟨uL (y.aL.set i (Pz (y.aL.getD i default))) (y.aL.getD i default).eI t,y.dL++[(i:Int)],y.Ak++[(y.aL.getD i default).eI]⟩
  else⟨y.aL.set i (Pz (y.aL.getD i default)),y.dL++[(i:Int)],y.Ak⟩
 else y
def MA(aL:List cH)(cV t:Int):Nat->Cm
 |0=>⟨aL,[],[]⟩
 |k+1=>Y7 cV t (MA aL cV t k) (aL.length-1-k)
def xC(aL:List cH)(cV t:Int):Cm:=MA aL cV t aL.length
def aX3{aL:List cH}{cV t:Int}{y:Cm}(i:Nat)(aB:i<aL.length)(k:u4 aL y.aL t):u4 aL (Y7 cV t y i).aL t:=by
 have U:=k.l9 i aB;rw[Y7];split;·
  rename_i cE;have A3:=cE.1;rw[Yd,lY,lY,decide_eq_true_eq]at A3;have aF:u4 aL (y.aL.set i (Pz (y.aL.getD i default))) t:=k.set rfl (.inl rfl) U.2.2.1 (λh=>by
   rcases h.2 with h|h;·have:(y.aL.getD i default).dZ=true:=h;rw[this]at A3;exact absurd A3.1.1 aX
   ·exact A3.1.2 h)
  split;·exact aF.a3o _
  ·exact aF
 ·exact k
def a0K{aL:List cH}{c4:List Int}{cV t:Int}(h:lA aL c4 cV=0): ∀k,k<=aL.length->u4 aL (MA aL cV t k).aL t
 |0,_=>.refl h t
 |k+1,Y=>aX3 _ D (a0K h k D)
def aWu{cV t:Int}{y:Cm}{i:Nat}:(Y7 cV t y i).dL.length<=y.dL.length+1/\(Y7 cV t y i).Ak.length<=y.Ak.length+1:=by
 rw[Y7];repeat' split
 all_goals (first|(simp only[hL,kL,v1];omega)|omega)
def a6E{aL:List cH}{cV t:Int}: ∀k,(MA aL cV t k).dL.length<=k/\(MA aL cV t k).Ak.length<=k
 |0=>⟨gS _,gS _⟩
 |k+1=>by
  have G:=a6E (aL:=aL) (cV:=cV) (t:=t) k
  have U:=aWu (cV:=cV) (t:=t) (y:=MA aL cV t k) (i:=aL.length-1-k)
  rw[MA];omega
section
attribute [local irreducible] cO dG dP aM cI dR fA e2 e5 fB eQ e9 J.L
def a0N(h:A->B:=by exact aA qW rfl):=h
def aSF{aL:List cH}{c4:List Int}{cV s t:Int}(h:AU aL c4 cV s t=0):lA aL c4 cV=0/\(0<=s/\s<aL.length)/\L7 aL t:=by
 rw[AU]at h;split at h;·omega
 split at h;·omega
 split at h;·exact⟨by omega,by omega,by assumption⟩
 ·omega
def aI8(p:J cH)(l0:Value)(cV s t:Int)(R:aP)(iN:p.ok 5 cH.cells)(aF:0<=s/\s<p.l.length):
 aM prog 120 [.agg #[p.val,l0,.int .i64 cV],.int .i64 s,.int .i64 t].toArray (p.L 143 cH.cells) R (λv E R'=>v=.bool (p.l.getD s.toNat default).dZ/\(⟨p.o,uL p.l s t⟩:J cH).ok 5 cH.cells/\(⟨p.o,uL p.l s t⟩:J cH).L 143 cH.cells=E/\R=R'):=by
 have bE:=bR (l:=p.l) (k:=s.toNat) default D;obtain⟨x,K⟩:∃x,x=p.l.getD s.toNat default:=⟨_,rfl⟩;rw[<-K]at bE;refine cX 30 call120 func120 rfl rfl rfl ?_;apply(fC);intro e4;apply uK∘h1;refine aA aCs rfl ?_;apply Ap∘mY∘iS;refine aA iX rfl ?_;apply(w0);refine aA QF rfl ?_;apply(AJ);refine aJ ?_ ?_<;>intro bI;·
  apply(RT);refine m5 (p.L 143 cH.cells) R ?_;have bV:x.dZ=false:=by simpa using bI
  have G:uL p.l s t=p.l:=by rw[uL,<-K,bV,if_neg aX]
  exact⟨by rw[<-K,bV],by rw[G];exact iN,by rw[G],rfl⟩
 apply(CI);have bV:x.dZ=true:=by simpa using bI
 have g6:=J.yS (f:=cH.cells) (aI:=5) (p:=p) (i:=s.toNat) (x:=⟨x.eI,x.fY,x.hQ,false,x.dL⟩) bH iN;have V9:(p.l.set s.toNat ⟨x.eI,x.fY,x.hQ,false,x.dL⟩)[s.toNat]?=some ⟨x.eI,x.fY,x.hQ,false,x.dL⟩:=I8 D;have j4:=J.yS (f:=cH.cells) (aI:=5) (p:=⟨p.o,(p.l.set s.toNat ⟨x.eI,x.fY,x.hQ,false,x.dL⟩)⟩) (i:=s.toNat) (x:=⟨x.eI,t,x.hQ,false,x.dL⟩) bH g6;have j3:((p.l.set s.toNat ⟨x.eI,x.fY,x.hQ,false,x.dL⟩).set s.toNat ⟨x.eI,t,x.hQ,false,x.dL⟩)[s.toNat]?=some ⟨x.eI,t,x.hQ,false,x.dL⟩:=I8 a4M;have wR:=J.yS (f:=cH.cells) (aI:=5) (p:=⟨p.o,((p.l.set s.toNat ⟨x.eI,x.fY,x.hQ,false,x.dL⟩).set s.toNat ⟨x.eI,t,x.hQ,false,x.dL⟩)⟩) (i:=s.toNat) (x:=⟨x.eI,t,0,false,x.dL⟩) bH j4;have iM:(((p.l.set s.toNat ⟨x.eI,x.fY,x.hQ,false,x.dL⟩).set s.toNat ⟨x.eI,t,x.hQ,false,x.dL⟩).set s.toNat ⟨x.eI,t,0,false,x.dL⟩)[s.toNat]?=some ⟨x.eI,t,0,false,x.dL⟩:=I8 (by rw[w3,w3];omega);have zO:=J.yS (f:=cH.cells) (aI:=5) (p:=⟨p.o,(((p.l.set s.toNat ⟨x.eI,x.fY,x.hQ,false,x.dL⟩).set s.toNat ⟨x.eI,t,x.hQ,false,x.dL⟩).set s.toNat ⟨x.eI,t,0,false,x.dL⟩)⟩) (i:=s.toNat) (x:=⟨x.eI,t,0,false,false⟩) bH wR;apply(e1);iterate 4 apply(iS)
 apply(cJ);refine aA iX rfl ?_;apply(w0);refine mO (mV M (p) (⟨x.eI,x.fY,x.hQ,false,x.dL⟩) rfl rfl rfl rfl cL bS bH bS aX aK aK) ?_;rintro v E R' ⟨rfl,rfl⟩;refine aA iX rfl ?_;apply(w0);refine mO (mV M ((⟨p.o,(p.l.set s.toNat ⟨x.eI,x.fY,x.hQ,false,x.dL⟩)⟩:J cH)) (⟨x.eI,t,x.hQ,false,x.dL⟩) rfl rfl rfl rfl cL bS bH bS aX aK aK) ?_;rintro v E R' ⟨rfl,rfl⟩;refine aA iX rfl ?_;apply(w0);refine mO (mV M ((⟨p.o,((p.l.set s.toNat ⟨x.eI,x.fY,x.hQ,false,x.dL⟩).set s.toNat ⟨x.eI,t,x.hQ,false,x.dL⟩)⟩:J cH)) (⟨x.eI,t,0,false,x.dL⟩) rfl rfl rfl rfl cL bS bH bS aX aK aK) ?_;rintro v E R' ⟨rfl,rfl⟩;refine aA iX rfl ?_;apply(w0);refine mO (mV M ((⟨p.o,(((p.l.set s.toNat ⟨x.eI,x.fY,x.hQ,false,x.dL⟩).set s.toNat ⟨x.eI,t,x.hQ,false,x.dL⟩).set s.toNat ⟨x.eI,t,0,false,x.dL⟩)⟩:J cH)) (⟨x.eI,t,0,false,false⟩) rfl rfl rfl rfl cL bS bH bS aX aK aK) ?_;rintro v E R' ⟨rfl,rfl⟩;apply iG∘sP;refine m5 ((⟨p.o,(((p.l.set s.toNat ⟨x.eI,x.fY,x.hQ,false,x.dL⟩).set s.toNat ⟨x.eI,t,x.hQ,false,x.dL⟩).set s.toNat ⟨x.eI,t,0,false,x.dL⟩).set s.toNat ⟨x.eI,t,0,false,false⟩⟩:J cH).L 143 cH.cells) R ?_;have G:uL p.l s t=(((p.l.set s.toNat ⟨x.eI,x.fY,x.hQ,false,x.dL⟩).set s.toNat ⟨x.eI,t,x.hQ,false,x.dL⟩).set s.toNat ⟨x.eI,t,0,false,x.dL⟩).set s.toNat ⟨x.eI,t,0,false,false⟩:=by rw[uL,<-K,bV,if_pos rfl,P6,P6,P6];rfl
 exact⟨by rw[<-K,bV],by rw[G];exact zO,by rw[G],rfl⟩
def aJe(f:jG)(s t:Int)(L:aW)(R:aP)(aH:pY f R):
 aM prog 82 [f.val,.int .i64 s,.int .i64 t].toArray L R (λv E R'=>∃(p:J cH) (q:J Int) (r:Int),v=.tuple #[.agg #[p.val,q.val,.int .i64 r],.int .i64 (AU f.b6.l f.b0.l f.eB s t)]/\(p.ok 5 cH.cells/\q.ok 1 aR)/\(AU f.b6.l f.b0.l f.eB s t=0->p.l=uL f.b6.l s t/\q.l=f.b0.l/\r=f.eB)/\q.L 3 aR++(p.L 143 cH.cells++L)=E/\R=R'):=by
 refine cX 25 call82 func82 rfl rfl rfl ?_;apply(fC);intro e4;apply(dO);intro jN;apply kB∘a0N∘wF;refine eD rfl (aGg f s t _ _ aH) ?_;apply(pQ);refine aJ ?_ ?_<;>intro bI;·apply(eV);refine aA Xn rfl ?_;apply(yE);refine cF L R ED ?_;exact⟨.nil,.nil,0,rfl,⟨J.iJ,J.iJ⟩,λh=>absurd h bI,by rw[pC,pC];rfl,rfl⟩
 have IP:=aSF (Decidable.not_not.1 bI);have bM:=L1 IP.1;have IZ:=bM.CN;have vT:=bM.BI;apply gI∘a0N;refine dN rfl (Zs f _ _ aH D) rfl ?_;rintro v E R' ⟨p,q,rfl,⟨iN,g7⟩,dC,eZ,rfl,rfl⟩;apply(dO);intro jB;apply p6∘a0N∘wF;refine dN rfl (aM.at (.cons (.wJ .lK)) (aI8 p q.val f.eB s t _ iN (by rw[dC];exact IP.2.1))) rfl ?_;rintro v E R' ⟨_,rfl,rfl,Lf,rfl,rfl⟩;apply iG∘a0N∘yD;refine cF (q.L 3 aR++((⟨p.o,uL p.l s t⟩:J cH).L 143 cH.cells++L)) R ED ?_;exact⟨⟨p.o,uL p.l s t⟩,q,f.eB,by rw[Decidable.not_not.1 bI];simp only[J.val,aVn],⟨Lf,g7⟩,λ_=>⟨by rw[dC],eZ,rfl⟩,rfl,rfl⟩
def aRb(x:cH)(L:aW)(R:aP):
 aM prog 170 [x.val].toArray L R (λv E R'=>v=.bool (Yd x)/\L=E/\R=R'):=by
 refine cX 16 call170 func170 rfl rfl rfl ?_;apply(fC);intro fT;apply uK∘gB∘OB;apply lR (aD:=[_,_,_]) (j:=3) (b4:=6) rfl rfl aK rfl b2 rfl;·exact aBP
 intro m2;apply(fD);apply lR (aD:=[_,_,_]) (j:=8) (b4:=11) rfl rfl aK rfl b2 rfl;·intro h7;replace h7:=cP h7;exact(gB) QC
 intro zV;apply(sP);refine m5 L R ?_;exact⟨by rw[Yd];try simp[Bool.and_assoc],rfl,rfl⟩
def Cc(h:A->B:=by exact aA qW rfl):=h
def Rk(h:A->B:=by exact aA Xn rfl):=h
def a6w(h:B:=by exact⟨.nil,.nil,0,by rw[V];rfl,⟨J.iJ,J.iJ⟩,λh=>by omega,by rw[pC,pC];rfl,rfl⟩):=h
def aJE(h:A->B:=by exact fE (iV M ((⟨p.o,p.l.set s.toNat ⟨x.eI,x.fY,t,x.dZ,x.dL⟩⟩:J cH)) _ rfl rfl ((show _=Value.slice _ _ _ from rfl).trans (by simp only[J.val,w3])) rfl bS (i:=s.toNat) c7 iY) rfl rfl rfl rfl):=h
def aRa(h:A->B:=by exact ID (mV M ((⟨p.o,p.l.set s.toNat ⟨x.eI,x.fY,t,x.dZ,x.dL⟩⟩:J cH)) (⟨x.eI,x.fY,t,x.dZ,lt⟩) rfl rfl rfl rfl cL bS bH bS aX aK aK) rfl rfl):=h
def aUb(h:B:=by exact⟨⟨p.o,(p.l.set s.toNat ⟨x.eI,x.fY,t,x.dZ,x.dL⟩).set s.toNat ⟨x.eI,x.fY,t,x.dZ,lt⟩⟩,q,f.eB,by simp only[V,J.val,w3],⟨Lf,g7⟩,λ_=>⟨by rw[QN,<-K,<-dC,<-jT,P6],eZ,rfl⟩,rfl,rfl⟩):=h
def aIo(h:B:=by exact⟨.nil,.nil,0,.nil,.nil,by rw[V];rfl,⟨J.iJ,J.iJ,J.iJ,J.iJ⟩,λh=>by omega,by rw[pC,pC];rfl,rfl⟩):=h
def aHb(h:A->B:=by exact fE (rX M ((⟨p.o,(aL.set z.toNat ⟨x.eI,x.fY,x.hQ,x.dZ,true⟩)⟩:J cH)) rfl rfl rfl cL bS bH bS aK) rfl rfl rfl rfl):=h
def aUx(f:jG)(s t:Int)(L:aW)(R:aP)(aH:pY f R):
 aM prog 89 [f.val,.int .i64 s,.int .i64 t].toArray L R (λv E R'=>∃(p:J cH) (q:J Int) (r:Int),v=.tuple #[.agg #[p.val,q.val,.int .i64 r],.int .i64 (zE f.b6.l f.b0.l f.eB s t)]/\(p.ok 5 cH.cells/\q.ok 1 aR)/\
  (zE f.b6.l f.b0.l f.eB s t=0->p.l=QN f.b6.l s t/\q.l=f.b0.l/\r=f.eB)/\q.L 3 aR++(p.L 143 cH.cells++L)=E/\R=R'):=by
 have pK:=aH.aL;refine cX 57 call89 func89 rfl rfl rfl ?_;apply(fC);intro e4;apply(dO);intro jN;apply kB∘Cc;refine eD rfl (Dd f _ _ aH) ?_;apply(pQ);refine aJ ?_ ?_<;>intro bI;·
  apply eV∘Rk∘yE;refine cF L R ED ?_;have V:zE f.b6.l f.b0.l f.eB s t=lA f.b6.l f.b0.l f.eB:=by rw[zE,if_pos bI]
  exact a6w
 apply FC∘q5;apply dT (aD:=[_,_,_,_,_]) (j:=2) (b4:=18) rfl rfl aK rfl b2 rfl;·exact a4h
 intro o7;apply(dD);refine aJ ?_ ?_<;>intro cK;·
  apply eV∘Rk∘y4;refine cF L R ED ?_;have V:zE f.b6.l f.b0.l f.eB s t=16:=by rw[zE,if_neg D,if_pos D]
  exact a6w
 apply FC∘vC;apply lR (aD:=[_,_]) (j:=2) (b4:=28) rfl rfl aK rfl b2 rfl;·intro iM;replace iM:=cP iM;exact(cJ) v6
 intro o7;apply(dD);refine aJ ?_ ?_<;>intro dE;·
  apply eV∘Rk∘y4;refine cF L R ED ?_;have V:zE f.b6.l f.b0.l f.eB s t=10:=by rw[zE,if_neg D,if_neg D,if_pos D]
  exact a6w
 have V:zE f.b6.l f.b0.l f.eB s t=0:=by rw[zE,if_neg D,if_neg D,if_neg D]
 have bM:=L1 (aL:=f.b6.l) (c4:=f.b0.l) (cV:=f.eB) D;have IZ:=bM.CN;have vT:=bM.BI;have bE:=bR (l:=f.b6.l) (k:=s.toNat) default D;obtain⟨x,K⟩:∃x,x=f.b6.l.getD s.toNat default:=⟨_,rfl⟩;rw[<-K]at bE;apply gI∘Cc;refine dN rfl (Zs f _ _ aH D) rfl ?_;rintro v E R' ⟨p,q,rfl,⟨iN,g7⟩,dC,eZ,rfl,rfl⟩;apply(dO);intro jB;apply(J4);have M1:p.l[s.toNat]?=some x:=by rw[dC];exact bE
 have l2:p.l.length=f.b6.l.length:=by rw[dC]
 apply e1∘h1∘cJ;refine aA aCs rfl ?_;apply(w0);refine mO (mV M (p) (⟨x.eI,x.fY,t,x.dZ,x.dL⟩) rfl rfl rfl rfl cL bS bH bS aX aK aK) ?_;rintro v E R' ⟨rfl,rfl⟩;apply(j6);have aAn:=J.yS (f:=cH.cells) (aI:=5) (p:=p) (i:=s.toNat) (x:=⟨x.eI,x.fY,t,x.dZ,x.dL⟩) bH iN;have b9F:(p.l.set s.toNat ⟨x.eI,x.fY,t,x.dZ,x.dL⟩)[s.toNat]?=some ⟨x.eI,x.fY,t,x.dZ,x.dL⟩:=I8 D;refine jV M [] [0,1,2,3,4,5,6,7,8,9,10,11,12,13,14] [15] (_) _ mixed aQ bC b9 ?_;apply BR∘BR∘aJE∘F2;refine fE (rX M ((⟨p.o,p.l.set s.toNat ⟨x.eI,x.fY,t,x.dZ,x.dL⟩⟩:J cH)) rfl rfl rfl cL bS bH bS aK) rfl rfl rfl rfl ?_;refine fE (mN b2) rfl rfl rfl rfl ?_;refine aHA (k:=50) b2 (λh7=>?_) (λh7=>?_);·
  replace h7:=cP h7;let lt:Bool:=decide (¬t= -1);have jT:lt=(if t= -1 then false else x.dL):=by simp only[lt,h7];split<;>simp_all
  have Lf:=J.yS (f:=cH.cells) (aI:=5) (p:=⟨p.o,p.l.set s.toNat ⟨x.eI,x.fY,t,x.dZ,x.dL⟩⟩) (i:=s.toNat) (x:=⟨x.eI,x.fY,t,x.dZ,lt⟩) bH aAn;apply(DY);refine fE X1 rfl rfl rfl rfl ?_;exact aQu
 replace h7:=cP h7;let lt:Bool:=false;have jT:lt=(if t= -1 then false else x.dL):=by simp only[lt,h7];split<;>rfl
 have Lf:=J.yS (f:=cH.cells) (aI:=5) (p:=⟨p.o,p.l.set s.toNat ⟨x.eI,x.fY,t,x.dZ,x.dL⟩⟩) (i:=s.toNat) (x:=⟨x.eI,x.fY,t,x.dZ,lt⟩) bH aAn;refine a4W rfl rfl rfl ?_;refine a4W rfl rfl rfl ?_;exact aQu
def RE(aL:List cH)(c4:List Int)(cV t:Int):Int:=if lA aL c4 cV≠0 then lA aL c4 cV else if L7 aL t then 0 else 8
def aXP{aL:List cH}{cV t z:Int}{y:Cm}(dI:0<=z/\z<aL.length)(h:MA aL cV t (aL.length-1-z).toNat=y):MA aL cV t (aL.length-1-(z-1)).toNat=Y7 cV t y z.toNat:=by
 have e:((aL.length:Int)-1-(z-1)).toNat=((aL.length:Int)-1-z).toNat+1:=by omega
 have eH:aL.length-1-((aL.length:Int)-1-z).toNat=z.toNat:=by omega
 rw[e,MA,h,eH]
def aYm{aL qU:List cH}{c4:List Int}{cV t:Int}(h:lA aL c4 cV=0)(k:u4 aL qU t){i:Nat}(aB:i<aL.length):-1<=(qU.getD i default).eI/\(qU.getD i default).eI<i:=by rw[(k.l9 i aB).1];exact(L1 h).up i aB
def aS9{aL:List cH}{a t:Int}{i:Nat}(h:a.toNat≠i):(uL aL a t)[i]?=aL[i]?:=by
 rw[uL];split;·rw[P7 h]
 ·rfl
def aSy(f:jG)(t:Int)(L:aW)(R:aP)(aH:pY f R):
 aM prog 128 [f.val,.int .i64 t].toArray L R (λv E R'=>∃(p:J cH) (q:J Int) (r:Int) (M5 op:J Int),v=.tuple #[.agg #[p.val,q.val,.int .i64 r],M5.val,op.val,.int .i64 (RE f.b6.l f.b0.l f.eB t)]/\(p.ok 5 cH.cells/\q.ok 1 aR/\M5.ok 1 aR/\op.ok 1 aR)/\(RE f.b6.l f.b0.l f.eB t=0->p.l=(xC f.b6.l f.eB t).aL/\q.l=f.b0.l/\r=f.eB/\M5.l=(xC f.b6.l f.eB t).dL/\op.l=(xC f.b6.l f.eB t).Ak)/\op.L 3 aR++(M5.L 3 aR++(q.L 3 aR++(p.L 143 cH.cells++L)))=E/\R=R'):=by
 refine cX 86 call128 func128 rfl rfl rfl ?_;apply(fC);intro eN;apply(dO);intro dU;apply J7∘kB∘Cc;refine eD rfl (Dd f _ _ aH) ?_;apply(pQ);refine aJ ?_ ?_<;>intro bI;·
  apply eV∘Rk∘cJ∘l5∘J7∘uG;refine cF L R (a0i rfl XX yW yW rG) ?_;have V:RE f.b6.l f.b0.l f.eB t=lA f.b6.l f.b0.l f.eB:=by rw[RE,if_pos bI]
  exact aIo
 apply k5∘Cc∘cJ;refine eD rfl (aIO f t _ _ aH) ?_;apply(AJ);refine aJ ?_ ?_<;>intro cK;·
  apply eV∘Rk∘l5∘J7∘uG;refine cF L R (a0i rfl XX yW yW rG) ?_;have V:RE f.b6.l f.b0.l f.eB t=8:=by rw[RE,if_neg bI,if_neg LA]
  exact aIo
 have qA:lA f.b6.l f.b0.l f.eB=0:=by omega
 have FV:L7 f.b6.l t:=by simpa using cK
 have V:RE f.b6.l f.b0.l f.eB t=0:=by rw[RE,if_neg bI,if_pos FV]
 have bM:=L1 qA;have IZ:=bM.CN;have vT:=bM.BI;have aMN:=bM.cV;apply gI∘Cc;refine dN rfl (Zs f _ _ aH D) rfl ?_;rintro v E R' ⟨p,q,rfl,⟨iN,g7⟩,dC,eZ,rfl,rfl⟩;apply(dO);intro jB;apply p6∘J7∘yQ;have l2:p.l.length=f.b6.l.length:=by rw[dC]
 apply e1∘jM∘oD∘pR;refine e3 [(1,.int _ _),(2,.pointer _),(4,.pointer _),(9,.pointer _),(10,.slice _ _ _),(11,.slice _ _ _),(12,.int _ _)] cB λg9=>?_;refine oM ([10,11,12,13]++dJ 31 52) ((⟨λg=>[(12,.int .i64 g.1.1),(10,g.1.2.1.1.val),(11,g.1.2.1.2.val)],λg=>g.1.2.1.2.L 3 aR++(g.1.2.1.1.L 3 aR++(⟨jB,[p.val,q.val,.int .i64 f.eB],120⟩::(q.L 3 aR++((⟨p.o,g.1.2.2⟩:J cH).L 143 cH.cells++(⟨dU,[.slice none 0 0,.slice none 0 0,.int .i64 0],120⟩::⟨eN,f.cells,120⟩::L))))),λ_=>R,λg=>(g.1.1+1).toNat⟩:e0 {g:Int×(J Int×J Int)×List cH//(-1<=g.1/\g.1<f.b6.l.length)/\MA f.b6.l f.eB t (f.b6.l.length-1-g.1).toNat=⟨g.2.2,g.2.1.1.l,g.2.1.2.l⟩/\(g.2.1.1.ok 1 aR/\g.2.1.2.ok 1 aR)})) (⟨((p.l.length:Int)-1,(J.nil,J.nil),p.l),by dsimp only;omega,by dsimp only;rw[show((f.b6.l.length:Int)-1-((p.l.length:Int)-1)).toNat=0 by omega,MA,dC],J.iJ,J.iJ⟩) cB (by simp only[pC,nJ];exact bC) eX ?_;rintro⟨⟨z,⟨M5,op⟩,aL⟩,dI,dF,Z2,HE⟩ c1;try dsimp only
 dsimp only at dI dF Z2 HE;have Eu:u4 f.b6.l aL t:=by have:=a0K (cV:=f.eB) (t:=t) qA (f.b6.l.length-1-z).toNat D;rw[dF]at this;exact this
 have qB:=Eu.len;have aAE:=a6E (aL:=f.b6.l) (cV:=f.eB) (t:=t) (f.b6.l.length-1-z).toNat;rw[dF]at aAE;dsimp only at aAE;have Kx:(⟨p.o,aL⟩:J cH).ok 5 cH.cells:=J.tU bH iN (qB.trans l2.symm);apply nR∘IF;refine aJ ?_ ?_<;>intro dE;·
  have CA:=aXP (cV:=f.eB) (t:=t) (z:=z) D dF;have bE:=bR (l:=aL) (k:=z.toNat) default D;have Kk:=aYm qA Eu (i:=z.toNat) D;have a2U:=Eu.l9 z.toNat D;have b9W:=bM.fY z.toNat D;have b95:=FV.1;rw[Y7]at CA;dsimp only at CA;obtain⟨x,K⟩:∃x,x=aL.getD z.toNat default:=⟨_,rfl⟩;rw[<-K]at bE Kk a2U CA;rw[show Pz x=⟨x.eI,x.fY,x.hQ,x.dZ,true⟩from rfl]at CA;have b9X:=a2U.2.1;apply jK∘h1;refine aA (iV M ((⟨p.o,aL⟩:J cH)) _ rfl rfl ((show _=Value.slice _ _ _ from rfl).trans (by simp only[J.val,qB,l2])) rfl bS (i:=z.toNat) c7 iY) rfl ?_;apply Ap∘yQ;refine jR M [0,1,2,3,4,5,6,7,8,9,10,11,12,13,14,15] _ mixed aQ iP ?_;apply(N9);refine b7 (a0U (row:=[_,_,_,_,_]) M ((⟨p.o,aL⟩:J cH)) rfl rfl rfl cL bS bH bS aK aK) rfl rfl rfl ?_;refine xZ rfl (aRb x _ _) ?_;refine b7 (UT rfl) rfl rfl rfl ?_;apply(KT);refine zC (k:=44) b2 (λjP=>?_) (λjP=>?_);·replace jP:=cP jP;(iterate 9 apply(tV));apply(C7);refine yX rfl ?_;exact aPP
  replace jP:=cP jP;apply j7∘Cq;refine b7 (rX M ((⟨p.o,aL⟩:J cH)) rfl rfl rfl cL bS bH bS aK) rfl rfl rfl ?_;apply A7∘nQ;refine b7 Bk rfl rfl rfl ?_;apply(C7);refine aJ ?_ ?_<;>intro gZ;·exact aPP
  rw[if_pos ⟨by simpa using jP,by omega⟩]at CA;apply gI∘iS;refine aA iX rfl ?_;apply(w0);refine mO (mV M ((⟨p.o,aL⟩:J cH)) (⟨x.eI,x.fY,x.hQ,x.dZ,true⟩) rfl rfl rfl rfl cL bS bH bS aX aK aK) ?_;rintro v E R' ⟨rfl,rfl⟩;apply(j6);have g6:(⟨p.o,(aL.set z.toNat ⟨x.eI,x.fY,x.hQ,x.dZ,true⟩)⟩:J cH).ok 5 cH.cells:=J.yS (f:=cH.cells) (aI:=5) (p:=(⟨p.o,aL⟩:J cH)) (i:=z.toNat) (x:=⟨x.eI,x.fY,x.hQ,x.dZ,true⟩) bH Kx;have V9:(aL.set z.toNat ⟨x.eI,x.fY,x.hQ,x.dZ,true⟩)[z.toNat]?=some ⟨x.eI,x.fY,x.hQ,x.dZ,true⟩:=I8 D;have WB:(aL.set z.toNat ⟨x.eI,x.fY,x.hQ,x.dZ,true⟩).length=f.b6.l.length:=by rw[w3];exact qB
  obtain⟨eF,DM⟩:∃eF,eF=if 0<=x.eI then uL (aL.set z.toNat ⟨x.eI,x.fY,x.hQ,x.dZ,true⟩) x.eI t else(aL.set z.toNat ⟨x.eI,x.fY,x.hQ,x.dZ,true⟩):=⟨_,rfl⟩;apply y6∘w1;rintro v E R' ⟨uO,rfl,rfl,Dx⟩;replace Dx:=Dx.symm;subst Dx;refine g2 (jZ (f:=aR) (p:=M5) (a:=z) M rfl rfl rfl rfl (Z2) cL j8 rfl kG) rfl ?_;rintro v E R' ⟨aNA,rfl,aMw,rfl,rfl⟩;apply(OK);refine jV M [] [0,1,2,3,4,5,6,7,8,9,10,11] [12,13] (_) _ mixed aQ bC b9 ?_;apply(CG);refine fE iX rfl rfl rfl rfl ?_;apply F2∘aHb;refine fE (Iq rfl rfl) rfl rfl rfl rfl ?_;refine fE (mN b2) rfl rfl rfl rfl ?_;refine aHA (k:=67) b2 (λjP=>?_) (λjP=>?_);·
   replace jP:=cP jP;(have Jz:uL (aL.set z.toNat ⟨x.eI,x.fY,x.hQ,x.dZ,true⟩) x.eI t=eF:=by rw[DM,if_pos jP]);have Z4:=aI8 (⟨p.o,(aL.set z.toNat ⟨x.eI,x.fY,x.hQ,x.dZ,true⟩)⟩:J cH) q.val f.eB x.eI t R g6 kM;(have Fa:(⟨p.o,(aL.set z.toNat ⟨x.eI,x.fY,x.hQ,x.dZ,true⟩)⟩:J cH).val=p.val:=by simp only[J.val,WB,l2]);rw[Fa]at Z4;dsimp only at Z4;rw[Jz]at Z4;refine fE qW rfl rfl rfl rfl ?_;apply(CG);refine fE iX rfl rfl rfl rfl ?_;apply F2∘aHb∘DY∘zY;refine zD rfl (aM.at (by repeat(first|apply GI.lK|apply GI.cons|apply GI.wJ)) Z4) rfl rfl ?_;rintro v E R' ⟨_,rfl,rfl,j4,rfl,rfl⟩;refine⟨bC,hC,?_⟩;apply(C7);refine aJ ?_ ?_<;>intro fW;·(have j3:eF[z.toNat]?=some ⟨x.eI,x.fY,x.hQ,x.dZ,true⟩:=by rw[<-Jz,aS9 D];exact V9);apply vE∘iS;refine aA iX rfl ?_;apply(w0);refine aA (rX M ((⟨p.o,eF⟩:J cH)) rfl rfl rfl cL bS bH bS aK) rfl ?_;apply(w1);rintro v E R' ⟨b8b,rfl,rfl,a9b⟩;replace a9b:=a9b.symm;subst a9b;refine g2 (jZ (f:=aR) (p:=op) (a:=x.eI) M rfl rfl rfl rfl (HE) cL j8 rfl kG) rfl ?_;rintro v E R' ⟨b6f,rfl,b3P,rfl,rfl⟩;apply kS∘XE∘GO;exact eG ⟨(z-1,(⟨aNA,M5.l++[z]⟩,⟨b6f,op.l++[x.eI]⟩),eF),by dsimp only;omega,by dsimp only;rw[CA,if_pos ⟨jP,fW⟩,<-Jz,Ba D],aMw,b3P⟩
   exact aOW
  replace jP:=cP jP;have Jz:(aL.set z.toNat ⟨x.eI,x.fY,x.hQ,x.dZ,true⟩)=eF:=by rw[DM,if_neg jP]
  have j4:(⟨p.o,eF⟩:J cH).ok 5 cH.cells:=by rw[<-Jz];exact g6
  rw[Jz];iterate 6 refine a4W rfl rfl rfl ?_
  apply zY∘tV∘C7;refine CT rfl ?_;exact aOW
 obtain rfl:z= -1:=by omega
 have a9j:xC f.b6.l f.eB t=⟨aL,M5.l,op.l⟩:=by rw[xC,<-dF];congr 1;omega
 apply oS∘Cc∘gQ∘gQ∘l5∘J7∘sO;refine cF (op.L 3 aR++(M5.L 3 aR++(q.L 3 aR++((⟨p.o,aL⟩:J cH).L 143 cH.cells++L)))) R (a0i rfl XX yW yW rG) ?_;exact⟨(⟨p.o,aL⟩:J cH),q,f.eB,M5,op,by rw[V];simp only[J.val,qB,l2],⟨Kx,g7,Z2,HE⟩,λ_=>⟨by rw[a9j],eZ,rfl,by rw[a9j],by rw[a9j]⟩,rfl,rfl⟩
end
end Go.Proofs.YtdiajbdaadlfhaaGreatDoor
/-
  What an append to a full read-only slice gives. By an AI agent; no person has read it.
-/
namespace Go.Aw
open Go
section
variable{P:Program}{aV:Operand->Value}{L:aW}{R:aP}{dst:Option Tmp}{ty:TypeId}{pos:String}{after:Array Edge}{guard:Option (Nat×Bool)}(M:nN P){T:TypeId}{x y:Operand}
def aHo{n:Nat}: ∀{rows:List (List Value)},(∀r∈rows,r.length=n)->rows.flatten.length=rows.length*n
 |[],_=>by simp
 |r::rows,h=>by rw[aB9,hL,aHo λr O=>h r sF,h r eY,kL,K2];omega
end
end Go.Aw
namespace Go.Proofs.YtdiajbdaadlfhaaGreatDoor
open Go.Aw Go Go.Proofs.Tryz
end Go.Proofs.YtdiajbdaadlfhaaGreatDoor
