/-
  Merged texts. By an AI agent.
-/
import Derived.Test.YtchfclmokpbldaaGreatRestN
import Derived.Test.YtchfclmokpbldaaGreatSiteS
set_option linter.all false
set_option maxHeartbeats 4000000
set_option maxRecDepth 20000
variable{A B:Prop}
namespace Go.Proofs.YtchfclmokpbldaaGreat
open Go.Aw Go Go.Proofs.Tryz
section
def Rt(h:A->B:=by exact aI mM rfl):=h
def a03(h:A->B:=by exact qJ rfl (Go.Proofs.YtchfclmokpbldaaGreat.cP.a8g I1) rfl rfl):=h
def a0b(h:A->B:=by exact m2 oS rfl rfl rfl rfl):=h
def Yw(h:A->B:=by exact m2 mM rfl rfl rfl rfl):=h
def a0q(h:A->B:=by exact bE zT rfl rfl rfl):=h
def a4G(h:A->B:=by exact aI q1 rfl):=h
def a5j(h:A->B:=by exact aI DT rfl):=h
def aI5(h:A->B:=by exact qJ rfl aSC rfl rfl):=h
def aKs(h:A->B:=by exact nS 6 TB fM bI rfl rfl rfl rfl rfl xS):=h
def aVN(h:A->B:=by exact qJ rfl aQX rfl rfl):=h
def a7z(h:A->B:=by exact fP DT rfl rfl rfl rfl):=h
def aIT{P:Program}{fn:Func}{t:Nat->Value}{L:aR}{R:aO}{r s q z:ResultVar}{v u x y:Value}(M:fn.results=#[r,s,q,z])(h:eX P t L R r v)(k:eX P t L R s u)(m:eX P t L R q x)(Mo:eX P t L R z y):∀c n a w,mS n t a->dQ c L R w->(results fn a.tmps).run P w=.ok (.tuple #[v,u,x,y]) w:=by intro c n a w aF aH;have O:=RQ h aF aH;have X:=RQ k aF aH;have aU:=RQ m aF aH;have cK:=RQ Mo aF aH;rw[Rg,M];simp[O,X,aU,cK]
attribute [local irreducible] cQ dF dV aM cP eC e5 e1 e2 e6 eX e4 J.L
def v5(f:hJ)(k:Int):Int:=PG f.aZ.l (vU f.aZ.l f.a2.l f.cB (f.a2.l.getD k.toNat 0))
def mP(s:eA)(c:List b8)(aA:List bC)(r:jP)(f:hJ)(t:Int):Int:=
 if sT s c.length aA.length t≠0 then sT s c.length aA.length t
 else if r.dN= -1\/r.step≠2 then 10
 else if NL r t then 8
 else if qW s c aA r.dN t≠0 then qW s c aA r.dN t
 else if jS f.aZ.l f.a2.l f.cB≠0 then jS f.aZ.l f.a2.l f.cB
 else if f.a2.l.length≠s.a2.l.length then 17
 else if VK c f.aZ.l f.a2.l f.cB r.dN (v5 f r.dN)then 20 else 0
def Yd{s:eA}{c:List b8}{aA:List bC}{k t:Int}(h:qW s c aA k t=0):0<=k/\k<c.length:=by
 rw[qW]at h;split at h;·cases h
 ·omega
def aVy(s:eA)(c:a4 b8)(aA:a4 bC)(r:jP)(f:hJ)(t:Int)(L:aR)(R:aO)(h:FJ s c aA R)(aF:k0 f R):
 aM prog 165 [s.val,c.val,aA.val,r.val,f.val,.int .i64 t].toArray L R (λv E G=>∃a:Int,v=.tuple #[.int .i64 a,.int .i64 (mP s c.l aA.l r f t)]/\(mP s c.l aA.l r f t=0->a=v5 f r.dN)/\L=E/\∀r∈R,aL r G):=by
 refine b6 70 call165 func165 rfl rfl rfl ?_;apply(dB);intro i1;apply(iV);intro jR;apply(iV);intro i0;apply dM∘hH∘a4G∘P0;refine cD rfl (a7s s c aA t _ _ h) ?_;apply(j7);refine U ?_ ?_<;>intro aQ;·
  apply SM∘w7;refine bQ L R BB ?_;have W:mP s c.l aA.l r f t=sT s c.l.length aA.l.length t:=by rw[mP,if_pos aQ]
  exact Nw
 obtain⟨bH,j1,fH⟩:=Dj (s:=s) (T2:=c.l.length) (KE:=aA.l.length) (t:=t) D;apply D5∘sG;apply cA (Z:=[_,_,_]) (j:=3) (a9:=30) rfl rfl aB rfl aY rfl;·exact Cn
 intro h8;apply(b9);refine U ?_ ?_<;>intro bL;·
  apply m3∘w7;refine bQ L R BB ?_;have W:mP s c.l aA.l r f t=10:=by rw[mP,if_neg aQ,if_pos D]
  exact Nw
 apply hN∘a5j∘cE;refine cD rfl (aFP r t _ _ fH) ?_;apply(b9);refine U ?_ ?_<;>intro cC;·
  apply m3∘w7;refine bQ L R BB ?_;have W:mP s c.l aA.l r f t=8:=by rw[mP,if_neg aQ,if_neg D,if_pos MG]
  exact Nw
 have i3:¬NL r t:=by simpa using cC
 apply hN∘a4G∘gU∘gU∘gK;refine cD rfl (a5C s c aA r.dN t _ _ h bH j1 fH) ?_;apply(j7);refine U ?_ ?_<;>intro dX;·
  apply SM∘w7;refine bQ L R BB ?_;have W:mP s c.l aA.l r f t=qW s c.l aA.l r.dN t:=by rw[mP,if_neg aQ,if_neg D,if_neg i3,if_pos dX]
  exact Nw
 apply hN∘Rt;refine cD rfl (ZC f _ _ aF) ?_;apply(j7);refine U ?_ ?_<;>intro dY;·
  apply SM∘w7;refine bQ L R BB ?_;have W:mP s c.l aA.l r f t=jS f.aZ.l f.a2.l f.cB:=by rw[mP,if_neg aQ,if_neg D,if_neg i3,if_neg dX,if_pos dY]
  exact Nw
 apply hN∘kD∘kD∘rR;refine U ?_ ?_<;>intro h1;·
  apply m3∘w7;refine bQ L R BB ?_;have W:mP s c.l aA.l r f t=17:=by rw[mP,if_neg aQ,if_neg D,if_neg i3,if_neg dX,if_neg dY,if_pos D]
  exact Nw
 have aM7:=Yd (s:=s) (c:=c.l) (aA:=aA.l) (k:=r.dN) (t:=t) D;apply D9∘Rt∘fD;refine dT rfl (aDD c f r.dN _ _ h.aV aF D D D) rfl ?_;rintro v E G ⟨rfl,rfl,kY⟩;refine aI iL rfl ?_;apply CO∘Du∘dE∘b9;refine U ?_ ?_<;>intro h2;·
  apply m3∘w7;refine bQ L _ BB ?_;have W:mP s c.l aA.l r f t=20:=by rw[mP,if_neg aQ,if_neg D,if_neg i3,if_neg dX,if_neg dY,if_neg D,if_pos (by simpa[v5]using h2)]
  exact⟨0,by rw[W],λh=>by omega,rfl,kY⟩
 apply SW∘dM∘vB;refine bQ L _ BB ?_;have W:mP s c.l aA.l r f t=0:=by rw[mP,if_neg aQ,if_neg D,if_neg i3,if_neg dX,if_neg dY,if_neg D,if_neg (by simpa[v5]using h2)]
 exact⟨v5 f r.dN,by rw[W];rfl,λ_=>rfl,rfl,kY⟩
def a7l{s:eA}{c:List b8}{aA:List bC}{r:jP}{f:hJ}{t:Int}(h:mP s c aA r f t=0):(0<=r.dN/\r.dN<c.length)/\c.length=f.a2.l.length/\jS f.aZ.l f.a2.l f.cB=0:=by
 rw[mP]at h;split at h;·omega
 rename_i b2;obtain⟨_,j1,_⟩:=Dj (Decidable.not_not.1 b2);split at h;·cases h
 split at h;·cases h
 split at h;·omega
 rename_i aU;have:=Yd (Decidable.not_not.1 aU);split at h;·omega
 split at h;·cases h
 omega
def qL(s:eA)(c:List b8)(aA:List bC)(r:jP)(f:hJ)(t:Int):Int:=
 if mP s c aA r f t≠0 then mP s c aA r f t else y3 f.aZ.l f.a2.l f.cB (v5 f r.dN) t
def M3(f:hJ)(r:jP):Prop:=v5 f r.dN=f.a2.l.getD r.dN.toNat 0
instance(f:hJ)(r:jP):Decidable (M3 f r):=by unfold M3;infer_instance
def x4(s:eA)(c:List b8)(aA:List bC)(r:jP)(f:hJ)(t:Int):jP:=
 if qL s c aA r f t≠0 then r else if M3 f r then xK else⟨r.dN,r.first,r.Hq,r.step,t⟩
def AE(s:eA)(c:List b8)(aA:List bC)(r:jP)(f:hJ)(t:Int):List b8:=
 if qL s c aA r f t≠0 then c else if M3 f r then c.set r.dN.toNat ⟨false,(c.getD r.dN.toNat default).clear,(c.getD r.dN.toNat default).i4⟩else c
def BR(s:eA)(c:List b8)(aA:List bC)(r:jP)(f:hJ)(t:Int):List bS:=
 if qL s c aA r f t≠0 then f.aZ.l else Kr f.aZ.l (v5 f r.dN) t
structure aDp(s:eA)(c:List b8)(aA:List bC)(r:jP)(f:hJ)(t:Int)(q:jP)(jK:List b8)(Y:List bS)(cI:List Int)(bX:Int):Prop where
 aD:q=x4 s c aA r f t
 aV:jK=AE s c aA r f t
 Y:Y=BR s c aA r f t
 cI:cI=f.a2.l
 bX:bX=f.cB
def aD3{s:eA}{c:List b8}{aA:List bC}{r:jP}{f:hJ}{t e:Int}(h:qL s c aA r f t=e)(W:e≠0):aDp s c aA r f t r c f.aZ.l f.a2.l f.cB:=by
 have b2:qL s c aA r f t≠0:=by omega
 exact⟨by rw[x4,if_pos b2],by rw[AE,if_pos b2],by rw[BR,if_pos b2],rfl,rfl⟩
def aUj(s:eA)(c:a4 b8)(aA:a4 bC)(r:jP)(f:hJ)(t:Int)(L:aR)(R:aO)(h:FJ s c aA R)(aF:k0 f R)(b1:c.l.length<=1000/\f.aZ.l.length<=1000/\f.a2.l.length<=1000):
 aM prog 87 [s.val,c.val,aA.val,r.val,f.val,.int .i64 t].toArray L R (λv E G=>∃(q:jP) (eY:J b8) (wS:J bS) (oQ:J Int) (bX:Int),v=.tuple #[q.val,eY.val,.agg #[wS.val,oQ.val,.int .i64 bX],.int .i64 (qL s c.l aA.l r f t)]/\
  (eY.ok 3 b8.cells/\wS.ok 5 bS.cells/\oQ.ok 1 a1)/\aDp s c.l aA.l r f t q eY.l wS.l oQ.l bX/\oQ.L 3 a1++(wS.L 76 bS.cells++(eY.L 71 b8.cells++L))=E/\∀r∈R,aL r G):=by
 have AN:=h.aV;have jB:=aF.Y;have o4:=aF.cI;refine b6 84 call87 func87 rfl rfl rfl ?_;apply(dB);intro i1;apply(iV);intro jR;apply(iV);intro i0;apply(dZ);intro n3;apply kA∘dZ;intro rU;apply mO∘gU;refine hT aQy rfl ?_;rintro v E G ⟨zI,rfl,TL,rfl,rfl⟩;apply vD∘Rt∘dZ;intro QA;apply(HT);refine a1w (cN 25 8) ((⟨λ_=>[],λg=>(⟨g.1.2,f.a2.l⟩:J Int).L 3 a1++((⟨g.1.1,f.aZ.l⟩:J bS).L 76 bS.cells++(⟨QA,[(⟨g.1.1,f.aZ.l⟩:J bS).val,(⟨g.1.2,f.a2.l⟩:J Int).val,.int .i64 f.cB],42⟩::((⟨zI,c.l⟩:J b8).L 71 b8.cells++(⟨rU,[.slice none 0 0,.slice none 0 0,.int .i64 0],42⟩::⟨n3,[.int .i64 0,.int .i64 0,.int .i64 0,.int .i64 0,.int .i64 0],51⟩::⟨i0,f.cells,42⟩::⟨jR,r.cells,51⟩::⟨i1,s.cells,38⟩::L)))),λ_=>R,λ_=>0⟩:fB {g:g6×g6//(⟨g.1,f.aZ.l⟩:J bS).ok 5 bS.cells/\(⟨g.2,f.a2.l⟩:J Int).ok 1 a1})) ?_ ?_;·
  skip
  refine Kn N [] [0,1,3,4,2,6,5] [7,8,9] (_) [] 7 dO bI rfl rfl bA λTB=>?_;refine nS 0 TB fM bI rfl rfl rfl rfl rfl xS ?_;refine nS 3 TB fM bI rfl rfl rfl rfl rfl xS ?_;refine mC [1,4] TB fM bI ?_;refine pB ?_ ?_;·
   skip
   apply(a03);rintro v E G ⟨rfl,rfl,rfl⟩;apply(gJ);refine mC [2,4] TB fM bI ?_;refine pB ?_ ?_;·
    skip
    apply(aI5);rintro v E G ⟨Hh,rfl,Ub,rfl,rfl⟩;apply gJ∘aKs;refine mC [4] TB fM bI ?_;apply mR∘a03;rintro v E G ⟨rfl,rfl,rfl⟩;apply(gJ);exact aPf
   exact aOH
  apply mR∘a03;rintro v E G ⟨rfl,rfl,rfl⟩;apply(gJ);refine mC [1] TB fM bI ?_;exact aOH
 rintro⟨⟨a2V,a2W⟩,Aa,a9R⟩ cH;try dsimp only
 dsimp only at Aa a9R;apply dC∘a4G∘gU∘gU∘a5j∘Rt∘cE;refine dT rfl (aVy s c aA r f t _ _ h aF) rfl ?_;rintro v E G ⟨a,rfl,bT,rfl,kY⟩;have vL:=aF.mono kY;have a2D:=vL.cI;refine aI iL rfl ?_;apply Y5∘PT;refine U ?_ ?_<;>intro aQ;·
  refine bK ?_;refine iS N [46,47,48] [0,1,2,3] [4,5,6,7] ([bN.mk QA _ _,bN.mk rU _ _,bN.mk n3 _ _,bN.mk jR _ _]) _ dO bI bA KR ?_;apply a7z∘a0b∘Yw;refine m2 zS rfl rfl rfl rfl ?_;apply oX∘a0q∘v0;refine g5 (a8 (iY (gB ?_)));refine bQ ((⟨a2W,f.a2.l⟩:J Int).L 3 a1++((⟨a2V,f.aZ.l⟩:J bS).L 76 bS.cells++((⟨zI,c.l⟩:J b8).L 71 b8.cells++L))) _ KW ?_;have W:qL s c.l aA.l r f t=mP s c.l aA.l r f t:=by rw[qL,if_pos aQ]
  exact⟨r,⟨zI,c.l⟩,⟨a2V,f.aZ.l⟩,⟨a2W,f.a2.l⟩,f.cB,by rw[W];rfl,⟨TL,Aa,a9R⟩,aD3 W aQ,rfl,kY⟩
 obtain rfl:a=v5 f r.dN:=bT D;obtain⟨aM7,b9x,i2⟩:=a7l (s:=s) (c:=c.l) (aA:=aA.l) (r:=r) (f:=f) (t:=t) D;have W:qL s c.l aA.l r f t=y3 f.aZ.l f.a2.l f.cB (v5 f r.dN) t:=by rw[qL,if_neg aQ]
 have qG:=bJ (l:=f.a2.l) (k:=r.dN.toNat) 0 D;have pX:=bJ (l:=c.l) (k:=r.dN.toNat) default D;obtain⟨x,K⟩:∃x,x=c.l.getD r.dN.toNat default:=⟨_,rfl⟩;rw[<-K]at pX;apply e0∘Rt∘lD;refine dT rfl (aTO f (v5 f r.dN) t _ _ vL) rfl ?_;rintro v E G ⟨p,q,bX,rfl,⟨iF,gR⟩,kK,rfl,rfl⟩;refine aI iL rfl ?_;apply(CS);intro AG;apply jZ∘PT;refine U ?_ ?_<;>intro bL;·refine bK ?_;refine iS N [59,60,61] [0,1,2,3] [4,5,6,7] ([bN.mk QA _ _,bN.mk rU _ _,bN.mk n3 _ _,bN.mk jR _ _]) _ dO bI bA KR ?_;apply a7z∘a0b∘Yw;refine m2 zS rfl rfl rfl rfl ?_;apply oX∘a0q∘v0;refine g5 (a8 (iY (gB ?_)));refine bQ ((⟨a2W,f.a2.l⟩:J Int).L 3 a1++((⟨a2V,f.aZ.l⟩:J bS).L 76 bS.cells++((⟨zI,c.l⟩:J b8).L 71 b8.cells++L))) _ KW ?_;exact⟨r,⟨zI,c.l⟩,⟨a2V,f.aZ.l⟩,⟨a2W,f.a2.l⟩,f.cB,by rw[W];rfl,⟨TL,Aa,a9R⟩,aD3 W bL,rfl,kY⟩
 obtain⟨eI,fT,rfl⟩:=kK D;have mQ:y3 f.aZ.l f.a2.l f.cB (v5 f r.dN) t=0:=by omega
 have o2:¬qL s c.l aA.l r f t≠0:=by omega
 apply hN∘cE∘j0;refine aI aDk rfl ?_;apply jG∘rR;refine U ?_ ?_<;>intro cC;·apply dC∘a5j∘dZ;intro y4;apply sI∘cE∘vZ∘j2;refine iS N [74,75] [0,1,2] [3,4,5,6] ([bN.mk y4 _ _,bN.mk AG _ _,bN.mk rU _ _,bN.mk n3 _ _]) _ dO bI bA KR ?_;apply a7z∘a0b∘Yw∘oX∘a0q∘v0;refine g5 (a8 (iY (gB ?_)));refine bQ (q.L 3 a1++(p.L 76 bS.cells++((⟨zI,c.l⟩:J b8).L 71 b8.cells++L))) _ KW ?_;exact⟨⟨r.dN,r.first,r.Hq,r.step,t⟩,⟨zI,c.l⟩,p,q,f.cB,by rw[W,mQ];rfl,⟨TL,iF,gR⟩,⟨by rw[x4,if_neg o2,if_neg (by rw[M3];omega)],by rw[AE,if_neg o2,if_neg (by rw[M3];omega)],by rw[BR,if_neg o2,eI],fT,rfl⟩,rfl,kY⟩
 apply e0∘yY;refine aI (jA N ((⟨zI,c.l⟩:J b8)) _ rfl rfl rfl rfl bR (i:=r.dN.toNat) dA jC) rfl ?_;apply(l6);refine jH (j5 N ((⟨zI,c.l⟩:J b8)) (⟨false,x.clear,x.i4⟩) rfl rfl rfl rfl cF bR bD bR aW aB aB) ?_;rintro v E G ⟨rfl,rfl⟩;apply(j2);have aAu:=J.qX (f:=b8.cells) (aN:=3) (p:=⟨zI,c.l⟩) (i:=r.dN.toNat) (x:=⟨false,x.clear,x.i4⟩) bD TL;refine iS N [82,83] [1,2,0] [3,4,5,6] ([bN.mk AG _ _,bN.mk rU _ _,bN.mk n3 _ _]) _ dO bI bA KR ?_;apply a0b∘Yw;refine rQ rfl (a7M _ _) rfl rfl ?_;rintro v E G ⟨rfl,rfl,rfl⟩;refine⟨bA,iQ,?_⟩;apply oX∘a0q∘v0;refine g5 (a8 (iY ?_));refine bQ (q.L 3 a1++(p.L 76 bS.cells++((⟨zI,c.l.set r.dN.toNat ⟨false,x.clear,x.i4⟩⟩:J b8).L 71 b8.cells++L))) _ KW ?_;exact⟨xK,⟨zI,c.l.set r.dN.toNat ⟨false,x.clear,x.i4⟩⟩,p,q,f.cB,by simp only[W,mQ,J.val,q0],⟨aAu,iF,gR⟩,⟨by rw[x4,if_neg o2,if_pos (by rw[M3];omega)],by rw[AE,if_neg o2,if_pos (by rw[M3];omega),<-K],by rw[BR,if_neg o2,eI],fT,rfl⟩,rfl,kY⟩
end
def R1(z:kW):kW:=⟨⟨none,0,z.jN.l⟩,z.hold,⟨none,0,z.aJ.l⟩,z.uR⟩
def wG(s:eA):eA:=⟨q5 s.b0,⟨none,0,s.cO.l⟩,⟨none,0,s.fC.l⟩,⟨none,0,s.a2.l.map R1⟩,⟨none,0,s.lM.l⟩⟩
def Rz(s:eA)(k:Nat):(wG s).a2.l.getD k default=R1 (s.a2.l.getD k default):=a1g rfl
def Pe(s:eA):(wG s).a2.l.length=s.a2.l.length:=sV _
def b0e(a:b3)(x:gP):PM (q5 a) x=PM a x:=by rw[PM,PM,show(q5 a).c3.l.length=a.c3.l.length from sV _,show(q5 a).cM.l.length=a.cM.l.length from sV _];rfl
def aWE(a:b3)(S:List gP):HJ (q5 a) S=HJ a S:=by
 have e:wL (q5 a) S=wL a S:=by funext i;rw[wL,wL,b0e]
 rw[HJ,HJ,e]
def aUq(s:eA):HY (wG s)=HY s:=by rw[HY,HY,show(wG s).a2.l=s.a2.l.map R1 from rfl,aCu];rfl
def Qg(s:eA):nO (wG s)=nO s:=by rw[nO,nO,aUq,Pe,show h5 (wG s).b0=h5 s.b0 from aGS _,show HJ (wG s).b0 (wG s).cO.l=HJ s.b0 s.cO.l from aWE _ _];rfl
def aEM(s:eA)(m:List eE)(w:List fU)(aA:List bC)(t:Int):pI (wG s) m w aA t=pI s m w aA t:=by rw[pI,pI,Qg];rfl
def aKS(s:eA)(v:List Int)(c:List b8)(t:Int):pU (wG s) v c t=pU s v c t:=by rw[pU,pU,Qg,Pe];rfl
def aI3(s:eA)(v:List Int)(c:List b8)(t:Int):H3 (wG s) v c t=H3 s v c t:=by funext i;rw[H3,H3,Rz];rfl
def a6r(s:eA)(v:List Int)(c:List b8): ∀k,yU (wG s) v c k=yU s v c k
 |0=>rfl
 |k+1=>by rw[yU,yU,a6r s v c k,Rz];rfl
def aHf(s:eA)(c:List b8)(aA:List bC)(k t:Int):qW (wG s) c aA k t=qW s c aA k t:=by rw[qW,qW,Rz];rfl
def aJg(s:eA)(n m:Nat)(t:Int):sT (wG s) n m t=sT s n m t:=by rw[sT,sT,Qg,Pe];rfl
abbrev fX(s s':eA):Prop:=wG s=wG s'
section
variable{s s':eA}(h:fX s s')
include h
def fX.b0:q5 s.b0=q5 s'.b0:=congrArg eA.b0 Cf
def fX.OP:s.cO.l=s'.cO.l:=by have e:=congrArg (λx:eA=>x.cO.l) Cf;exact e
def fX.fC:s.fC.l=s'.fC.l:=by have e:=congrArg (λx:eA=>x.fC.l) Cf;exact e
def fX.lM:s.lM.l=s'.lM.l:=by have e:=congrArg (λx:eA=>x.lM.l) Cf;exact e
def fX.places:s.b0.aC.places.l=s'.b0.aC.places.l:=by have e:=congrArg (λx:eA=>x.b0.aC.places.l) Cf;exact e
def fX.aJ:s.b0.aC.aJ.l=s'.b0.aC.aJ.l:=by have e:=congrArg (λx:eA=>x.b0.aC.aJ.l) Cf;exact e
def fX.XF:s.b0.c3.l.length=s'.b0.c3.l.length:=by have:=congrArg (λx:eA=>x.b0.c3.l.length) Cf;simpa[wG,q5]using this
def fX.T3:s.b0.cM.l.length=s'.b0.cM.l.length:=by have:=congrArg (λx:eA=>x.b0.cM.l.length) Cf;simpa[wG,q5]using this
def fX.a2L:s.a2.l.length=s'.a2.l.length:=by rw[<-Pe s,h,Pe s']
def fX.dN(k:Nat):R1 (s.a2.l.getD k default)=R1 (s'.a2.l.getD k default):=by rw[<-Rz s,h,Rz s']
def fX.jN(k:Nat):(s.a2.l.getD k default).jN.l=(s'.a2.l.getD k default).jN.l:=by have e:=congrArg (λz:kW=>z.jN.l) (fX.dN h k);exact e
def fX.H4(k:Nat):(s.b0.cM.l.getD k default).hS.l=(s'.b0.cM.l.getD k default).hS.l:=by
 have e:FE (s.b0.cM.l.getD k default)=FE (s'.b0.cM.l.getD k default):=by rw[<-a5a s.b0,fX.b0 h,a5a s'.b0]
 have fN:=congrArg (λd:kI=>d.hS.l) e;exact fN
def fX.AM:nO s=nO s':=by rw[<-Qg s,h,Qg s']
def fX.pI(m:List eE)(w:List fU)(aA:List bC)(t:Int):pI s m w aA t=pI s' m w aA t:=by rw[<-aEM s,h,aEM s']
def fX.GW(m:List eE)(w:List fU)(aA:List bC)(t:Int):GW s m w aA t=GW s' m w aA t:=by rw[Go.Proofs.YtchfclmokpbldaaGreat.GW,Go.Proofs.YtchfclmokpbldaaGreat.GW,fX.pI h,fX.OP h,fX.fC h]
def fX.oR(m:List eE)(w:List fU)(aA:List bC)(t:Int):oR s m w aA t=oR s' m w aA t:=by rw[Go.Proofs.YtchfclmokpbldaaGreat.oR,Go.Proofs.YtchfclmokpbldaaGreat.oR,fX.pI h,fX.OP h,fX.fC h]
def fX.pU(v:List Int)(c:List b8)(t:Int):pU s v c t=pU s' v c t:=by rw[<-aKS s,h,aKS s']
def fX.H3(v:List Int)(c:List b8)(t:Int):H3 s v c t=H3 s' v c t:=by rw[<-aI3 s,h,aI3 s']
def fX.o1(v:List Int)(c:List b8)(t:Int):o1 s v c t=o1 s' v c t:=by rw[Go.Proofs.YtchfclmokpbldaaGreat.o1,Go.Proofs.YtchfclmokpbldaaGreat.o1,fX.pU h,fX.H3 h]
def fX.x6(v:List Int)(c:List b8)(t:Int):x6 s v c t=x6 s' v c t:=by rw[Go.Proofs.YtchfclmokpbldaaGreat.x6,Go.Proofs.YtchfclmokpbldaaGreat.x6,fX.pU h,<-a6r s,h,a6r s']
def fX.qW(c:List b8)(aA:List bC)(k t:Int):qW s c aA k t=qW s' c aA k t:=by rw[<-aHf s,h,aHf s']
def fX.sT(n m:Nat)(t:Int):sT s n m t=sT s' n m t:=by rw[<-aJg s,h,aJg s']
def fX.oZ(c:List b8)(aA:List bC)(r:jP)(p k t:Int):oZ s c aA r p k t=oZ s' c aA r p k t:=by rw[Go.Proofs.YtchfclmokpbldaaGreat.oZ,Go.Proofs.YtchfclmokpbldaaGreat.oZ,fX.sT h,fX.qW h,fX.lM h]
def fX.s9(c:List b8)(aA:List bC)(r:jP)(p k t:Int):s9 s c aA r p k t=s9 s' c aA r p k t:=by rw[Go.Proofs.YtchfclmokpbldaaGreat.s9,Go.Proofs.YtchfclmokpbldaaGreat.s9,fX.oZ h]
def fX.rV(c:List b8)(aA:List bC)(r:jP)(p t:Int):rV s c aA r p t=rV s' c aA r p t:=by
 have e:P6 s r p↔P6 s' r p:=by unfold P6;rw[fX.lM h]
 simp only[Go.Proofs.YtchfclmokpbldaaGreat.rV,fX.sT h,fX.qW h,e]
def fX.tU(c:List b8)(aA:List bC)(r:jP)(p t:Int):tU s c aA r p t=tU s' c aA r p t:=by rw[Go.Proofs.YtchfclmokpbldaaGreat.tU,Go.Proofs.YtchfclmokpbldaaGreat.tU,fX.rV h]
end
def aIu(x:bS)(t:Int):bS:=⟨x.bG,t,0,false,false⟩
def p7(Y:List bS)(s t:Int):List bS:=if(Y.getD s.toNat default).eJ=true then Y.set s.toNat (aIu (Y.getD s.toNat default) t)else Y
def aWX(Y:List bS)(s t:Int):(p7 Y s t).length=Y.length:=by rw[p7];split<;>simp
structure tM(Y r6:List bS)(t:Int):Prop where
 len:r6.length=Y.length
 l3:∀i:Nat,i<Y.length->(r6.getD i default).bG=(Y.getD i default).bG/\((r6.getD i default).cZ=(Y.getD i default).cZ\/(r6.getD i default).cZ=t)/\(-1<=(r6.getD i default).c1/\(r6.getD i default).c1<=1)/\¬((r6.getD i default).bY=true/\((r6.getD i default).eJ=true\/(r6.getD i default).c1= -1))
def aK5{Y:List bS}{cI:List Int}{bX:Int}(h:jS Y cI bX=0):∀i:Nat,i<Y.length->(-1<=(Y.getD i default).c1/\(Y.getD i default).c1<=1)/\¬((Y.getD i default).bY=true/\((Y.getD i default).eJ=true\/(Y.getD i default).c1= -1)):=λi aE=>by
 by_cases b2:32<Y.length\/16<cI.length
 ·rw[jS,if_pos b2]at h;omega
 cases O:(List.range Y.length).findSome? (yQ Y)with
 |some e=>rw[Qt b2 O]at h;exact absurd h (a7a (λ_=>aFD) O)
 |none=>
  have:=a6L O aE
  rw[yQ]at this
  split at this
  ·cases this
  split at this
  ·cases this
  split at this
  ·cases this
  rename_i g9 fI o5
  rw[not_or]at o5
  exact⟨by omega,o5.2⟩
def tM.refl{Y:List bS}{cI:List Int}{bX:Int}(h:jS Y cI bX=0)(t:Int):tM Y Y t:=⟨rfl,λi aE=>⟨rfl,.inl rfl,aK5 h i aE⟩⟩
def tM.jS{Y r6:List bS}{cI:List Int}{bX t:Int}(k:tM Y r6 t)(h:jS Y cI bX=0)(fH:0<=t/\t<=2147483648):jS r6 cI bX=0:=by
 have aX:=k.len;have bH:=xZ h;have b1O:¬(32<r6.length\/16<cI.length):=by have:=bH.A7;have:=bH.w1;omega
 have So:(List.range r6.length).findSome? (yQ r6)=none:=by
  rw[OU];intro i aE;rw[XP,aX]at aE;have X:=k.l3 i aE;have aU:=bH.up i aE;have cK:=bH.cZ i aE;exact a7m rfl D D (λh=>by
   rcases h with h|h;·omega
   ·exact X.2.2.2 h)
 have aLM:(List.range cI.length).findSome? (DX r6.length cI)=none:=by rw[OU];intro i aE;rw[XP]at aE;have:=bH.X5 i aE;exact a63 D (λ⟨j,a6,e⟩=>bH.b7U i j a6 aE e)
 rw[Iw b1O So aLM,if_neg (by have:=bH.bX;omega)]
def tM.time{Y r6:List bS}{t:Int}(k:tM Y r6 t)(h:JD Y t):JD r6 t:=⟨h.1,λx K=>by
 obtain⟨i,aE⟩:=List.mem_iff_getElem?.1 K
 have Tm:=(List.getElem?_eq_some_iff.1 aE).1
 have aX:=k.len
 have e:=getD_some (d:=default) aE
 have X:=k.l3 i D
 have aU:=h.2 _ (hV (bJ (l:=Y) (k:=i) default D))
 rw[e]at X
 omega⟩
def tM.set{Y r6:List bS}{t:Int}(k:tM Y r6 t){i:Nat}{x:bS}(O:x.bG=(r6.getD i default).bG)(X:x.cZ=(r6.getD i default).cZ\/x.cZ=t)(aU:-1<=x.c1/\x.c1<=1)(cK:¬(x.bY=true/\(x.eJ=true\/x.c1= -1))):tM Y (r6.set i x) t:=by
 refine⟨by rw[q0];exact k.len,λj a6=>?_⟩;have aX:=k.len;have aG:=k.l3 j a6;rw[m8,IW];split;·
  rename_i e;subst e;rw[if_pos D];refine⟨by rw[<-aG.1,<-O];rfl,?_,aU,cK⟩;rcases X with X|X;·
   rcases aG.2.1 with fY|fY;·exact .inl (by rw[<-fY,<-X];rfl)
   ·exact .inr (by rw[<-fY,<-X];rfl)
  ·exact .inr X
 ·rw[<-m8];exact aG
def tM.a2Y{Y r6:List bS}{t:Int}(k:tM Y r6 t)(s:Int):tM Y (p7 r6 s t) t:=by
 rw[p7];split;·exact k.set rfl (.inr rfl) ⟨by show(-1:Int)<=0;decide,by show(0:Int)<=1;decide⟩ (by simp[aIu])
 ·exact k
def VJ(x:bS):Bool:=!x.eJ && decide (x.c1≠-1) && !x.bY
structure Do where
 Y:List bS
 bY:List Int
 RA:List Int
 deriving Inhabited
def Jx(x:bS):bS:=⟨x.bG,x.cZ,x.c1,x.eJ,true⟩
def VI(bX t:Int)(y:Do)(i:Nat):Do:=
 if VJ (y.Y.getD i default)=true/\bX<=t-(y.Y.getD i default).cZ then
  if 0<=(y.Y.getD i default).bG/\((y.Y.set i (Jx (y.Y.getD i default))).getD (y.Y.getD i default).bG.toNat default).eJ=true then
   ⟨p7 (y.Y.set i (Jx (y.Y.getD i default))) (y.Y.getD i default).bG t,y.bY++[(i:Int)],y.RA++[(y.Y.getD i default).bG]⟩
  else⟨y.Y.set i (Jx (y.Y.getD i default)),y.bY++[(i:Int)],y.RA⟩
 else y
def JJ(Y:List bS)(bX t:Int):Nat->Do
 |0=>⟨Y,[],[]⟩
 |k+1=>VI bX t (JJ Y bX t k) (Y.length-1-k)
def nA(Y:List bS)(bX t:Int):Do:=JJ Y bX t Y.length
def b0K{Y:List bS}{bX t:Int}{y:Do}(i:Nat)(aE:i<Y.length)(k:tM Y y.Y t):tM Y (VI bX t y i).Y t:=by
 have X:=k.l3 i aE;rw[VI];split;·
  rename_i dH;have a2y:=dH.1;rw[VJ,nH,nH,decide_eq_true_eq]at a2y;have aH:tM Y (y.Y.set i (Jx (y.Y.getD i default))) t:=k.set rfl (.inl rfl) X.2.2.1 (λh=>by
   rcases h.2 with h|h;·have:(y.Y.getD i default).eJ=true:=h;rw[this]at a2y;exact absurd a2y.1.1 aW
   ·exact a2y.1.2 h)
  split;·exact aH.a2Y _
  ·exact aH
 ·exact k
def Ix{Y:List bS}{cI:List Int}{bX t:Int}(h:jS Y cI bX=0): ∀k,k<=Y.length->tM Y (JJ Y bX t k).Y t
 |0,_=>.refl h t
 |k+1,aG=>b0K _ D (Ix h k D)
def aWg{bX t:Int}{y:Do}{i:Nat}:(VI bX t y i).bY.length<=y.bY.length+1/\(VI bX t y i).RA.length<=y.RA.length+1:=by
 rw[VI];repeat' split
 all_goals (first|(simp only[l9,wD,UH];omega)|omega)
def Qn{Y:List bS}{bX t:Int}: ∀k,(JJ Y bX t k).bY.length<=k/\(JJ Y bX t k).RA.length<=k
 |0=>⟨iK _,iK _⟩
 |k+1=>by
  have O:=Qn (Y:=Y) (bX:=bX) (t:=t) k
  have X:=aWg (bX:=bX) (t:=t) (y:=JJ Y bX t k) (i:=Y.length-1-k)
  rw[JJ];omega
def Eg(bX:Int)(v:Int)(x:bS):Int:=if VJ x=true then min v (x.cZ+bX)else v
def M0(Y:List bS)(bX:Int):Int:=Y.foldl (Eg bX) 1099511627776
end Go.Proofs.YtchfclmokpbldaaGreat
