/-
  Merged texts. By an AI agent.
-/
import Derived.Test.YtchfclmokpbldaaGreatReach
set_option linter.all false
set_option maxHeartbeats 4000000
set_option maxRecDepth 20000
variable{A B:Prop}
namespace Go.Proofs.YtchfclmokpbldaaGreat
open Go.Aw Go Go.Proofs.Tryz
section
attribute [local irreducible] cQ dF dV aM cP eC e5 e1 e2 e6 eX e4 J.L
def aLg(h:A->B:=by exact aI (jA N ((⟨o,l⟩:J Bool)) _ rfl rfl ((show _=Value.slice _ _ _ from rfl).trans (show Value.slice o.pS A.length o.cap=(⟨o,l⟩:J Bool).val by simp only[J.val,pW,WA])) rfl bR (i:=k) dA jC) rfl):=h
def aXo(h:A->B:=by exact jH (j5 N ((⟨o,l⟩:J Bool)) (_) rfl rfl rfl rfl cF bR bD bR aW aB aB)):=h
def lB.length{m:h4}{A:List Bool}(h:lB m A):A.length=m.places.l.length:=by rw[h.len];simp[M4]
def aVM{m:h4}{A l:List Bool}(gE:lB m A)(aX:l.length=m.places.l.length)(h:∀i:Nat,l.getD i false=true↔(i:Int)∈LK A m.places.l.length):l=A.map (!·):=by
 have WA:=gE.length;refine UG λi=>?_;rcases hF i m.places.l.length with aE|aE;·rw[bJ (l:=l) (k:=i) false D,pA,bJ (l:=A) (k:=i) false D];have O:=h i;rw[a6Y]at O;have X:l.getD i false=true↔¬A.getD i false=true:=O.trans ⟨λ⟨j,e,_,aU⟩=>by rw[show i=j from by omega];exact aU,λaU=>⟨i,rfl,aE,aU⟩⟩;simp only[Bw,Np];cases bT:A.getD i false<;>cases a5:l.getD i false<;>simp_all
 ·rw[uF D,uF DQ]
def a1d(m:h4)(L:aR)(R:aO)(a3:K4 m R)(bH:MV m)(cY:uI m=0):
 aM prog 189 [m.val].toArray L R (λw E G=>∃(p:J Bool) (A:List Bool) (S:aO),w=p.val/\p.ok 1 jJ/\lB m A/\p.l=A.map (!·)/\p.L 4 jJ++L=E/\S++R=G):=by
 have B7:=a3.places;have r0:=bH.places;refine b6 22 call189 func189 rfl rfl rfl ?_;apply(dB);intro gL;apply vD∘kD∘GS;rintro v E G ⟨jR,rfl,rfl,a8Z⟩;replace a8Z:=a8Z.symm;subst a8Z;apply(HR);refine eM Ib ?_;apply eB∘nZ;refine dT rfl (aYJ m _ _ a3 bH cY) rfl ?_;rintro v E G ⟨p,A,S,rfl,iF,gE,eI,rfl,rfl⟩;have lK:=a7o A m.places.l.length;rw[<-eI]at lK;apply u0∘VM;refine dS [(3,.slice _ _ _),(11,.slice _ _ _),(12,.int _ _),(13,.int _ _)] bV λfK=>?_;refine k2 ([5]++cN 13 8) ((⟨λq=>[(13,.int .i64 ((q.1.1:Nat):Int))],λq=>p.L 3 a1++((⟨.own jR m.places.l.length [],q.1.2⟩:J Bool).L 4 jJ++(⟨gL,m.cells,28⟩::L)),λ_=>S++R,λq=>p.l.length-q.1.1⟩:fB {q:Nat×List Bool//q.1<=p.l.length/\q.2.length=m.places.l.length/\∀i:Nat,q.2.getD i false=true↔∃j:Nat,j<q.1/\p.l[j]?=some (i:Int)})) (⟨(0,List.replicate m.places.l.length false),by dsimp only;omega,by simp,λi=>⟨λh=>(by simp[m8,UE]at h;split at h<;>simp at h),λ⟨j,a6,_⟩=>D⟩⟩) ?_;rintro⟨⟨k,l⟩,uB,pW,jU⟩ cH;try dsimp only
 dsimp only at uB pW jU;have Tq:(⟨.own jR m.places.l.length [],l⟩:J Bool).ok 1 jJ:=by have:=ED (f:=jJ) (aN:=1) (b:=jR) (n:=m.places.l.length) (x:=false) BP DP;exact J.o6 BP this Wp
 apply(h0);refine U ?_ ?_<;>intro aQ;·
  have b7:=bJ (l:=p.l) (k:=k) 0 D;have B5:=hV b7;rw[eI]at B5;obtain⟨u,AZ,uX,bAc⟩:=a6Y.1 B5;rw[<-eI]at AZ;rw[AZ]at b7;have wA:=bJ (l:=l) (k:=u) false D;apply(j9);refine aI (jA N (p) _ rfl rfl rfl rfl bR (i:=k) dA jC) rfl ?_;refine aI O2 rfl ?_;apply(dM);refine eZ (a8 (c2 ?_));apply(h9);refine aI (jA N ((⟨.own jR m.places.l.length [],l⟩:J Bool)) _ rfl rfl ((show _=Value.slice _ _ _ from rfl).trans (w6 pW)) rfl bR (i:=u) dA jC) rfl ?_;refine jH (j5 N ((⟨.own jR m.places.l.length [],l⟩:J Bool)) (true) rfl rfl rfl rfl cF bR bD bR aW aB aB) ?_;rintro v E G ⟨rfl,rfl⟩;apply(uJ);exact hP ⟨(k+1,l.set u true),by dsimp only;omega,by simp;exact pW,λi=>by
  dsimp only;rw[Rn D];split;·rename_i e;exact⟨λ_=>⟨k,by omega,by rw[e];exact b7⟩,λ_=>rfl⟩
  ·
   rename_i e;refine(jU i).trans ⟨λ⟨j,O,X⟩=>⟨j,by omega,X⟩,λ⟨j,O,X⟩=>?_⟩;rcases hF j k with cK|cK;·exact⟨j,cK,X⟩
   ·(obtain rfl:j=k:=by omega);rw[b7]at X;exact absurd (by have:=yF X;omega) e⟩ gW bV bA eN hO
 obtain rfl:k=p.l.length:=by omega
 have b36:=aVM gE pW (λi=>by rw[jU i,<-eI,List.mem_iff_getElem?];exact⟨λ⟨j,_,h⟩=>⟨j,h⟩,λ⟨j,h⟩=>⟨j,(List.getElem?_eq_some_iff.1 h).1,h⟩⟩);apply(SP);refine bQ ((⟨.own jR m.places.l.length [],l⟩:J Bool).L 4 jJ++L) (S++R) w2 ?_;exact⟨(⟨.own jR m.places.l.length [],l⟩:J Bool),A,S,w6 pW,Tq,gE,b36,rfl,rfl⟩
def UV(m:h4)(A:List Bool):List Bool:=(List.range m.places.l.length).map λi=>!(A.getD i false)||(m.places.l.getD i default).tG
def a1z{m:h4}{A:List Bool}{i:Nat}(h:i<m.places.l.length):(UV m A)[i]?=some (!(A.getD i false)||(m.places.l.getD i default).tG):=by rw[UV,pA,KP h];rfl
def aU6(m:h4)(L:aR)(R:aO)(a3:K4 m R)(bH:MV m):
 aM prog 286 [m.val].toArray L R (λw E G=>∃(p:J Bool) (A:List Bool),w=p.val/\p.ok 1 jJ/\lB m A/\p.l=UV m A/\L++p.L 4 jJ=E/\R=G):=by
 have B7:=a3.places;have r0:=bH.places;refine b6 30 call286 func286 rfl rfl rfl ?_;apply(dB);intro gL;apply vD∘nZ;refine dT rfl (aDw m _ _ a3 bH) rfl ?_;rintro v E G ⟨p,rfl,aP,gE,rfl,rfl⟩;simp only[oB,pK,nN];have WA:=gE.length;obtain⟨o,A⟩:=p;dsimp only at gE WA;apply v1∘nP;refine dS [(1,.pointer _),(3,.slice _ _ _),(4,.int _ _)] bV λfK=>?_;refine k2 ([4]++cN 7 22) ((⟨λq=>[(4,.int .i64 ((q.1.1:Nat):Int))],λq=>⟨gL,m.cells,28⟩::(L++(⟨o,q.1.2⟩:J Bool).L 4 jJ),λ_=>R,λq=>m.places.l.length-q.1.1⟩:fB {q:Nat×List Bool//q.1<=m.places.l.length/\q.2.length=m.places.l.length/\(⟨o,q.2⟩:J Bool).ok 1 jJ/\∀i:Nat,q.2[i]?=if i<q.1 then(UV m A)[i]? else A[i]?})) (⟨(0,A),by dsimp only;omega,WA,aP,λi=>by rw[if_neg hO]⟩) ?_;rintro⟨⟨k,l⟩,uB,pW,aG,jU⟩ cH;try dsimp only
 dsimp only at uB pW aG jU;apply(uM);refine U ?_ ?_<;>intro aQ;·
  have zD:=bJ (l:=m.places.l) (k:=k) default D;have b1Y:=bJ (l:=A) (k:=k) false D;have wA:l[k]?=some (A.getD k false):=by rw[jU k,if_neg D];exact b1Y
  have TH:=a1z (m:=m) (A:=A) (i:=k) D;refine eP (a8 (bK (fR (c2 ?_))));apply h9∘h9∘aLg;refine aI (tK N ((⟨o,l⟩:J Bool)) rfl rfl rfl cF bR bD bR aB) rfl ?_;apply(JR);refine HC (k:=20) aY (λhM=>?_) (λhM=>?_);·replace hM:=bB hM;(iterate 6 refine RU rfl rfl ?_);exact aO8
  replace hM:=bB hM;refine kB xS rfl rfl ?_;refine kB I1 rfl rfl ?_;refine kB zS rfl rfl ?_;refine kB pL rfl rfl ?_;refine kB Ou rfl rfl ?_;refine kB Cj rfl rfl ?_;exact aO8
 obtain rfl:k=m.places.l.length:=by omega
 have a9Y:l=UV m A:=by
  refine UG λi=>?_;rw[jU i];split;·rfl
  ·rw[uF D,uF (by simp[UV];omega)]
 apply(SP);refine bQ (L++(⟨o,l⟩:J Bool).L 4 jJ) R w2 ?_;exact⟨⟨o,l⟩,A,(show Value.slice o.pS A.length o.cap=(⟨o,l⟩:J Bool).val by simp only[J.val,pW,WA]),aG,gE,a9Y,rfl,rfl⟩
def a0P(h:A->B:=by exact aI O0 rfl):=h
def a0R(h:A->B:=by exact aI X1 rfl):=h
def a4V(h:B:=by exact⟨by rw[x8,wH gM D (AV.trans (if_pos D))];rfl,rfl,rfl⟩):=h
def aGp(h:B:=by exact⟨by rw[sJ,if_neg aQ,if_neg AO,if_neg D,if_pos (by simp_all [Option.isSome_iff_ne_none])],rfl,rfl⟩):=h
structure q8 where
 bU:a4 Int
 bW:a4 Int
def q8.cells(s:q8):List Value:=[s.bU.val,s.bW.val]
abbrev q8.val(s:q8):Value:=.agg #[s.bU.val,s.bW.val]
structure Io(s:q8)(R:aO):Prop where
 bU:aL (dU s.bU) R
 bW:aL (dU s.bW) R
def s2(a:b3)(s:cS)(b:q8)(A:List Bool)(i:Nat):Option Int:=
 if(!(A.getD i false)||(a.aC.places.l.getD i default).tG)=true then(if b.bU.l.getD i 0≠0\/b.bW.l.getD i 0≠0 then some 12 else none)
 else(if yO a s b.bW.l (i:Int)<0\/0<yN a s b.bU.l (i:Int)then some 12 else none)
def sJ(a:b3)(s:cS)(b:q8)(A:List Bool):Int:=
 if h5 a≠0 then h5 a
 else if l0 a s=false then 21
 else if b.bU.l.length≠a.aC.places.l.length\/b.bW.l.length≠a.aC.places.l.length then 11
 else if(b.bU.l.findSome? tN).isSome=true\/(b.bW.l.findSome? tN).isSome=true then 1
 else((List.range a.aC.places.l.length).findSome? (s2 a s b A)).getD 0
def a6g(m:h4)(A:List Bool):(UV m A).length=m.places.l.length:=by simp[UV]
def a6R(x:a4 Int)(L:aR)(R:aO)(K:aL (dU x) R):
 aM prog 285 [x.val].toArray L R (λv E G=>v=.bool (x.l.findSome? tN).isNone/\L=E/\R=G):=by
 refine m1 call285 K λQZ=>?_;refine b6 22 call285 func285 rfl rfl rfl ?_;apply VY∘nP;refine dS [(0,.slice _ _ _),(3,.int _ _)] bV λfK=>?_;refine gY (cN 2 20) (λg:FS (tN) (x.l)=>[(3,.int .i64 ((g.1:Nat):Int))]) (λg=>(x.l).length-g.1) ⟨0,y0 _ _⟩ ?_;rintro⟨fF,zA,gM⟩ cH;try dsimp only
 apply(uM);refine U ?_ ?_<;>intro aQ;·
  obtain⟨y,aS⟩:=jW (l:=x.l) (k:=fF) D;apply j9∘h9∘a0P∘jG∘z5;apply cA (Z:=[_,_,_,_,_]) (j:=5) (a9:=15) rfl rfl aB rfl aY rfl;·intro kL;replace kL:=bB kL;exact(h9∘a0P∘jG) MI
  intro XC;apply(b9);refine U ?_ ?_<;>intro bL;·apply(FV);refine lG L R ?_;exact⟨by rw[yT gM aS (if_pos D)];rfl,rfl,rfl⟩
  apply(mT);exact eO ⟨fF+1,x5 gM aS (if_neg D)⟩
 have mX:=y1 gM D;apply(SJ);refine lG L R ?_;exact⟨by rw[mX];rfl,rfl,rfl⟩
def aY9(a:b3)(s:cS)(b:q8)(A:List Bool)(L:aR)(R:aO)(a3:mZ a R)(aH:pQ s R)(a5:Io b R)(gE:h5 a=0->lB a.aC A):
 aM prog 255 [a.val,s.val,b.val].toArray L R (λv E G=>v=.int .i64 (sJ a s b A)/\L=E/\R=G):=by
 have B7:=a3.places;have WG:=a5.bU;have WF:=a5.bW;refine m1 call255 WG λb2Q=>?_;refine m1 call255 WF λb2P=>?_;refine m1 call255 B7 λa95=>?_;refine b6 88 call255 func255 rfl rfl rfl ?_;apply(dB);intro eS;apply(iV);intro eD;apply(iV);intro gQ;apply hH∘r5;refine cD rfl (Pg a _ _ a3) ?_;apply(j7);refine U ?_ ?_<;>intro aQ;·apply(FW);refine cX L R ?_;exact⟨by rw[sJ,if_pos aQ],rfl,rfl⟩
 have b2:h5 a=0:=by omega
 have bH:=yR b2;have wM:=gE b2;apply hN∘vC;refine cD rfl (a6v a s _ _ a3 aH) ?_;apply(nK);refine U ?_ ?_<;>intro bL;·apply(kM);refine cX L R ?_;exact⟨by rw[sJ,if_neg aQ,if_pos (by simpa[O8,b2]using bL)],rfl,rfl⟩
 have v9:l0 a s=true:=by simpa[O8,b2]using bL
 have rZ:=Ip v9;have AO:¬l0 a s=false:=by rw[v9];decide
 apply e0∘CT∘hH∘kD∘cE∘p9;apply cA (Z:=[_,_,_,_,_]) (j:=5) (a9:=29) rfl rfl aB rfl aY rfl;·intro kL;replace kL:=bB kL;exact(kD∘cE) E2
 intro XC;apply(b9);refine U ?_ ?_<;>intro cC;·apply(kM);refine cX L R ?_;exact⟨by rw[sJ,if_neg aQ,if_neg AO,if_pos D],rfl,rfl⟩
 have j1:b.bU.l.length=a.aC.places.l.length:=by omega
 have Tl:b.bW.l.length=a.aC.places.l.length:=by omega
 apply(D5);refine cD rfl (a6R b.bU _ _ WG) ?_;apply(JR);refine HC (k:=40) aY (λhD=>?_) (λhD=>?_);·
  replace hD:=bB hD;iterate 4 refine RU rfl rfl ?_
  apply a0R∘b9;refine vS rfl ?_;apply(kM);refine cX L R ?_;exact aGp
 replace hD:=bB hD;refine kB xS rfl rfl ?_;refine kB I1 rfl rfl ?_;refine It rfl (a6R b.bW _ _ WF) rfl rfl ?_;rintro v E G ⟨rfl,rfl,rfl⟩;refine kB (NQ rfl) rfl rfl ?_;apply a0R∘b9;refine U ?_ ?_<;>intro dX;·apply(kM);refine cX L R ?_;exact aGp
 have M:¬(b.bU.l.findSome? tN).isSome=true/\¬(b.bW.l.findSome? tN).isSome=true:=by simp_all
 apply e0∘z6;refine dT rfl aCU rfl ?_;rintro v E G ⟨p,KX,rfl,iF,uS,eI,rfl,rfl⟩;obtain rfl:A=KX:=wM.Bp uS;have Th:p.l.length=a.aC.places.l.length:=by rw[eI];exact a6g a.aC A
 have aAA:pP b.bU.l:=Dd (by simpa using M.1);have aAx:pP b.bW.l:=Dd (by simpa using M.2);have x8:sJ a s b A=((List.range a.aC.places.l.length).findSome? (s2 a s b A)).getD 0:=by rw[sJ,if_neg aQ,if_neg AO,if_neg D,if_neg (λh=>h.elim M.1 M.2)]
 apply(HR);refine R5 λc w cT=>⟨_,_,cT.CA Bz,?_⟩;apply(NE);refine dS [(3,.pointer _),(4,.pointer _),(5,.pointer _),(8,.int _ _),(9,.slice _ _ _),(10,.int _ _)] bV λfK=>?_;refine gY ([6,10]++cN 49 39) (λg:E5 (s2 a s b A) (a.aC.places.l.length)=>[(10,.int .i64 ((g.1:Nat):Int))]) (λg=>(a.aC.places.l.length)-g.1) ⟨0,EC _ _⟩ ?_;rintro⟨fF,zA,gM⟩ cH;try dsimp only
 apply(VT);refine U ?_ ?_<;>intro dY;·
  have zD:p.l[fF]?=some (!(A.getD fF false)||(a.aC.places.l.getD fF default).tG):=by rw[eI];exact a1z D
  have wA:=bJ (l:=b.bU.l) (k:=fF) 0 D;have aMt:=bJ (l:=b.bW.l) (k:=fF) 0 D;refine eP (a8 (bK (fR (bK (bK (c2 ?_))))));apply(h9);refine aI (jA N (p) _ rfl rfl rfl rfl bR (i:=fF) dA jC) rfl ?_;refine aI O2 rfl ?_;apply(b9);refine U ?_ ?_<;>intro h1;·
   (have AV:s2 a s b A fF=if b.bU.l.getD fF 0≠0\/b.bW.l.getD fF 0≠0 then some 12 else none:=by rw[s2,if_pos Xs]);apply tD∘gK∘a0P∘jG∘p9;apply cA (Z:=[_,_,_,_,_,_]) (j:=6) (a9:=64) rfl rfl aB rfl aY rfl;·intro kF;replace kF:=bB kF;exact(gK∘a0P∘jG) E2
   intro IJ;apply(b9);refine U ?_ ?_<;>intro h2;·apply(m3);refine eZ (a8 (iY (gB (gB (iM (gB (vW (iM (gB ?_)))))))));refine cX L R ?_;exact a4V
   refine eP (a8 (mD (mF (mB (a8 (c2 ?_))))));apply(M8);exact eO ⟨fF+1,z2 gM D (AV.trans (if_neg D))⟩
  have AV:s2 a s b A fF=if yO a s b.bW.l (fF:Int)<0\/0<yN a s b.bU.l (fF:Int)then some 12 else none:=by rw[s2,if_neg Xs]
  apply e0∘vC∘gK;refine cD rfl (aI0 a s b.bW _ _ _ a3 aH WF bH rZ Tl aAx) ?_;apply(z5);refine HC (k:=79) aY (λhM=>?_) (λhM=>?_);·replace hM:=bB hM;(iterate 7 refine RU rfl rfl ?_);apply a0R∘b9;refine vS rfl ?_;apply(vY);refine cX L R ?_;exact a4V
  replace hM:=bB hM;refine kB a39 rfl rfl ?_;refine kB X6 rfl rfl ?_;refine kB xS rfl rfl ?_;refine kB I1 rfl rfl ?_;refine kB zS rfl rfl ?_;refine It rfl (aFY a s b.bU _ _ _ a3 aH WG bH rZ j1 aAA) rfl rfl ?_;rintro v E G ⟨rfl,rfl,rfl⟩;refine kB UK rfl rfl ?_;apply a0R∘b9;refine U ?_ ?_<;>intro n8;·apply(vY);refine cX L R ?_;exact a4V
  apply(mT);exact eO ⟨fF+1,z2 gM D (AV.trans (if_neg D))⟩
 exact aTd
def a7r(h:A->B:=by exact aI Wu rfl):=h
def b0O(h:B:=by exact⟨[q3 n.lN,qA n.l3]++S,by rw[x8,wH zC D (AV.trans (if_pos D))];rfl,rfl,rfl⟩):=h
def aHa(h:A->B:=by exact bE O0 rfl rfl rfl):=h
def Dw(b:q8)(i:Nat):Option Int:=[b.bU.l.getD i 0,b.bW.l.getD i 0].findSome? tN
def a1o{a:b3}(h:h5 a=0):uI a.aC=0:=by
 unfold h5 at h;split at h;·exact Vx
 ·rename_i O;omega
def b0w{b:q8}{n:Nat}(O:b.bU.l.length=n)(X:b.bW.l.length=n)(h:(List.range n).findSome? (Dw b)=none):b.bU.l.findSome? tN=none/\b.bW.l.findSome? tN=none:=by
 rw[OU]at h;have c4:∀i:Nat,i<n->tN (b.bU.l.getD i 0)=none/\tN (b.bW.l.getD i 0)=none:=λi aE=>by have:=h i (List.mem_range.2 aE);rw[Dw,OU]at this;exact⟨this _ g2,this _ g2⟩
 constructor;·rw[OU];intro x K;obtain⟨i,aE⟩:=List.mem_iff_getElem?.1 K;have aX:=(List.getElem?_eq_some_iff.1 aE).1;rw[<-(show b.bU.l.getD i 0=x from getD_some aE)];exact(c4 i D).1
 ·rw[OU];intro x K;obtain⟨i,aE⟩:=List.mem_iff_getElem?.1 K;have aX:=(List.getElem?_eq_some_iff.1 aE).1;rw[<-(show b.bW.l.getD i 0=x from getD_some aE)];exact(c4 i D).2
def aVp{b:q8}{n k:Nat}(O:b.bU.l.length=n)(X:b.bW.l.length=n)(aG:k<n){e:Int}(h:Dw b k=some e):(b.bU.l.findSome? tN).isSome=true\/(b.bW.l.findSome? tN).isSome=true:=by
 cases eV:b.bU.l.findSome? tN with
 |some x=>exact .inl rfl
 |none=>
  cases fN:b.bW.l.findSome? tN with
  |some x=>exact .inr rfl
  |none=>
   rw[OU]at eV fN;rw[Dw]at h;have:[b.bU.l.getD k 0,b.bW.l.getD k 0].findSome? tN=none:=by
    rw[OU];intro x K;simp only[sW,vR,or_false]at K;rcases K with rfl|rfl;·exact eV _ (hV (bJ (l:=b.bU.l) (k:=k) 0 D))
    ·exact fN _ (hV (bJ (l:=b.bW.l) (k:=k) 0 D))
   rw[this]at h;cases h
def aZh(a:b3)(s:cS)(b:q8)(A:List Bool)(L:aR)(R:aO)(a3:mZ a R)(aH:pQ s R)(a5:Io b R)(gE:h5 a=0->lB a.aC A):
 aM prog 188 [a.val,s.val,b.val].toArray L R (λv E G=>∃S:aO,v=.int .i64 (sJ a s b A)/\L=E/\S++R=G):=by
 have B7:=a3.places;have WG:=a5.bU;have WF:=a5.bW;refine m1 call188 WG λb2Q=>?_;refine m1 call188 WF λb2P=>?_;refine m1 call188 B7 λa95=>?_;refine b6 124 call188 func188 rfl rfl rfl ?_;apply(dB);intro eS;apply(iV);intro eD;apply(iV);intro gQ;apply hH∘r5;refine cD rfl (Zd a _ _ a3) ?_;apply(j7);refine U ?_ ?_<;>intro aQ;·apply(FW);refine cX L R ?_;exact⟨[],by rw[sJ,if_pos aQ],rfl,rfl⟩
 have b2:h5 a=0:=by omega
 have bH:=yR b2;have wM:=gE b2;have QQ:=bH.aC.places;apply hN∘vC;refine cD rfl (a6h a s _ _ a3 aH) ?_;apply(nK);refine U ?_ ?_<;>intro bL;·apply(kM);refine cX L R ?_;exact⟨[],by rw[sJ,if_neg aQ,if_pos MH],rfl,rfl⟩
 have v9:l0 a s=true:=by simpa using bL
 have rZ:=Ip v9;have AO:¬l0 a s=false:=by rw[v9];decide
 apply hN∘kD∘CT∘p9;apply cA (Z:=[_,_,_,_,_,_,_,_]) (j:=8) (a9:=32) rfl rfl aB rfl aY rfl;·intro gH;replace gH:=bB gH;exact(kD∘CT) E2
 intro uY;apply(b9);refine U ?_ ?_<;>intro cC;·apply(kM);refine cX L R ?_;exact⟨[],by rw[sJ,if_neg aQ,if_neg AO,if_pos D],rfl,rfl⟩
 have j1:b.bU.l.length=a.aC.places.l.length:=by omega
 have Tl:b.bW.l.length=a.aC.places.l.length:=by omega
 apply(NI);refine dS [(3,.pointer _),(4,.pointer _),(5,.pointer _),(44,.int _ _),(45,.int _ _)] bV λfK=>?_;refine gY ([6,8,10]++cN 45 27) (λg:E5 (Dw b) (b.bU.l.length)=>[(45,.int .i64 ((g.1:Nat):Int))]) (λg=>(b.bU.l.length)-g.1) ⟨0,EC _ _⟩ ?_;rintro⟨fF,zA,gM⟩ cH;try dsimp only
 apply(h0);refine U ?_ ?_<;>intro dX;·
  have wA:=bJ (l:=b.bU.l) (k:=fF) 0 D;have aMt:=bJ (l:=b.bW.l) (k:=fF) 0 D;apply oJ∘x2;refine gZ N [0,1,2,3,4,5,6,7,8,9,12,10,11] ([bN.mk gQ _ _]) dO bI bA ?_;apply l1∘aHa∘k4∘l1∘aHa∘k4∘hK;refine uN Xe rfl rfl rfl ?_;rintro v E G ⟨NU,rfl,rfl,IA⟩;replace IA:=IA.symm;subst IA;apply(gJ);refine bE yG rfl rfl rfl ?_;refine g5 (a8 (fR ?_));refine FP ([6,8,10]++cN 45 27) G1 [(45,.int _ _),(58,.slice _ _ _),(59,.int _ _),(60,.int _ _)] bV λoA=>?_;refine eM (E:=(⟨.own NU 2 [],[b.bU.l.getD fF 0,b.bW.l.getD fF 0]⟩:J Int).L 3 a1++(⟨gQ,b.cells,214⟩::⟨eD,s.cells,80⟩::⟨eS,a.cells,32⟩::L)) (by simp only[J.L,g6.L,CF,List.flatMap_nil,a1,GZ,pK,nN];rfl) ?_;refine gY ([6,10]++cN 60 11) (λg:FS (tN) ([b.bU.l.getD fF 0,b.bW.l.getD fF 0])=>[(60,.int .i64 ((g.1:Nat):Int))]) (λg=>([b.bU.l.getD fF 0,b.bW.l.getD fF 0]).length-g.1) ⟨0,y0 _ _⟩ ?_;rintro⟨g9,hE,jT⟩ cH;try dsimp only
  have b9H:(⟨.own NU 2 [],[b.bU.l.getD fF 0,b.bW.l.getD fF 0]⟩:J Int).ok 1 a1:=⟨rfl,iK _,by simp only[maxLen];omega,rfl⟩;have WP:[b.bU.l.getD fF 0,b.bW.l.getD fF 0].length=2:=rfl;apply(h0);refine U ?_ ?_<;>intro dY;·
   obtain⟨y,aS⟩:=jW (l:=[b.bU.l.getD fF 0,b.bW.l.getD fF 0]) (k:=g9) D;apply(j9);refine aI (jA N ((⟨.own NU 2 [],[b.bU.l.getD fF 0,b.bW.l.getD fF 0]⟩:J Int)) _ rfl rfl rfl rfl bR (i:=g9) dA jC) rfl ?_;refine aI (tK N ((⟨.own NU 2 [],[b.bU.l.getD fF 0,b.bW.l.getD fF 0]⟩:J Int)) rfl rfl rfl cF bR bD bR aB) rfl ?_;apply rS∘z5;apply cA (Z:=[_,_]) (j:=2) (a9:=66) rfl rfl aB rfl aY rfl;·exact G3
   intro mK;apply(b9);refine U ?_ ?_<;>intro h1;·apply(m3);refine eZ (a8 (iY (iM (gB (vW (iM (iM (gB (vW (iM (gB ?_)))))))))));refine cX L R ?_;(have aAt:Dw b fF=some 1:=by rw[Dw];exact yT jT aS (if_pos D));exact⟨[],by rw[sJ,if_neg aQ,if_neg AO,if_neg D,if_pos (aVp rfl D D aAt)],rfl,rfl⟩
   apply(mU);exact eO ⟨g9+1,x5 jT aS (if_neg D)⟩
  have tV:=y1 jT D;refine mD (mF (xY (mB (hI (a8 (c2 ?_))))));apply(s6);exact eO ⟨fF+1,z2 gM D tV⟩
 have mX:=HV gM D;have TR:=b0w (b:=b) rfl D mX;have aAA:pP b.bU.l:=Dd TR.1;have aAx:pP b.bW.l:=Dd TR.2;have x8:sJ a s b A=((List.range a.aC.places.l.length).findSome? (s2 a s b A)).getD 0:=by rw[sJ,if_neg aQ,if_neg AO,if_neg D,if_neg (by rw[TR.1,TR.2];simp)]
 apply n9∘z6;refine dT rfl (a1d a.aC _ _ a3.T1 bH.aC (a1o b2)) rfl ?_;rintro v E G ⟨p,KX,S,rfl,iF,uS,eI,rfl,rfl⟩;obtain rfl:A=KX:=wM.Bp uS;have Th:p.l.length=a.aC.places.l.length:=by rw[eI,sV];exact wM.length
 have WQ:mZ a (S++R):=⟨a3.places.mono λr h=>aT (by simp[h]),a3.aJ.mono λr h=>aT (by simp[h]),a3.c3.mono λr h=>aT (by simp[h]),a3.cM.mono λr h=>aT (by simp[h])⟩;have TT:pQ s (S++R):=⟨aH.c3.mono λr h=>aT (by simp[h]),aH.cM.mono λr h=>aT (by simp[h])⟩;apply vD∘vC;refine dT rfl (a7O a s _ _ WQ TT bH rZ) rfl ?_;rintro v E G ⟨n,rfl,b1,rfl,rfl⟩;have GJ:aL (q3 n.lN) (q3 n.lN::qA n.l3::(S++R)):=aT (.head _);have WD:aL (qA n.l3) (q3 n.lN::qA n.l3::(S++R)):=aT (.tail _ (.head _));have aMF:aL (OM a.aC.places) (q3 n.lN::qA n.l3::(S++R)):=B7.mono λr h=>aT (by simp[h]);have aL7:aL (dU b.bU) (q3 n.lN::qA n.l3::(S++R)):=WG.mono λr h=>aT (by simp[h]);have aL6:aL (dU b.bW) (q3 n.lN::qA n.l3::(S++R)):=WF.mono λr h=>aT (by simp[h]);apply(dZ);intro n3;apply rT∘e7∘qP;refine dS [(5,.pointer _),(11,.slice _ _ _),(12,.pointer _),(80,.slice _ _ _),(81,.int _ _),(82,.int _ _)] bV λUD=>?_;refine gY ([6,13,14]++cN 82 42) (λg:E5 (s2 a s b A) (a.aC.places.l.length)=>[(82,.int .i64 ((g.1:Nat):Int))]) (λg=>(a.aC.places.l.length)-g.1) ⟨0,EC _ _⟩ ?_;rintro⟨fI,l5,zC⟩ cH;try dsimp only
 apply(h0);refine U ?_ ?_<;>intro h2;·
  have B6:=bJ (l:=a.aC.places.l) (k:=fI) default D;have zD:p.l[fI]?=some (!(A.getD fI false)):=by have:=wM.length;rw[eI,pA,bJ (l:=A) (k:=fI) false D];rfl
  have wA:=bJ (l:=b.bU.l) (k:=fI) 0 D;have aMt:=bJ (l:=b.bW.l) (k:=fI) 0 D;apply oJ∘a7r∘LI;intro rU;apply dM∘z8∘dE;apply cA (Z:=[_,_,_,_]) (j:=2) (a9:=89) rfl rfl aB rfl aY rfl;·intro fQ;replace fQ:=bB fQ;apply(h9);refine aI (jA N (p) _ rfl rfl rfl rfl bR (i:=fI) dA jC) rfl ?_;refine aI O2 rfl ?_;exact g4
  intro mK;apply(b9);refine U ?_ ?_<;>intro n8;·
   (have AV:s2 a s b A fI=if b.bU.l.getD fI 0≠0\/b.bW.l.getD fI 0≠0 then some 12 else none:=by rw[s2,if_pos (by simpa[or_comm]using n8)]);apply dC∘gK∘a7r∘jG∘p9;apply cA (Z:=[_,_,_,_,_,_]) (j:=6) (a9:=101) rfl rfl aB rfl aY rfl;·intro kF;replace kF:=bB kF;exact(gK∘a7r∘jG) E2
   intro IJ;apply(b9);refine U ?_ ?_<;>intro EM;·exact aC8
   apply(mU);exact eO ⟨fI+1,z2 zC D (AV.trans (if_neg D))⟩
  have AV:s2 a s b A fI=if yO a s b.bW.l (fI:Int)<0\/0<yN a s b.bU.l (fI:Int)then some 12 else none:=by rw[s2,if_neg (by simpa[and_comm]using n8)]
  apply dC∘nZ∘gK;refine cD rfl (aJq n a s b.bW _ _ _ GJ WD aL6 b1 bH Tl aAx D) ?_;apply(z5);refine HC (k:=115) aY (λkF=>?_) (λkF=>?_);·replace kF:=bB kF;(iterate 6 refine RU rfl rfl ?_);refine aI X1 rfl ?_;apply(b9);refine vS rfl ?_;exact aC8
  replace kF:=bB kF;refine kB X6 rfl rfl ?_;refine kB xS rfl rfl ?_;refine kB I1 rfl rfl ?_;refine kB zS rfl rfl ?_;refine It rfl (aGB n a s b.bU _ _ _ GJ WD aL7 b1 bH j1 aAA D) rfl rfl ?_;rintro v E G ⟨rfl,rfl,rfl⟩;refine kB UK rfl rfl ?_;refine aI X1 rfl ?_;apply(b9);refine U ?_ ?_<;>intro a9o;·exact aC8
  apply(mU);exact eO ⟨fI+1,z2 zC D (AV.trans (if_neg D))⟩
 have AU:=HV zC D;apply(D8);refine cX L (q3 n.lN::qA n.l3::(S++R)) ?_;exact⟨[q3 n.lN,qA n.l3]++S,by rw[x8,AU];rfl,rfl,rfl⟩
def kH:bC:=⟨-1125899906842624,1125899906842624⟩
def rP(a:b3)(s:cS)(b:q8)(A:List Bool)(k:Nat):bC:=
 if(a.aC.aJ.l.getD k default).eJ=true then⟨0,0⟩
 else if A.getD (a.aC.aJ.l.getD k default).cR.toNat false=true then
  ⟨rN (mN a s k) (b.bU.l.getD (a.aC.aJ.l.getD k default).cR.toNat 0-b.bW.l.getD (a.aC.aJ.l.getD k default).to.toNat 0),
   rO (mN a s k) (b.bW.l.getD (a.aC.aJ.l.getD k default).cR.toNat 0-b.bU.l.getD (a.aC.aJ.l.getD k default).to.toNat 0)⟩
 else kH
def D4(a:b3)(s:cS)(b:q8)(A:List Bool):List bC:=
 if sJ a s b A=0 then(List.range a.aC.aJ.l.length).map (rP a s b A)else[]
def aXa(L:aR)(R:aO):
 aM prog 34 [].toArray L R (λv E G=>v=kH.val/\L=E/\R=G):=by refine b6 2 call34 func34 rfl rfl rfl ?_;exact aSp
def b0y(h:A->B:=by exact hT a4k rfl):=h
def b0H(h:A->B:=by exact hT aSN rfl):=h
def aH4(h:A->B:=by exact fP X6 rfl rfl rfl rfl):=h
def aGY(h:A->B:=by exact fP aQx rfl rfl rfl rfl):=h
def aFi(h:A->B:=by exact fP aQB rfl rfl rfl rfl):=h
structure a4m(a:b3)(s:cS)(b:q8):Prop where
 b2:h5 a=0
 aF:l0 a s=true
 aX:b.bU.l.length=a.aC.places.l.length
 b4:b.bW.l.length=a.aC.places.l.length
 c9:pP b.bU.l
 wR:pP b.bW.l
def a4J{a:b3}{s:cS}{b:q8}{A:List Bool}(h:sJ a s b A=0):a4m a s b:=by
 unfold sJ at h;split at h;·exact Vx
 rename_i O;split at h;·cases h
 rename_i X;split at h;·cases h
 rename_i aU;split at h;·cases h
 rename_i cK;refine⟨by omega,by simpa using X,by omega,by omega,Dd ?_,Dd ?_⟩;·
  cases e:b.bU.l.findSome? tN with
  |none=>rfl
  |some x=>exact absurd (.inl (by rw[e];rfl)) cK
 ·
  cases e:b.bW.l.findSome? tN with
  |none=>rfl
  |some x=>exact absurd (.inr (by rw[e];rfl)) cK
def aVJ(a:b3)(s:cS)(b:q8)(A:List Bool)(L:aR)(R:aO)(a3:mZ a R)(aH:pQ s R)(a5:Io b R)(gE:h5 a=0->lB a.aC A):
 aM prog 210 [a.val,s.val,b.val].toArray L R (λv E G=>∃p:J bC,v=p.val/\p.ok 2 bC.cells/\p.l=D4 a s b A/\p.L 90 bC.cells++L=E/\R=G):=by
 have QR:=a3.aJ;have WG:=a5.bU;have WF:=a5.bW;refine b6 84 call210 func210 rfl rfl rfl ?_;apply(dB);intro eS;apply(iV);intro eD;apply(iV);intro gQ;apply v1∘vC∘nZ;refine cD rfl (aY9 a s b A _ _ a3 aH a5 gE) ?_;apply(rR);refine U ?_ ?_<;>intro aQ;·apply PP∘A3;refine bQ L R w2 ?_;exact⟨J.nil,rfl,J.iJ,by rw[D4,if_neg aQ],by rw[mE,nN],rfl⟩
 have x8:sJ a s b A=0:=by omega
 have xC:=a4J x8;have bH:=yR xC.b2;have rZ:=Ip xC.aF;have wM:=gE xC.b2;have N7:=bH.aC.aJ;have j1:=xC.aX;have Tl:=xC.b4;apply e0∘z6;refine dT rfl (aDw a.aC _ _ a3.T1 bH.aC) rfl ?_;rintro v E G ⟨p,rfl,iF,uS,rfl,rfl⟩;have aMV:p.l=A:=uS.Bp wM;have WA:=wM.length;apply(BK);refine R5 λc w cT=>⟨_,_,cT.CA Bz,?_⟩;apply eB∘v1∘nP;refine dS [(3,.pointer _),(4,.pointer _),(5,.pointer _),(7,.slice _ _ _),(8,.slice _ _ _),(9,.int _ _)] bV λfK=>?_;refine qK ([8,9,10,11]++cN 20 63) ((⟨λq=>[(9,.int .i64 ((q.1.1:Nat):Int)),(8,q.1.2.val)],λq=>q.1.2.L 90 bC.cells++(p.L 4 jJ++(⟨gQ,b.cells,214⟩::⟨eD,s.cells,80⟩::⟨eS,a.cells,32⟩::L)),λ_=>R,λq=>a.aC.aJ.l.length-q.1.1⟩:fB {q:Nat×J bC//q.1<=a.aC.aJ.l.length/\q.2.ok 2 bC.cells/\q.2.l=(List.range q.1).map (rP a s b A)})) (⟨(0,J.nil),by dsimp only;omega,J.iJ,rfl⟩) bV X2 eN ?_;rintro⟨⟨k,q⟩,rG,fO,lY⟩ cH;try dsimp only
 dsimp only at rG fO lY;apply FR∘e7∘Qw;refine U ?_ ?_<;>intro bL;·
  have M:=bJ (l:=a.aC.aJ.l) (k:=k) default D;have mJ:=bH.aC.cV _ _ M;have N8:=mJ.cR;have TQ:=mJ.to;have fT:q.l.length=k:=by rw[lY];simp
  have zD:p.l[(a.aC.aJ.l.getD k default).cR.toNat]?=some (A.getD (a.aC.aJ.l.getD k default).cR.toNat false):=by rw[aMV];exact bJ _ D
  have eI:p.l.length=a.aC.places.l.length:=by rw[aMV];exact WA
  have LP:=bJ (l:=b.bU.l) (k:=(a.aC.aJ.l.getD k default).cR.toNat) 0 D;have y7:=bJ (l:=b.bU.l) (k:=(a.aC.aJ.l.getD k default).to.toNat) 0 D;have Sn:=bJ (l:=b.bW.l) (k:=(a.aC.aJ.l.getD k default).cR.toNat) 0 D;have a8e:=bJ (l:=b.bW.l) (k:=(a.aC.aJ.l.getD k default).to.toNat) 0 D;have eV:=xC.c9.get (a.aC.aJ.l.getD k default).cR.toNat;have fN:=xC.c9.get (a.aC.aJ.l.getD k default).to.toNat;have n5:=xC.wR.get (a.aC.aJ.l.getD k default).cR.toNat;have F7:=xC.wR.get (a.aC.aJ.l.getD k default).to.toNat;apply j9∘BM;refine aI pL rfl ?_;apply(SR);intro i0;apply sI∘a22∘dZ;intro H1;apply F0∘nK;refine U ?_ ?_<;>intro cC;·
   apply(dC);refine cD rfl G5 ?_;apply sI∘yY;refine aI (jA N (p) _ rfl rfl rfl rfl bR (i:=(a.aC.aJ.l.getD k default).cR.toNat) dA jC) rfl ?_;refine aI O2 rfl ?_;apply(b9);refine U ?_ ?_<;>intro dX;·(have Mf:rP a s b A k=⟨rN (mN a s k) (b.bU.l.getD (a.aC.aJ.l.getD k default).cR.toNat 0-b.bW.l.getD (a.aC.aJ.l.getD k default).to.toNat 0),rO (mN a s k) (b.bW.l.getD (a.aC.aJ.l.getD k default).cR.toNat 0-b.bU.l.getD (a.aC.aJ.l.getD k default).to.toNat 0)⟩:=by rw[rP,if_neg MG,if_pos Cg]);refine iS N [] [0,1,2,3,4,5,6,7,8,9,10,11,12,13,14,15,17,18,19,20,21,22,23,24,25,26,27,28,29,30,31,32,16,33,34] [35] ([bN.mk H1 _ _,bN.mk i0 _ _,bN.mk gQ _ _,bN.mk eD _ _,bN.mk eS _ _]) _ dO bI bA (by(repeat(first|apply List.Sublist.cons (a:=bN.mk H1 _ _)|apply List.Sublist.cons_cons));exact rH _) ?_;apply aBZ∘aH4∘zO∘PY∘aGY∘tE∘PY∘aFi∘tE∘T9∘aBZ∘aH4∘zO∘PY∘aGY∘tE∘PY∘aFi∘tE∘T9;refine rQ rfl (aE8 a s _ _ _ _ a3 aH bH rZ D) rfl rfl ?_;rintro v E G ⟨rfl,rfl,rfl⟩;refine⟨bA,iQ,?_⟩;refine rQ rfl (aKf a s _ _ _ _ a3 aH bH rZ D) rfl rfl ?_;rintro v E G ⟨rfl,rfl,rfl⟩;refine⟨bA,iQ,?_⟩;apply Bh∘oX;refine g5 (a8 (c2 ?_));exact aCQ
   (have Mf:rP a s b A k=kH:=by rw[rP,if_neg MG,if_neg Cg]);refine eP (a8 (c2 ?_));exact aCQ
  have Mf:rP a s b A k=⟨0,0⟩:=by rw[rP,if_pos MG]
  refine eP (a8 (c2 ?_));exact aCQ
 obtain rfl:k=a.aC.aJ.l.length:=by omega
 apply(SP);refine bQ (q.L 90 bC.cells++L) R w2 ?_;exact⟨q,rfl,fO,by rw[D4,if_pos x8];exact lY,rfl,rfl⟩
end
structure Xw(a:b3)(s:cS)(b:q8)(A:List Bool):Prop where
 h7:a4m a s b
 fix:∀i:Nat,i<a.aC.places.l.length->(!(A.getD i false)||(a.aC.places.l.getD i default).tG)=true->b.bU.l.getD i 0=0/\b.bW.l.getD i 0=0
 aBz:∀i:Nat,i<a.aC.places.l.length->¬(!(A.getD i false)||(a.aC.places.l.getD i default).tG)=true->0<=yO a s b.bW.l (i:Int)/\yN a s b.bU.l (i:Int)<=0
def aKE{a:b3}{s:cS}{b:q8}{A:List Bool}(h:a4m a s b):sJ a s b A=((List.range a.aC.places.l.length).findSome? (s2 a s b A)).getD 0:=by have O:=h.aX;have X:=h.b4;rw[sJ,if_neg (by rw[h.b2];decide),if_neg (by rw[h.aF];decide),if_neg D,if_neg (by rw[a6k h.c9,a6k h.wR];simp)]
def aT5(a:b3)(s:cS)(b:q8)(A:List Bool)(i:Nat):s2 a s b A i=none\/s2 a s b A i=some 12:=by
 unfold s2;split;·
  split;·exact .inr rfl
  ·exact .inl rfl
 ·
  split;·exact .inr rfl
  ·exact .inl rfl
def aYn{a:b3}{s:cS}{b:q8}{A:List Bool}:sJ a s b A=0↔Xw a s b A:=by
 have node:∀i,s2 a s b A i=none↔((!(A.getD i false)||(a.aC.places.l.getD i default).tG)=true->b.bU.l.getD i 0=0/\b.bW.l.getD i 0=0)/\(¬(!(A.getD i false)||(a.aC.places.l.getD i default).tG)=true->0<=yO a s b.bW.l (i:Int)/\yN a s b.bU.l (i:Int)<=0):=λi=>by
  unfold s2;by_cases O:(!(A.getD i false)||(a.aC.places.l.getD i default).tG)=true;·
   rw[if_pos O];refine⟨λh=>⟨λ_=>?_,λc4=>absurd O c4⟩,λh=>if_neg (by have:=h.1 O;omega)⟩;split at h;·cases h
   ·omega
  ·
   rw[if_neg O];refine⟨λh=>⟨λc4=>absurd c4 O,λ_=>?_⟩,λh=>if_neg (by have:=h.2 O;omega)⟩;split at h;·cases h
   ·omega
 constructor;·
  intro h;have xC:=a4J h;rw[aKE xC]at h;have b1:(List.range a.aC.places.l.length).findSome? (s2 a s b A)=none:=by
   cases e:(List.range a.aC.places.l.length).findSome? (s2 a s b A)with
   |none=>rfl
   |some v=>
    obtain⟨i,_,aE⟩:=XR e;rcases aT5 a s b A i with O|O;·rw[O]at aE;cases aE
    ·rw[O]at aE;cases aE;rw[e]at h;cases h
  rw[OU]at b1;exact⟨xC,λi aE=>((node i).1 (b1 i (List.mem_range.2 aE))).1,λi aE=>((node i).1 (b1 i (List.mem_range.2 aE))).2⟩
 ·intro h;rw[aKE h.h7,List.findSome?_eq_none_iff.2 (λi aE=>(node i).2 ⟨h.fix i (List.mem_range.1 aE),h.aBz i (List.mem_range.1 aE)⟩)];rfl
end Go.Proofs.YtchfclmokpbldaaGreat
