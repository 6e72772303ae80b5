-- By an AI agent; no person has read it.
import Derived.WalkKit
import Derived.Orders
import Derived.OrdersHeld
set_option linter.all false
set_option maxHeartbeats 4000000
namespace Go.Aw
open Go
abbrev cN:Nat->Nat->List Nat
 |_,0=>[]
 |a,n+1=>a::cN (a+1) n
variable{p:Prop}
def a3b(h:p:=by
 refine U ?_ ?_<;>intro dX;·
  apply dC∘qO;apply cA (Z:=[_,_,_,_,_,_]) (j:=3) (a9:=15) rfl rfl aB rfl aY rfl;·exact aS5
  intro h8;apply(dE);apply cA (Z:=[_,_,_,_,_,_,_,_,_,_,_,_,_]) (j:=11) (a9:=23) rfl rfl aB rfl aY rfl;·
   intro C9;replace C9:=bB C9;(have b5F:0<=c.target/\c.target<s.cO.l.length:=by omega);apply fD∘sG;apply iR (Z:=[_,_,_,_,_,_,_,_]) (j:=15) (a9:=27) rfl rfl aB rfl aY rfl;·exact b7O
   intro a2G;exact g4
  intro Vg;apply(b9);refine U ?_ ?_<;>intro dY;·apply(uL);exact L9
  exact aOL
 apply(oI);refine U ?_ ?_<;>intro h1;·
  apply dC∘qO;apply cA (Z:=[_,_,_,_,_,_,_,_]) (j:=3) (a9:=43) rfl rfl aB rfl aY rfl;·exact b7Z
  intro h8;apply(b9);refine U ?_ ?_<;>intro h2;·apply(uL);exact L9
  exact aOL
 apply(uL);exact L9):=h
def aCe(h:p:=by
 refine U ?_ ?_<;>intro cC;·
  apply LB∘kD;refine cD rfl aQC ?_;apply(nK);refine U ?_ ?_<;>intro dX;·apply(uL);exact L9
  exact aCf
 apply(oI);refine U ?_ ?_<;>intro dY;·
  apply LB∘kD;refine cD rfl aQC ?_;apply(JR);apply cA (Z:=[_,_,_,_,_,_,_,_]) (j:=7) (a9:=27) rfl rfl aB rfl aY rfl;·exact b7M
  intro OD;apply(b9);refine U ?_ ?_<;>intro h1;·apply(uL);exact L9
  exact aCf
 apply(oI);refine U ?_ ?_<;>intro h2;·
  apply(LB);iterate 3 apply(e7)
  apply(SI);refine cD rfl b7Y ?_;apply(nK);refine U ?_ ?_<;>intro n8;·apply(uL);exact L9
  exact aCf
 apply(uL);exact L9):=h
def aO3(h:p:=by
 refine U ?_ ?_<;>intro h2;·
  have qU:=aLl (n:=n) b2 K bL dX (by first|exact .inl h1|exact .inr h2);apply tD∘fD∘p9;apply cA (Z:=[_,_,_,_,_]) (j:=3) (a9:=81) rfl rfl aB rfl aY rfl;·intro eR;replace eR:=bB eR;exact(Ra) g4
  intro h8;apply(b9);refine U ?_ ?_<;>intro n8;·
   apply m3∘dM;refine eZ (a8 (iY (gB (iM (gB ?_)))));refine bQ L R BB ?_;refine⟨-1,0,rfl,V0 D ?_,rfl,rfl⟩;rw[qU];cases oG l.l n (i-1)with
   |none=>rfl
   |some z=>obtain⟨a,b⟩:=z;exact if_neg D
  apply NC∘j3∘aLa;rintro v E G ⟨m,r,rfl,kX,rfl,rfl⟩;have a8q:=kX.tT;have Tv:-1<=m/\m<=i-1:=by
   cases cJ:oG l.l n (i-1)with
   |none=>rw[kX.no cJ];omega
   |some z=>obtain⟨a,b⟩:=z;have:=(kX.A9 _ _ cJ).1;have:=(YG _ _ _ _ cJ).1;omega
  refine aI iL rfl ?_;apply Y5∘SL;apply cA (Z:=[_,_,_,_,_]) (j:=2) (a9:=97) rfl rfl aB rfl aY rfl;·intro fQ;replace fQ:=bB fQ;exact(Ra) g4
  intro mK;apply(b9);refine U ?_ ?_<;>intro EM;·
   apply m3∘dM;refine eZ (a8 (iY (gB (iM (gB ?_)))));refine bQ L R BB ?_;refine⟨-1,0,rfl,V0 D ?_,rfl,rfl⟩;rw[qU];cases cJ:oG l.l n (i-1)with
   |none=>rfl
   |some z=>
    obtain⟨a,b⟩:=z;obtain⟨rfl,rfl⟩:=kX.A9 _ _ cJ;dsimp only;split;·rw[Qp D]
    ·rfl
  have cJ:oG l.l n (i-1)=some (m,r):=by
   cases cJ:oG l.l n (i-1)with
   |none=>have:=kX.no cJ;omega
   |some z=>obtain⟨a,b⟩:=z;obtain⟨rfl,rfl⟩:=kX.A9 _ _ cJ;rfl
  rw[cJ]at qU;dsimp only at qU;rw[if_pos D]at qU;apply NC∘j3;refine dT rfl (c6 (m-1) _ D D D) rfl ?_;rintro v E G ⟨f,q,rfl,Et,rfl,rfl⟩;have b2h:=Et.tT;refine aI iL rfl ?_;apply Y5∘mO;iterate 3 apply(cE)
  refine aI E1 rfl ?_;apply k3∘dM∘Dr;refine bQ L R BB ?_;refine⟨f,max q r+1,rfl,?_,rfl,rfl⟩;cases a2o:oG l.l n (m-1)with
  |none=>rw[Et.no a2o];exact V0 D (by rw[qU,a2o])
  |some z=>obtain⟨a,b⟩:=z;obtain⟨rfl,rfl⟩:=Et.A9 _ _ a2o;exact a4q (by rw[qU,a2o])
 exact b8m):=h
def a3c(h:p:=by
 apply KJ∘Qy∘aGn;refine g5 (a8 (iY (iM (gB ?_))));refine bQ L R In ?_;have qU:=aHT (n:=n) aQ K bL cC;refine⟨f,d+1,_,rfl,⟨by omega,λh=>?_,λh=>?_⟩,rfl,rfl⟩;·
  cases b with
  |false=>first|(cases h;done)|(simp at eR;done)
  |true=>rw[qU,kX.A9 rfl];dsimp only;rw[if_pos a31]
 ·
  cases b with
  |false=>rw[qU,kX.no rfl]
  |true=>first|(simp at eR;done)|(rw[qU,kX.A9 rfl];dsimp only;rw[if_neg a31])):=h
def aO4(h:p:=by
 refine dS [(2,.int _ _),(3,.int _ _),(4,.pointer _),(5,.pointer _),(8,.pointer _),(13,.pointer _),(14,.int _ _)] bV λoA=>?_;refine qK ([14,15]++cN 98 39) ((⟨λg=>[(14,.int .i64 ((g.1:Nat):Int))],λg=>⟨C2,[.int .i64 (tC a s r q g.1).bU,.int .i64 (tC a s r q g.1).bW],90⟩::⟨h6,[.int .i64 0,.int .i64 0],90⟩::⟨gQ,s.cells,80⟩::⟨eD,a.cells,32⟩::L,λ_=>R,λg=>a.c3.l.length-g.1⟩:fB {k:Nat//k<=a.c3.l.length})) (⟨0,by omega⟩) bV b7u eN ?_;rintro⟨k,aG⟩ cH;try dsimp only
 apply(q9);refine U ?_ ?_<;>intro dX;·
  have K:=bJ (l:=a.c3.l) (k:=k) default D;have aS:=bJ (l:=s.c3.l) (k:=k) 0 D;have b9F:=aIy (s:=s) bT M cJ k D;have rZ:=(bT.qR _ _ K).1;have ES:=Yg rZ (s.c3.l.getD k 0) q;apply FY∘GO∘VP∘nJ;refine U ?_ ?_<;>intro dY;·have e:tC a s r q (k+1)=_:=if_pos dY;exact b7I
  have e:tC a s r q (k+1)=_:=if_neg dY;exact(mT) aCO
 obtain rfl:k=a.c3.l.length:=by omega
 exact aRz):=h
def aO5(h:p:=by
 refine U ?_ ?_<;>intro dY;·
  apply SN∘j3∘aFz;rintro v E G ⟨m,r,b,rfl,kX,rfl,rfl⟩;have a8q:=kX.tT;have qU:=aLl (n:=n) aQ K bL cC (by first|exact .inl dX|exact .inr dY);refine aI iL rfl ?_;iterate 3 apply(IQ)
  apply dM∘Du∘dE∘JR;apply cA (Z:=[_,_,_]) (j:=2) (a9:=89) rfl rfl aB rfl aY rfl;·intro fQ;replace fQ:=bB fQ;exact(a0Z) g4
  intro mK;apply(dE);apply cA (Z:=[_,_,_,_,_]) (j:=7) (a9:=94) rfl rfl aB rfl aY rfl;·intro hM;replace hM:=bB hM;exact(Ra) g4
  intro OD;apply(dE);apply cA (Z:=[_,_,_,_,_]) (j:=14) (a9:=101) rfl rfl aB rfl aY rfl;·exact b7V
  intro Q4;apply(b9);refine U ?_ ?_<;>intro h1;·
   apply m3∘D6;refine eZ (a8 (iY (gB (iM (gB ?_)))));refine bQ L R In ?_;refine⟨0,0,false,rfl,⟨by omega,(λh=>by cases h),λ_=>?_⟩,rfl,rfl⟩;cases b with
   |false=>rw[qU,kX.no rfl]
   |true=>rw[qU,kX.A9 rfl];dsimp only;rw[if_neg (by simp at h1;omega)]
  exact b7E
 exact b7N):=h
def aCf(h:p:=by
 refine eP (hI (a8 (bK (bK (c2 ?_)))));apply(qO);apply cA (Z:=[_,_,_]) (j:=3) (a9:=51) rfl rfl aB rfl aY rfl;·exact DR
 intro h8;apply(b9);refine U ?_ ?_<;>intro EM;·apply(kM);exact L9
 apply(a6z);refine U ?_ ?_<;>intro a9o;·apply a6A∘aZX;refine cD rfl b7W ?_;apply(w7);exact L9
 apply(PN);exact L9):=h
def aO6(h:p:=by
 iterate 3 apply(e7)
 apply kP∘j3∘NB∘fD;iterate 3 apply(e7)
 apply kP∘j3∘vZ∘rF∘qP;refine dS [(1,.int _ _),(4,.pointer _),(6,.pointer _),(60,.slice _ _ _),(61,.int _ _),(62,.int _ _)] bV λfK=>?_;refine qK ([8,9]++cN 62 23) ((⟨λg=>[(62,.int .i64 ((g.1:Nat):Int))],λg=>⟨i1,[.int .i64 (FI p q g.1).bU,.int .i64 (FI p q g.1).bW],90⟩::⟨eD,[.int .i64 0,.int .i64 0],90⟩::⟨eH,p.cells,225⟩::L,λ_=>R,λg=>p.c3.l.length-g.1⟩:fB {k:Nat//k<=p.c3.l.length})) (⟨0,by omega⟩) bV b8k eN ?_;rintro⟨k,aG⟩ cH;try dsimp only
 apply(h0);refine U ?_ ?_<;>intro bL;·exact b7F
 obtain rfl:k=p.c3.l.length:=by omega
 exact aRz):=h
def aO7(h:p:=by
 refine⟨by rw[c5.size];simp,λk d=> ?_,λx K=>c5.op x (B5 x K),λx K=> ?_, ?_, ?_⟩;·
  rw[c5.dJ k d];by_cases aG:i=k;·subst aG;rw[VA TI];simp only[true_or,iff_true];exact .inr ⟨e,W,Fv⟩
  ·
   rw[getD_set_ne d aG];refine or_congr Iff.rfl ⟨λ⟨x,K,Uz⟩=>?_,λ⟨x,K,Uz⟩=>⟨x,B5 x K,Uz⟩⟩;rcases List.mem_append.1 K with h|h;·exact⟨x,r7 _ h,Uz⟩
   ·
    rcases List.mem_cons.1 h with rfl|h;·exact absurd (Fv.symm.trans Uz) aG
    ·exact⟨x,lZ _ h,Uz⟩
 ·rw[getD_set_ne true (XW (a98 x K))];exact c5.uR x (B5 x K)
 ·exact c5.nM.sublist (aQk _ (a3t hA (a3n _ _)))
 ·exact c5.Vk.sublist (aQk _ (a3t hA (a3n _ _)))):=h
def aO8(h:p:=by
 refine aI X1 rfl ?_;apply aLg∘aXo;rintro v E G ⟨rfl,rfl⟩;apply(VO);have key:∀x:Bool,x=(!(A.getD k false)||(m.places.l.getD k default).tG)->∀i:Nat,(l.set k x)[i]?=if i<k+1 then(UV m A)[i]? else A[i]?:=λx K i=>by
  rw[IW];split;·rename_i e;subst e;rw[if_pos D,if_pos D,TH,K]
  ·
   rename_i e;rw[jU i];by_cases h:i<k;·rw[if_pos h,if_pos D]
   ·rw[if_neg h,if_neg D]
 first
  |(have K:true=(!(A.getD k false)||(m.places.l.getD k default).tG):=by rw[hM];rfl);exact b76
  |(have K:(m.places.l.getD k default).tG=(!(A.getD k false)||(m.places.l.getD k default).tG):=by rw[hM];rfl);exact b7z):=h
def aO9(h:p:=by
 refine⟨by simp[c5.size],λk aLy=> ?_,λe W=> ?_,λe W=> ?_, ?_, ?_⟩;·
  by_cases aG:j=k;·subst aG;rw[VA a9O];simp
  ·rw[getD_set_ne aLy aG,c5.dJ k aLy];simp[aG]
 ·
  rcases List.mem_cons.1 W with rfl|W;·exact⟨lL,J8,dW,bM,b7⟩
  ·exact c5.op e W
 ·
  rcases List.mem_cons.1 W with rfl|W;·exact a2f
  ·exact c5.uR e W
 ·simp only[wZ,UF];exact⟨λa3=>by obtain⟨e,W,aE⟩:=List.mem_map.1 a3;exact a9N e W aE,c5.nM⟩
 ·simp only[wZ,UF];refine⟨λa3=>?_,c5.Vk⟩;obtain⟨e,W,aE⟩:=List.mem_map.1 a3;obtain⟨Bb,O,X,aU,cK⟩:=c5.op e W;exact aMh e.i Bb O (a9N e W) (by rw[aU,aE])):=h
def aPa(h:p:=by
 refine mC [8,11,13] lE fM bI ?_;refine pB ?_ ?_;·
  skip
  apply(YW);rintro v E G ⟨QB,rfl,rfl,rX⟩;replace rX:=rX.symm;subst rX;exact aPD
 refine pB ?_ ?_;·
  skip
  apply(NK);rintro v E G ⟨xB,rfl,rfl,k8⟩;replace k8:=k8.symm;subst k8;apply(gJ);exact aCh
 apply(mR);refine qJ rfl OY rfl rfl ?_;rintro v E G ⟨gQ,rfl,rfl,kO⟩;replace kO:=kO.symm;subst kO;apply(gJ);exact aCi):=h
def aPb(h:p:=by
 refine mC [3,8,13] lE fM bI ?_;refine pB ?_ ?_;·
  skip
  apply(NJ);rintro v E G ⟨y4,rfl,rfl,l4⟩;replace l4:=l4.symm;subst l4;apply(gJ);exact aCh
 refine pB ?_ ?_;·
  skip
  apply(YW);rintro v E G ⟨QB,rfl,rfl,rX⟩;replace rX:=rX.symm;subst rX;exact aPE
 apply(mR);refine qJ rfl OY rfl rfl ?_;rintro v E G ⟨gQ,rfl,rfl,kO⟩;replace kO:=kO.symm;subst kO;apply(gJ);exact aCj):=h
def aPc(h:p:=by
 refine mC [3,8,11] lE fM bI ?_;refine pB ?_ ?_;·
  skip
  apply(NJ);rintro v E G ⟨y4,rfl,rfl,l4⟩;replace l4:=l4.symm;subst l4;apply(gJ);exact aCi
 refine pB ?_ ?_;·
  skip
  apply(YW);rintro v E G ⟨QB,rfl,rfl,rX⟩;replace rX:=rX.symm;subst rX;exact aPF
 apply mR∘NK;rintro v E G ⟨xB,rfl,rfl,k8⟩;replace k8:=k8.symm;subst k8;apply(gJ);exact aCj):=h
def aPd(h:p:=by
 first
  |exact eO ⟨(k+1,P,Z),by dsimp only;omega,kX.EX dY,n7.EX dY⟩
  |have rD:oF a s (k:Int) a.cM.l.length=⟨(a.aC.aJ.l.getD k default).aD.bU+y.bU,(a.aC.aJ.l.getD k default).aD.bW+y.bW⟩:=by
    cases cG:oF a s (k:Int) a.cM.l.length with
    |mk b5 aE=>rw[cG]at a2A OB;dsimp only at a2A OB;rw[a2A,OB]
   (have Lq:¬(a.aC.aJ.l.getD k default).eJ=true:=by simpa using dY);exact eO ⟨(k+1,_,_),by dsimp only;omega,kX.next Lq ⟨by rw[xP,rD],rfl,b3x.2⟩ (eL aLC (hV TH)) b4v,n7.next Lq D D jF aP cJ D b4s b4t⟩):=h
def aPe(h:p:=by
 apply(Kg);exact hP ⟨(z-1,(⟨aNR,zG.l++[z]⟩,op),e3),by dsimp only;omega,by
 dsimp only;have a2i:¬(0<=x.bG/\((Y.set z.toNat ⟨x.bG,x.cZ,x.c1,x.eJ,true⟩).getD x.bG.toNat default).eJ=true):=by rintro⟨O,X⟩;first|omega|exact dY X|(rw[X]at dY;cases dY)
 have fN:e3=(Y.set z.toNat ⟨x.bG,x.cZ,x.c1,x.eJ,true⟩):=by
  rcases DM (0<=x.bG)with O|O;·rw[tA,if_pos O,p7,if_neg (λX=>a2i ⟨O,X⟩)]
  ·rw[tA,if_neg O]
 rw[oM,if_neg a2i,fN,RF D],aMS,pH⟩ gW bV bA eN hO):=h
def aPf(h:p:=by
 refine mC [5] TB fM bI ?_;apply mR∘aVN;rintro v E G ⟨IL,rfl,a2k,rfl,rfl⟩;apply(gJ);refine Je TB fM bI rfl ?_;apply aBU∘PQ;refine g5 ?_;first
  |exact Ct ⟨(Hh,IL),Ub,a2k⟩ gW bV (Ca _) hA eN
  |exact Ct ⟨(Hh,IL),Ub,a2k⟩ gW bV (a3E _ _ _) hA eN):=h
def aPg(h:p:=by
 intro done aP;simp only[K8,nH]at aP;obtain⟨b1,bM⟩:=c6 _ aP.2;have M:i∈Region.ready .any ops.toArray done:=by simpa using aP.1.1
 obtain⟨b2,_⟩:=mem_ready.1 M;refine⟨List.nodup_cons.2 ⟨λa3=>?_,b1⟩,λk aG=>?_⟩;·
  have:=bM i a3;rcases hF i done.size with c4|c4;·rw[VA c4]at this;cases this
  ·simp[IV c4]at b2
 ·
  rcases List.mem_cons.1 aG with rfl|aG;·exact b2
  ·
   by_cases To:i=k;·subst To;exact b2
   ·have:=bM k aG;rwa[getD_set_ne true To]at this):=h
def aPh(h:p:=by
 refine⟨?_,?_,?_⟩;·
  obtain⟨I4,b16,b7⟩:=X.Z;refine⟨I4,b16,λb a5=>?_⟩;rcases b7 b a5 with h|h|⟨e,W,WE⟩;·exact .inl h
  ·exact .inr (.inl h)
  ·exact .inr (.inr ⟨e,aP.mem_iff.2 W,WE⟩)
 ·
  intro e W;rcases X.own e W with⟨uQ,uU,WE⟩|h;·exact .inl ⟨uQ,aP.mem_iff.2 uU,WE⟩
  ·exact .inr h
 ·have k:=X.GM;refine⟨k.os,k.tape,k.output,k.size,λb a5 b1=>k.block b a5 λ⟨e,W,WE⟩=>b1 ⟨e,aP.mem_iff.2 W,WE⟩,k.JY⟩):=h
def aPi(h:p:=by
 apply(j7);refine U ?_ ?_<;>intro aQ;·apply(FW);refine cX L R ?_;exact⟨by rw[sT,if_pos aQ],rfl,rfl⟩
 apply VR∘kD∘p9;apply cA (Z:=[_,_,_,_,_,_,_,_]) (j:=6) (a9:=21) rfl rfl aB rfl aY rfl;·intro kF;replace kF:=bB kF;exact aCX
 intro IJ;apply(b9);refine U ?_ ?_<;>intro bL;·exact b7A
 apply(LC);apply cA (Z:=[_,_]) (j:=2) (a9:=33) rfl rfl aB rfl aY rfl;·exact G3
 intro mK;apply(b9);refine U ?_ ?_<;>intro cC;·exact b7X
 exact b70):=h
def aPj(h:p:=by
 apply(Kg);exact hP ⟨(z-1,(⟨aNS,zG.l++[z]⟩,op),(Y.set z.toNat ⟨x.bG,x.cZ,x.c1,x.eJ,true⟩)),by dsimp only;omega,by
 dsimp only;have a2i:¬(0<=x.bG/\((Y.set z.toNat ⟨x.bG,x.cZ,x.c1,x.eJ,true⟩).getD x.bG.toNat default).eJ=true):=by rintro⟨O,X⟩;first|omega|(rw[<-aS]at X;exact dY X)|(rw[<-aS,dY]at X;cases X)
 rw[oM,if_neg a2i,RF D],aMT,pH⟩ gW bV bA eN hO):=h
def aPk(h:p:=by
 apply(mT);have GA:r.eJ=false->l.getD r.cR.toNat false=l.getD r.to.toNat false:=by
  intro Lq;first
   |(simpa using cC)
   |(simp[Lq]at fQ)
 exact hP ⟨(i+1,Le,l),by dsimp only;omega,fO,lY,KM,λh=>⟨(CE h).1,λj A6 a6 LX aMw=>by
  rcases hF j i with O|O;·exact(CE h).2 j A6 O LX aMw
  ·(obtain rfl:j=i:=by omega);rw[Ul]at LX;cases LX;rw[<-(CE h).1];exact GA aMw⟩⟩ gW bV bA eN hO):=h
def aPl(h:p:=by
 refine U ?_ ?_<;>intro dX;·apply Zu∘hK∘KI∘T7∘hK∘MR∘g7∘a0s∘k4∘MR∘g7∘a0f∘k4∘vQ;refine lW rfl aS8 ?_;exact aP3
 exact aPU):=h
def aPm(h:p:=by
 refine U ?_ ?_<;>intro dX;·apply Zu∘hK∘KI∘T7∘hK∘MR∘g7∘a0s∘k4∘MR∘g7∘a0f∘k4∘vQ;refine lW rfl aS3 ?_;exact aP3
 exact aPU):=h
def a3d(h:p:=by
 exact hP (⟨k+1,by omega,λj a6=>by
 rcases hF j k with h|h;·exact hC j h
 ·
  obtain rfl:j=k:=by omega
  omega⟩) gW bV bA eN hO):=h
def aPn(h:p:=by
 refine aI iL rfl ?_;apply CO∘Du∘SK;refine U ?_ ?_<;>intro h1;·exact b72
 obtain⟨u,Mk⟩:=Option.isSome_iff_exists.1 h1;have cY:BD a s up m i=some u:=by rw[KA];exact Mk
 have gA:=fW.aLE (k:=i) D u;apply(wW);rw[Mk];apply eB∘dE∘dE;apply cA (Z:=[_,_,_,_,_,_]) (j:=1) (a9:=64) rfl rfl aB rfl aY rfl;·intro jL;replace jL:=bB jL;exact(cE∘h9∘aFE∘aWf) E2
 exact b75):=h
def aOK(h:p:=by
 intro eR;replace eR:=bB eR;apply Y7∘dE;apply iR (Z:=[_,_,_,_,_]) (j:=7) (a9:=12) rfl rfl aB rfl aY rfl;·intro hM;replace hM:=bB hM;exact(fD∘pR) DU
 intro OD;apply(dE);apply iR (Z:=[_,_,_,_,_,_]) (j:=14) (a9:=19) rfl rfl aB rfl aY rfl;·exact b7x
 intro Q4;apply(dE);apply iR (Z:=[_,_,_,_,_,_,_]) (j:=22) (a9:=27) rfl rfl aB rfl aY rfl;·exact b7y
 intro bAp;exact g4):=h
def Vw(h:p:=by
 (have y9:BI s m t:= .inr (.inr (.inr (.inr D)))
  exact⟨by rw[v6,if_pos y9];try rfl,rfl,rfl⟩)):=h
def aOL(h:p:=by
 refine eP (hI (a8 (bK (bK (c2 ?_)))));apply(qO);apply cA (Z:=[_,_,_]) (j:=3) (a9:=56) rfl rfl aB rfl aY rfl;·exact DR
 intro h8;apply(b9);refine U ?_ ?_<;>intro n8;·apply(kM);exact L9
 apply(a6z);refine U ?_ ?_<;>intro EM;·apply a6A∘aXF;refine cD rfl b77 ?_;apply(w7);exact L9
 apply(PN);exact L9):=h
def aOM(h:p:=by
 apply(gJ);refine mC [10] LQ fM bI ?_;apply mR∘aXW;rintro v E G ⟨aNK,rfl,aMO,rfl,rfl⟩;apply(gJ);refine Je LQ fM bI rfl ?_;apply(aFQ);refine g5 ?_;first
  |exact Ct ⟨⟨aNK,_⟩,aMO,rfl⟩ gW bV (Ca _) (.cons _ (.refl _)) eN
  |exact Ct ⟨⟨aNK,_⟩,aMO,rfl⟩ gW bV (Ca _) ((rH _).append (.cons _ (.refl _))) eN):=h
def aON(h:p:=by
 have b7:=bJ (l:=S.l) (k:=z.toNat) default D;refine eP (a8 (bK (fR (bK ?_))));refine gZ N [0,1,2,3,4,5,6,7] _ dO bI hA ?_;refine bE oS rfl rfl rfl ?_;apply hK∘aXl∘z7∘g7;refine bE BA rfl rfl rfl ?_;apply(wV);refine U ?_ ?_<;>intro cC;·exact b7T
 apply(Kg);exact eO ⟨(z-1,a),by dsimp only;omega,bT.b6o D cC⟩):=h
def aOO(h:p:=by
 apply(gJ);refine mC [3,5] lE fM bI ?_;refine pB ?_ ?_;·
  skip
  apply(NJ);rintro v E G ⟨y4,rfl,rfl,l4⟩;replace l4:=l4.symm;subst l4;exact aDj
 apply mR∘YI;rintro v E G ⟨A6,fI,rfl,y7,S5,l5,EO,rfl,rfl⟩;refine⟨bA,iQ,?_⟩;apply YE∘YF;exact aCj):=h
def aOP(h:p:=by
 apply(dE);apply cA (Z:=[_,_,_]) (j:=15) (a9:=18) rfl rfl aB rfl aY rfl;·intro vM;replace vM:=bB vM;exact O1
 intro a2G;apply(dE);apply cA (Z:=[_,_,_]) (j:=20) (a9:=23) rfl rfl aB rfl aY rfl;·intro J4;replace J4:=bB J4;exact a3Y
 intro Vh;apply(b9);refine U ?_ ?_<;>intro aQ;·exact b7P
 exact b7Q):=h
def aOQ(h:p:=by
 apply(dB);intro eS;apply nG∘FX∘fD∘XK∘dE;apply iR (Z:=[_,_,_,_,_]) (j:=4) (a9:=11) rfl rfl aB rfl aY rfl;·intro hD;replace hD:=bB hD;exact(j0) RI
 intro wP;apply(dE);apply iR (Z:=[_,_,_,_]) (j:=11) (a9:=18) rfl rfl aB rfl aY rfl;·intro C9;replace C9:=bB C9;exact(gK) RI
 exact b8d):=h
def aOR(h:p:=by
 apply(p9);apply cA (Z:=[_,_,_]) (j:=3) (a9:=8) rfl rfl aB rfl aY rfl;·exact Nz
 intro h8;apply(b9);refine U ?_ ?_<;>intro aQ;·apply(kM);refine cX L R ?_;exact⟨by rw[Ef,if_pos D],rfl,rfl⟩
 have aX:F2 l:=by
  have h:JE l=0:=by omega
  rw[JE]at h;exact a3i
 exact b8l):=h
def aCb(h:p:=by
 exact hP (⟨k+1,by omega,λj a6=>by
 rcases hF j k with h|h;·exact hC j h
 ·
  obtain rfl:j=k:=by omega
  rw[AC];omega⟩) gW bV bA eN hO):=h
def aOS(h:p:=by
 have:=Rq (i::gO.map (·.i)) (i::aD) (List.nodup_cons.2 ⟨λa3=>by obtain⟨e,W,aE⟩:=List.mem_map.1 a3;exact a2e e W aE,c5.nM⟩) (λx K=>by
  rcases List.mem_cons.1 K with rfl|K;·simp
  ·obtain⟨e,W,rfl⟩:=List.mem_map.1 K;exact QE e W)
 simpa using this):=h
def aOT(h:p:=by
 obtain rfl:gO=[]:=by cases gO with|nil=>rfl|cons e gO=>exact absurd (QE e g2) g2
 obtain rfl:os=[]:=by cases os with|nil=>rfl|cons x l=>simp at uW
 exact aJZ II hC b4R eI c5 nX (by simpa using GF) (by simpa using C7) kE cT (BX.trans pV) (by rw[fE]at x9;exact x9)):=h
def Nd(h:p:=by
 apply(wV);refine U ?_ ?_<;>intro cC;·exact b74
 exact aTg):=h
def aCc(h:p:=by
 exact hP ⟨k+1,by omega,λj a6=>by
 rcases hF j k with h|h;·exact hC j h
 ·
  obtain rfl:j=k:=by omega
  omega⟩ gW bV bA eN hO):=h
def aOU(h:p:=by
 apply m3∘nG;refine eZ (a8 (iY (a5S ?_)));refine bQ (MT _) R RG ?_;refine⟨0,false,_,rfl,⟨(λh=>by cases h),λ_=>⟨rfl,λj O X=>?_⟩⟩,rfl,rfl⟩;by_cases a6:j=0;·rw[a6,a8h];exact aQ
 ·
  first
   |(exfalso;omega)
   |exact a3.no O X (pJ _) Ig):=h
def aOV(h:p:=by
 apply(gJ);refine mC [5,13] lE fM bI ?_;refine pB ?_ ?_;·
  skip
  apply(YI);rintro v E G ⟨A6,fI,rfl,y7,S5,l5,EO,rfl,rfl⟩;refine⟨bA,iQ,?_⟩;apply YE∘YF;exact aCh
 exact b8v):=h
def aOW(h:p:=by
 apply(gJ);refine mC [5,11] lE fM bI ?_;refine pB ?_ ?_;·
  skip
  apply(YI);rintro v E G ⟨A6,fI,rfl,y7,S5,l5,EO,rfl,rfl⟩;refine⟨bA,iQ,?_⟩;apply YE∘YF;exact aCi
 exact b7r):=h
def aOX(h:p:=by
 intro x K Uy;have b1:=c5.nM;rw[u1,wZ,Nl,UF]at b1;rcases List.mem_append.1 K with h|h;·exact b1.2.2 x.i (List.mem_map.2 ⟨x,h,rfl⟩) e.i g2 (by rw[Uy,Fv])
 ·exact b1.2.1.1 (List.mem_map.2 ⟨x,h,by rw[Uy,Fv]⟩)):=h
def aOY(h:p:=by
 have bM:P5 (f.aZ.l.getD (q.l.getD k 0).toNat default)=true:=by
  rw[P5,Nq];first
   |exact .inr (decide_eq_true bL)
   |exact .inl (by simpa using mW)
 exact⟨by rw[<-fT,List.any_eq_true.2 ⟨_,hV AW,bM⟩],rfl,rfl⟩):=h
def aOZ(h:p:=by
 apply dC∘a6l∘p8;refine bQ L R rJ ?_;have c5:yP l w t=10:=by rw[yP,if_neg (λh=>h aX),if_neg fH,if_pos];rw[I6];cases dG:w.over<;>simp[dG]at cC|- <;>omega
 exact⟨by rw[c5,a43 c5 aW];rfl,rfl,rfl⟩):=h
def aCd(h:p:=by
 refine⟨by simp,λr p aP=>?_⟩;rw[UE]at aP;split at aP;·cases aP;exact⟨J.iJ,rfl⟩
 ·cases aP):=h
def aO0(h:p:=by
 apply(CQ);refine bQ L R (sD rfl Xb) ?_;exact⟨by
 rw[nQ,if_neg];rw[Ku];rintro(h|⟨O,X,aU⟩);·exact aQ.1 h
 ·
  rcases aQ.2 with(h|h)|h;·omega
  ·rw[h]at X;cases X
  ·exact h aU,rfl,rfl⟩):=h
def Nf(h:p:=by exact⟨by rw[v6,if_pos y9];try rfl,rfl,rfl⟩):=h
def L9(h:p:=by refine cX L R ?_;exact b7o):=h
def aO1(h:p:=by
 intro aG;have:=Rq (gO.map (·.i)) aD c5.nM (λx K=>by
  obtain⟨e,W,rfl⟩:=List.mem_map.1 K;rcases List.mem_cons.1 (QE e W)with h|h;·exact absurd h (OH aG e W)
  ·exact h)
 simpa using this):=h
def aO2(h:p:=by apply(SJ);refine lG L R ?_;refine⟨by rw[decide_eq_true (p:=JD f.aZ.l t)];refine⟨by omega,λx K=>?_⟩;obtain⟨j,a6,rfl⟩:=Hy K;have:=hC j D;rwa[m8,DN a6]at this,rfl,rfl⟩):=h
def aOB(h:p:=by
 by_cases EP:vE ops j=1;·exact EP
 ·have:=a64 (p:=λk=> !Nat.beq k i) c5 (λe W=>by simp[SY (a2e e W)]) nX a6 EP;exact absurd (aCC (List.all_eq_true.1 N6 j this)) EP):=h
def aOC(h:p:=by
 obtain rfl:gO=[]:=by cases gO with|nil=>rfl|cons e gO=>exact absurd (QE e g2) g2
 obtain rfl:os=[]:=by cases os with|nil=>rfl|cons x l=>simp at uW
 exact aZB eI c5 x9 kE cT hY):=h
def aOD(h:p:=by
 refine iB _ _ _ w' ⟨.own g cap spare,?_,?_,?_,rfl⟩ qF;·rw[J.val];dsimp only;rw[aX];rfl
 ·rw[J.ok];dsimp only;rw[aX];exact GI
 ·rw[kN,J.L];dsimp only;rw[<-e]):=h
def aCa(h:p:=by
 rw[m8,IW,m8];split;·rename_i h;subst h;simp[aG]
 ·rename_i h;rw[if_neg (λe=>h e.symm)]):=h
def aOE(h:p:=by
 have aX:=h.len;refine⟨by simp[aX],λj a6=>?_,λj O X=>?_⟩;·
  rw[IW];split;·rename_i e;rw[if_pos D,K,e]
  ·exact h.NV j D
 ·rw[KN D];exact h.T4 j D X):=h
def aOF(h:p:=by
 apply gJ∘aXT∘aVQ;refine Je WC fM bI rfl ?_;refine g5 ?_;first
  |exact Ct ⟨(NU,aBF),Ma⟩ gW bV (Ca _) aQU eN
  |exact Ct ⟨(NU,aBF),Ma⟩ gW bV a3A aQU eN):=h
def aOG(h:p:=by rw[WZ];obtain⟨⟨Z,b4,b7⟩,dG,aG⟩:=aH;refine(h.2 w Z b4).mono ?_;rintro e w' ⟨v,E,G,rfl,aP,cT⟩;exact k v E G w' aP (dQ.trans ⟨⟨Z,b4,b7⟩,dG,aG⟩ b7 cT)):=h
def aOH(h:p:=by apply mR∘a03;rintro v E G ⟨rfl,rfl,rfl⟩;apply(gJ);refine mC [2] TB fM bI ?_;apply mR∘aI5;rintro v E G ⟨Hh,rfl,Ub,rfl,rfl⟩;apply gJ∘aKs;exact aPf):=h
def aOI(h:p:=by subst N5;refine aS.wpOp aE B1 ⟨⟨tA,eL.imp (λh=>?_) id⟩,H⟩;obtain⟨k,aG,aX⟩:=List.any_eq_true.1 h;exact List.any_eq_true.2 ⟨k,aG,getD_set_true aX⟩):=h
def aOJ(h:p:=by
 refine⟨h.len,λj a6=>?_,λj O X=>h.T4 j D X⟩;rcases hF j i with O|O;·exact h.NV j O
 ·
  obtain rfl:j=i:=by omega
  rw[h.T4 j (iK _) aE,K]):=h
def aPR(h:p:=by
 apply aOm∘cE∘PX;refine U ?_ ?_<;>intro bL;·have e:=cK.trans (aKz aQ bL);exact(tR) a4j
 have e:=cK.trans (aKT aQ bL);exact(tR∘j3) a4j):=h
def aPS(h:p:=by
 apply aOm∘cE∘D7;refine U ?_ ?_<;>intro bL;·have e:=cK.trans (aK3 aQ bL);exact(tR) a4j
 have e:=cK.trans (aEc aQ bL);exact(eB∘M7) a4j):=h
def aPT(h:p:=by
 exact hP (⟨j+1,by omega,λm a3=>by
 rcases hF m j with h|h;·exact hC m h
 ·
  obtain rfl:m=j:=by omega
  exact h2⟩) gW bV bA eN hO):=h
def aPU(h:p:=by apply(mT);first|(rw[if_neg dX,aQn]at cT;exact hP ⟨k+1,by omega⟩ gW a3V bA eN hO)|exact hP ⟨k+1,by omega⟩ gW a3V bA eN hO):=h
def aPV(h:p:=by have:=kE.put (d:=lL.dst) (by rw[bM];simpa[S2]using LS) (.pointer (some ⟨w.heap.size,0,none⟩));rw[bM]at this|-;exact this):=h
def aPW(h:p:=by
 intro k aG d;rcases hF k done.size with c4|c4;·exact .inl ((c5.dJ k d).2 (.inl (by simp[c4]at aG|-;exact aG)))
 ·exact .inr c4):=h
def aCh(h:p:=by
 refine mC [8,13] lE fM bI ?_;refine pB ?_ ?_;·
  skip
  exact b8c
 exact b78):=h
def aCi(h:p:=by
 refine mC [8,11] lE fM bI ?_;refine pB ?_ ?_;·
  skip
  exact b8e
 exact b79):=h
def aPX(h:p:=by first|exact eO ⟨(k+1,_),by dsimp only;omega,kN.next cC D aP aAk⟩|exact eO ⟨(k+1,F),by dsimp only;omega,kN.EX MG⟩):=h
def aCj(h:p:=by
 refine mC [3,8] lE fM bI ?_;refine pB ?_ ?_;·
  skip
  exact b8a
 exact b8b):=h
def aPY(h:p:=by refine aHn (w':=w.setRow b _) ?_ (iB undef E R _ ⟨rfl,rfl⟩ (aH.setRow dL));simp[execOp,K,aS,Instr.storeAt,Instr.sureAddr,this]):=h
def aCk(h:p:=by refine wU ⟨_,?_⟩;rw[PM];(repeat' split)<;>first|rfl|omega):=h
def aPZ(h:p:=by refine cT.CA ?_;simp only[VB,u1,wZ,oB,pK];refine aCE _ ?_;exact(a3A (l₁:=G7.map λe=>(⟨e.b,UI N e.T,e.T⟩:bN))).symm):=h
def aP0(h:p:=by have:=Rj (Y:=f.aZ.l) (cI:=f.a2.l) (bX:=f.cB) (s:=f.a2.l.getD z.toNat 0) (x:=y) (by rw[<-fT];exact aS);omega):=h
def aP1(h:p:=by refine wU ⟨_,?_⟩;rw[PM];(repeat' split)<;>first|rfl|omega|(rw[aML,if_pos D];done)|(rw[aML,if_neg D];done)):=h
def Bo(h:p:=by refine cX L R ?_;exact b7p):=h
def aP2(h:p:=by intro aG e W aE;obtain⟨Bb,O,X,_,_⟩:=c5.op e W;rw[aE]at O;obtain rfl:Bb=o':=yF (O.symm.trans o3);exact aG (aGR X)):=h
def aP3(h:p:=by apply vQ∘qV∘JN;first|(exfalso;omega)|(rw[if_pos dX,<-a3r]at cT;exact hP ⟨k+1,by omega⟩ gW a3V bA eN hO)):=h
def aP4(h:p:=by have:=aDK (s:=a0.aK) (v:=nR a0 ({p with time:=t}:bZ)) (c:=p.aV) p.aV.length;rw[sO,x6,if_neg aCT];omega):=h
def Vy(h:p:=by
 split at this;·cases this
 ·omega):=h
def aP5(h:p:=by
 rcases(c5.dJ i true).1 aX with h|⟨e,W,aE⟩;·rw[h]at Tn;cases Tn
 ·exact absurd aE (OH aG e W)):=h
def aP6(h:p:=by apply(FV);refine lG L R ?_;exact⟨by rw[decide_eq_false (λh=>by have:=h.2 _ (hV b7);omega)],rfl,rfl⟩):=h
def aP7(h:p:=by
 rcases(c5.dJ i true).1 aX with h|⟨e,W,aE⟩;·rw[h]at Tn;cases Tn
 ·exact absurd aE (a2e e W)):=h
def aP8(h:p:=by
 intro w' W4;rw[aMB];split at W4;·rename_i h;rw[if_pos h];exact W4
 ·rename_i h;rw[if_neg h];exact W4):=h
def aP9(h:p:=by
 rcases List.mem_append.1 aS with aS|aS;·exact aMs.1 y (by rw[<-Z9];exact aS)
 ·exact a14 y aS):=h
def aQa(h:p:=by
 intro x K;rcases List.mem_cons.1 (QE x (B5 x K))with h|h;·exact absurd h (a98 x K)
 ·exact h):=h
def aPx(h:p:=by obtain⟨r4,b6L,b6M,op,b6H,b6I⟩:=lL;simp only at dW;subst dW;simp[execOp,Instr.alloc,xI,newVar,newRow]):=h
def aPy(h:p:=by rw[kE.eval];exact aVr (ops:=ops) (λcs b=>a3x II i o' cs b o3) (λe W=>(apart aG e W).1)):=h
def a3f(h:p:=by apply(uK);refine lG L R ?_;exact b7n):=h
def aPz(h:p:=by
 refine U ?_ ?_<;>intro n8;·exact b7H
 apply e0∘MQ∘oH;refine bQ L R rJ ?_;exact aZ7):=h
def aPA(h:p:=by exact⟨u,by rw[eV],by rw[eV];exact dL,AY,rfl,λr M=>((kJ r M).mono EJ).mono kY⟩):=h
def a3g(h:p:=by simp[execOp,resolve,invoke,builtin]):=h
def a3h(h:p:=by exact eO ⟨fF+1,z2 gM D b7S⟩):=h
def Vx(h:p:=by rename_i O;exact absurd h O):=h
def aPB(h:p:=by exact⟨.nil,by rw[W];rfl,J.iJ,by rw[W];rfl,by rw[mE];rfl,λr M=>aT M⟩):=h
def aPC(h:p:=by
 rcases List.mem_cons.1 (QE e W)with h|h;·exact absurd h (OH aG e W)
 ·exact h):=h
def aPD(h:p:=by
 apply(gJ);refine mC [11,13] lE fM bI ?_;refine pB ?_ ?_;·
  skip
  exact b8o
 exact b8f):=h
def aPE(h:p:=by
 apply(gJ);refine mC [3,13] lE fM bI ?_;refine pB ?_ ?_;·
  skip
  exact b8q
 exact b8j):=h
def aPF(h:p:=by
 apply(gJ);refine mC [3,11] lE fM bI ?_;refine pB ?_ ?_;·
  skip
  exact b8r
 exact b8n):=h
def aPG(h:p:=by apply(PR);refine lG L R ?_;exact⟨by rw[BC,decide_eq_false D];rfl,rfl,rfl⟩):=h
def aPH(h:p:=by
 split at aU;·exact⟨by omega,by omega,cK,by omega,by omega,by omega⟩
 ·omega):=h
def aPI(h:p:=by exact⟨⟨a,t,kH⟩,by rw[W],λ_=>by rw[Jl,TD,if_neg D],rfl,rfl⟩):=h
def aPJ(h:p:=by apply(D8);refine cX L R ?_;exact⟨by rw[CW,aUh λj a6=>hC j D],rfl,rfl⟩):=h
def a3i(h:p:=by
 split at h;·assumption
 ·omega):=h
def aPK(h:p:=by apply(vY);refine cX L R ?_;exact⟨by rw[aZp M k D cC.1 cC.2],rfl,rfl⟩):=h
def aPL(h:p:=by apply(kM);refine cX L R ?_;exact⟨by rw[u7,if_neg D,if_pos D],rfl,rfl⟩):=h
def aCg(h:p:=by show(w.heap.push _)[b]?=_;rw[b7m,if_neg D]):=h
def aPM(h:p:=by
 intro e W;rcases List.mem_cons.1 W with rfl|W;·exact a2g
 ·exact QE e W):=h
def aPN(h:p:=by intro i aE _;have:=List.all_eq_true.1 cK i (List.mem_range.2 aE);simpa using this):=h
def aPO(h:p:=by exact eO ⟨(k+1,l.set P.pY.toNat _),by dsimp only;omega,fO.next kX D Mf⟩):=h
def aPP(h:p:=by apply(kM);refine cX L R ?_;exact⟨by rw[M5,if_neg D,if_pos D],rfl,rfl⟩):=h
def aPQ(h:p:=by apply(kM);refine cX L R ?_;exact⟨by rw[BQ,if_neg D,if_pos D],rfl,rfl⟩):=h
def aPo(h:p:=by apply(kM);refine cX L R ?_;exact⟨by rw[nO,if_neg D,if_pos D],rfl,rfl⟩):=h
def aPp(h:p:=by refine cX L R ?_;exact⟨by rw[CN,if_neg D,if_neg D,if_pos cC],rfl,rfl⟩):=h
def aPq(h:p:=by apply(kM);refine cX L R ?_;exact⟨by rw[h5,if_neg D,if_pos D],rfl,rfl⟩):=h
def aPr(h:p:=by refine cX L R ?_;exact⟨by rw[CN,if_neg D,if_neg D,if_neg D],rfl,rfl⟩):=h
def aPs(h:p:=by refine cX L R ?_;exact⟨by rw[uP,if_neg D,if_neg D,if_pos cC],rfl,rfl⟩):=h
def aPt(h:p:=by
 rw[qL]at JZ;split at JZ;·omega
 ·rename_i NW;exact Decidable.not_not.1 NW):=h
def a3e(h:p:=by exact .AM (q:=r) (a00 W aW) aW):=h
def aPu(h:p:=by rw[aMW];show o1 x.aK wT.l x.aV.l t=_;rw[fX.o1 K.aK,TP,kK]):=h
def aPv(h:p:=by rw[aM4];show x6 x.aK wT.l x.aV.l t=_;rw[fX.x6 K.aK,TP,kK]):=h
def aPw(h:p:=by refine cX L R ?_;exact⟨by rw[uP,if_neg D,if_neg D,if_neg D],rfl,rfl⟩):=h
def aQb(h:p:=by
 rcases List.mem_append.1 K with h|h;·exact r7 _ h
 ·exact lZ _ (OV _ h)):=h
def aQc(h:p:=by
 intro a2F;apply(b9);refine U ?_ ?_<;>intro cC;·exact b7B
 exact b7D):=h
def aQd(h:p:=by apply(kM);refine cX L R ?_;exact⟨by rw[qW,if_pos D],rfl,rfl⟩):=h
def aQe(h:p:=by apply(kM);refine cX L R ?_;exact⟨by rw[W,P4,if_pos MH],rfl,rfl⟩):=h
def aQf(h:p:=by
 intro c w aH a next Q k
 rw[h c w aH];exact k v L R w ⟨rfl,rfl,rfl⟩ aH):=h
def aQg(h:p:=by apply(CR);refine bQ L R kS ?_;exact⟨by rw[p6,if_neg D],rfl,rfl⟩):=h
def hV:=@List.mem_of_getElem?
def m8:=@List.getD_eq_getElem?_getD
def lZ:=@List.mem_append_right
def hF:=@Nat.lt_or_ge
def l9:=@List.length_append
def r7:=@List.mem_append_left
def oB:=@List.append_assoc
def nH:=@Bool.and_eq_true
def iK:=@Nat.le_refl
def tJ:=@List.getElem?_set_self
def pA:=@List.getElem?_map
def uF:=@List.getElem?_eq_none
def nN:=@List.nil_append
def pK:=@List.cons_append
def rH:=@List.Sublist.refl
def DN:=@List.getElem?_eq_getElem
def q0:=@List.length_set
def u2:=@Result.andThen_ok
def GY:=@Int.tdiv_eq_ediv_of_nonneg
def sV:=@List.length_map
def u1:=@List.map_append
def DK:=@List.take_of_length_le
def wD:=@List.length_cons
def vR:=@List.not_mem_nil
def xP:=@Int.toNat_natCast
def IV:=@Array.getElem?_eq_none
def sW:=@List.mem_cons
def pJ:=@Int.le_refl
def wZ:=@List.map_cons
def yF:=@Option.some.inj
def OU:=@List.findSome?_eq_none_iff
def IW:=@List.getElem?_set
def CF:=@List.flatMap_cons
def XR:=@List.exists_of_findSome?_eq_some
def KN:=@List.getElem?_set_ne
def KO:=@Nat.le_of_ble_eq_true
def UE:=@List.getElem?_replicate
def DL:=@List.length_drop
def KP:=@List.getElem?_range
def OV:=@List.mem_cons_of_mem
def w0:=@Sem.run_bind
def OW:=@List.length_singleton
def CG:=@Int.mul_nonneg
def RF:=@Int.toNat_of_nonneg
def xQ:=@List.set_set
def XT:=@List.sublist_append_right
def XU:=@List.getElem?_append_left
def GZ:=@List.append_nil
def Hx:=@List.eq_nil_of_length_eq_zero
def ME:=@List.take_add_one
def IX:=@List.range_succ
def DM:=@Classical.em
def UF:=@List.nodup_cons
def G0:=@Nat.le_trans
def Bz:=@List.perm_append_comm
def a3E:=@List.perm_append_comm_assoc
def Ca:=@List.Perm.refl
def MF:=@Int.mul_le_mul
def UG:=@List.ext_getElem?
def Wk:=@Array.getElem?_setIfInBounds_ne
def Nv:=@List.getElem?_append_right
def Cb:=@List.mem_of_mem_drop
def EZ:=@Nat.zero_le
def IY:=@Int.lt_or_le
def XX:=@List.getElem?_take
def UH:=@List.length_nil
def Wn:=@Int.mul_le_mul_of_nonneg_left
def Hy:=@List.getElem_of_mem
def KQ:=@Sem.run_pure
def Hz:=@List.length_replicate
def MC:=@Nat.succ_mul
def MD:=@Nat.zero_add
def a3n:=@List.sublist_cons_self
def Bu:=@List.foldl_append
def a3o:=@Int.mul_le_mul_of_nonneg_right
def a3q:=@Nat.and_two_pow_sub_one_eq_mod
def a3r:=@Int.sub_eq_add_neg
def Ht:=@List.mem_cons_self
def Wd:=@Option.bind_eq_some_iff
def XP:=@List.mem_range
def XQ:=@List.nodup_nil
def Nl:=@List.nodup_append
def Bv:=@Bool.eq_iff_iff
def Bw:=@Option.map_some
def a3t:=@List.Sublist.append
def a3u:=@Int.fdiv_eq_ediv_of_nonneg
def Hu:=@List.length_take
def Hv:=@List.take_length
def XS:=@Int.mul_assoc
def Nn:=@List.ne_nil_of_mem
def Bx:=@List.drop_zero
def Wf:=@List.mem_of_mem_take
def a3x:=@Region.noSelect_spec
def Wg:=@Nat.mul_le_mul_right
def Hw:=@List.mem_append
def a3z:=@List.find?_range_eq_some
def Np:=@Option.some.injEq
def Nq:=@Bool.or_eq_true
def XV:=@List.map_nil
def a3A:=@List.perm_middle
def Nr:=@List.length_tail
def Ns:=@Option.bind_some
def Nt:=@Int.ediv_le_self
def a3C:=@List.drop_eq_nil_of_le
def Wi:=@Nat.lt_of_lt_of_le
def Nu:=@Int.ediv_nonneg
def aCC:=@Nat.eq_of_beq_eq_true
def aCD:=@Array.getD_eq_getD_getElem?
def aCE:=@List.Perm.append_left
def Wj:=@Bool.not_eq_true'
def a3F:=@Int.ediv_emod_unique
def Wl:=@List.map_toArray
def Wm:=@Nat.mod_eq_of_lt
def a3G:=@List.replicate_succ
def aCF:=@List.sublist_append_left
def aCG:=@Nat.le_mul_of_pos_right
def a3H:=@Nat.eq_zero_or_pos
def a3I:=@Int.tmod_lt_of_pos
def aCH:=@List.getElem?_cons_zero
def aQo:=@Int.ediv_nonpos_of_nonpos_of_neg
def aCI:=@World.frozen?_of_block
def Ia:=@Nat.add_mul
def a3m:=@Decidable.not_not
def Bt:=@Nat.beq_eq
def Nk:=@Bool.or_true
def aCn:=@Array.getElem?_append
def a3p:=@Region.free_spec
def aQk:=@List.Sublist.map
def a3s:=@BitVec.toNat_and
def aQl:=@List.take_append_of_le_length
def aQm:=@List.drop_append_of_le_length
def aCo:=@List.mem_of_mem_tail
def aCp:=@List.replicate_succ'
def We:=@Nat.add_assoc
def aCq:=@Nat.mul_le_mul_left
def aCr:=@List.flatMap_append
def Nm:=@Int.neg_mul
def a3v:=@Int.tmod_nonneg
def b7m:=@Array.getElem?_push
def aCs:=@Array.length_toList
def a3w:=@List.cons.injEq
def aQn:=@Int.add_zero
def aCt:=@Option.toList_some
def aCu:=@List.findSome?_map
def aCv:=@List.mem_singleton
def aCw:=@List.set_cons_zero
def a3y:=@List.drop_drop
def aCx:=@List.flatten_cons
def aCy:=@List.length_range
def aCz:=@List.size_toArray
def Wh:=@Int.mul_neg
def XW:=@Ne.symm
def aCA:=@List.getElem_mem
def aCB:=@Option.getD_some
def a3B:=@Int.mul_zero
def a3D:=@Nat.mul_comm
def e8(h:p:=by exact λs aH=>by cases aH):=h
def bD(h:p:=by exact λ_=>rfl):=h
def hA{a7:Type}{l:List a7}:l.Sublist l:=rH l
def fM{a7:Type}{l:List a7}:[].Sublist l:=List.nil_sublist l
def b7n(h:p:=by exact⟨by refine congrArg Value.bool ?_;rw[Bv];simp,rfl,rfl⟩):=h
def b7o(h:p:=by exact⟨by refine congrArg (Value.int .i64) ?_;rw[K1,Pm];(repeat' split)<;>omega,rfl,rfl⟩):=h
def b7p(h:p:=by exact⟨by refine congrArg (Value.int .i64) ?_;rw[Ea];(repeat' split)<;>omega,rfl,rfl⟩):=h
def a3P(h:p:=by refine Je lE fM bI rfl ?_;apply(uC);refine g5 ?_;exact Ct (⟨y4,QB,xB,gQ⟩,⟨(A6,fI),⟨y7,S5⟩,l5,EO⟩) gW bV b8p hA eN):=h
def Nx(h:p:=by apply(p8);refine bQ L R MO ?_;(have W:rV s c.l aA.l r p t=19:=by rw[rV,if_neg aQ,if_neg D,if_pos b7G]);exact⟨by rw[Qi W D,W],rfl,rfl⟩):=h
def DR(h:p:=by intro eR;replace eR:=bB eR;exact(Dq) g4):=h
def a3R(h:p:=by apply KJ∘Qy∘aGn;refine g5 (a8 (iY (iM (gB ?_))));refine bQ L R In ?_;(have qU:oG l.l (n+1) i=if x.left=0/\x.right=0/\0<=x.cond/\x.cond<64 then some (i,1)else none:=by rw[oG,if_neg aQ,<-K,if_pos bL]);exact aWb):=h
def aCQ(h:p:=by apply gU∘nZ∘b0y;rintro v E G ⟨b1l,rfl,rfl,Fi⟩;(replace Fi:=Fi.symm;subst Fi);apply(b0H);rintro v E G ⟨aBK,rfl,aAj,rfl,rfl⟩;apply(JQ);exact eO ⟨(k+1,(⟨aBK,_⟩:J bC)),by dsimp only;omega,aAj,by dsimp only;rw[IX,u1,lY];simp only[wZ,XV,Mf];try rfl⟩):=h
def G3(h:p:=by intro fQ;replace fQ:=bB fQ;exact(Ds) g4):=h
def aRd(h:p:=by apply(gJ);refine mC [7] LR fM bI ?_;apply mR∘aUe;rintro v E G ⟨aBL,rfl,Uc,rfl,rfl⟩;apply gJ∘aUE∘aTB;refine Je LR fM bI rfl ?_;apply(JN);exact eO ⟨(k+1,(⟨a2N,_⟩:J Int),(⟨aBL,_⟩:J fU)),TO,⟨a2l,Uc⟩,Al.symm,aM6.symm⟩):=h
def a3Y(h:p:=by exact(Dq) g4):=h
def Wy(h:p:=by rintro v E G ⟨y,S,rfl,aS,iG,rfl,rfl⟩;apply(Kf);refine bQ L (S++R) oC ?_;exact⟨y,S,by rw[nD],by rw[nD];exact aS,iG,rfl,rfl⟩):=h
def b7L(h:p:=by apply l6∘aWD;rintro v E G ⟨rfl,rfl⟩;refine aI jV rfl ?_;apply l6∘aZH;rintro v E G ⟨rfl,rfl⟩;apply j8∘a1n∘oH;refine bQ (q.L 3 a1++((⟨p.o,(((p.l.set s.toNat ⟨x.bG,x.cZ,x.c1,true,x.bY⟩).set s.toNat ⟨x.bG,t,x.c1,true,x.bY⟩).set s.toNat ⟨x.bG,t,0,true,x.bY⟩).set s.toNat ⟨x.bG,t,0,true,false⟩⟩:J bS).L 76 bS.cells++L)) R rJ ?_;(have W:y3 f.aZ.l f.a2.l f.cB s t=0:=by rw[y3,if_neg D,aBe,if_neg D]);exact aU5):=h
def b7M(h:p:=by intro hM;replace hM:=bB hM;(have wN:=bJ (l:=s.cO.l) (k:=c.target.toNat) default (by(try simp at hM);omega));apply(j0);(have b5F:0<=c.target/\c.target<s.cO.l.length:=by(try simp at hM);omega);exact(aTQ∘Ke) g4):=h
def aRv(h:p:=by exact⟨by rw[Qi W D,W],rfl,rfl⟩):=h
def aRy(h:p:=by apply j8∘fD∘aVG;rintro v E G ⟨aNP,rfl,b4B,rfl,rfl⟩;apply NA∘fD∘aXf;rintro v E G ⟨aNV,rfl,b4J,rfl,rfl⟩;apply NA∘Kw∘CQ;refine bQ ((⟨aNV,f.a2.l⟩:J Int).L 3 a1++((⟨aNP,f.aZ.l⟩:J bS).L 76 bS.cells++L)) R (sD rfl Ii) ?_;exact⟨⟨aNP,f.aZ.l⟩,⟨aNV,f.a2.l⟩,rfl,⟨b4B,b4J⟩,rfl,rfl,rfl,rfl⟩):=h
def b7O(h:p:=by intro vM;replace vM:=bB vM;have wN:=bJ (l:=s.cO.l) (k:=c.target.toNat) default D;exact(j0∘aZi∘Ke) g4):=h
def MK(h:p:=by exact⟨rfl,rfl,rfl⟩):=h
def aRF(h:p:=by refine mD (mF (mB (a8 (c2 ?_))));apply(Y4);exact eO ⟨(z-1,(zG,op),Y),by dsimp only;omega,by dsimp only;rw[oM,if_neg b7C],QP,pH⟩):=h
def UJ(h:p:=by intro hD;replace hD:=bB hD;exact(JM) g4):=h
def aRK(h:p:=by(obtain rfl:j=x.aK.b0.cM.l.length:=by omega);(refine hB (T:=3) (f:=a1) (aN:=1) iO [] cF bD aW TH e8 ?_);refine eM gD ?_;(refine hB (T:=3) (f:=a1) (aN:=1) lV [] cF bD aW GC e8 ?_);refine eM gD ?_;apply n9∘JP;refine bQ L (dU lV.V::dU iO.V::R) kS ?_;exact⟨iO.V,lV.V,rfl,gA,ID,rfl,rfl⟩):=h
def aRO(h:p:=by refine fP X1 rfl rfl rfl rfl ?_;apply aD9∘CC∘zN∘aTS;rintro v E G ⟨rfl,rfl⟩;apply(gJ);refine g5 (a8 (bK (c2 ?_)));apply PL∘oH;refine bQ (q.L 3 a1++((⟨p.o,(p.l.set s.toNat ⟨x.bG,x.cZ,t,x.eJ,x.bY⟩).set s.toNat ⟨x.bG,x.cZ,t,x.eJ,lt⟩⟩:J bS).L 76 bS.cells++L)) R rJ ?_;exact aZD):=h
def aRR(h:p:=by apply gU∘nZ∘aTA;rintro v E G ⟨b1k,rfl,rfl,Fh⟩;(replace Fh:=Fh.symm;subst Fh);apply(aWx);rintro v E G ⟨aBE,rfl,aAi,rfl,rfl⟩;apply(JQ);exact eO ⟨(k+1,(⟨aBE,_⟩:J bC)),by dsimp only;omega,aAi,by dsimp only;rw[IX,u1,lY];simp only[wZ,XV,GB];try rfl⟩):=h
def O1(h:p:=by exact(aIL) g4):=h
def aRY(h:p:=by(obtain rfl:z= -1:=by omega);(have a9b:nA f.aZ.l f.cB t=⟨Y,zG.l,op.l⟩:=by rw[nA,<-dW];congr 1;omega);apply n9∘PL∘gU∘gU∘jZ∘wI∘vB;refine bQ (op.L 3 a1++(zG.L 3 a1++(q.L 3 a1++((⟨p.o,Y⟩:J bS).L 76 bS.cells++L)))) R aCK ?_;exact aWV):=h
def aR4(h:p:=by(obtain rfl:k=c.l.length:=by omega);apply M9∘gU∘wI∘vB;refine bQ (q.L 3 a1++((⟨wF,cs⟩:J b8).L 71 b8.cells++L)) R E3 ?_;exact⟨(⟨wF,cs⟩:J b8),q,by rw[W,J.val,J.val,tX];try rfl,⟨x8,gR⟩,by rw[o1,if_neg D];exact qC.done,by rw[x6,if_neg D];exact fT,rfl,rfl⟩):=h
def Cm(h:p:=by intro fQ;replace fQ:=bB fQ;exact(Qz) g4):=h
def Cn(h:p:=by intro eR;replace eR:=bB eR;exact(a0Z) g4):=h
def E2(h:p:=by exact(RC) g4):=h
def b7Z(h:p:=by intro eR;replace eR:=bB eR;apply(fD);(iterate 3 apply(e7));exact(SI∘GQ) g4):=h
def b72(h:p:=by(have cY:BD a s up m i=none:=by rw[KA];simpa using h1);(have ER:iN a s A up ps.l=(2,[]):=by rw[Gq,fO,aHj (fW.fail LW cY _ D)]);apply PP∘dM;refine eZ (a8 (iY (gB (iM (gB (vW (iM (gB (iM (gB (vW (iM (gB ?_)))))))))))));refine bQ L R yH ?_;exact aEe):=h
def a4h(h:p:=by rw[<-oB,<-oB];exact List.Perm.append_right _ Bz):=h
def b74(h:p:=by apply(FV);refine lG L R ?_;exact absurd cC aRW):=h
def DU(h:p:=by exact(GP) g4):=h
def aSE(h:p:=by apply SM∘ON;refine cX L R ?_;(have e:HY s=BQ s.fC.l.length s.b0.aC.aJ.l.length z:=by rw[HY,yT (f:=a5m s) jT eW (Yj h2)];rfl);exact⟨by rw[nO,if_neg D,if_neg D,if_neg D,if_neg D,if_pos (by rw[e];exact h2),e],rfl,rfl⟩):=h
def I0(h:p:=by exact(XI) g4):=h
def aSK(h:p:=by apply SM∘ON;refine cX L R ?_;(have e:O9 s=K1 s.cO.l s.b0.aC.aJ.l.length c:=by rw[O9,yT (f:=a5f s) gM cG (Yj dY)];rfl);exact⟨by rw[nO,if_neg D,if_neg D,if_neg D,if_pos (by rw[e];exact dY),e],rfl,rfl⟩):=h
def aDn(h:p:=by refine bQ L R XY ?_;(have W:uG S.l f.kQ t=6:=by rw[uG,if_neg Ep,TD,if_neg Lm,if_neg D,if_pos D]);exact Rp):=h
def aSR(h:p:=by apply(aFh);rintro v E G ⟨aNH,rfl,b4n,rfl,rfl⟩;apply cE∘aX5∘gU∘jZ∘SH;refine bQ ((⟨aNH,l.l⟩:J Int).L 5 rL++(dD.L 118 kV.cells++L)) S (yK rfl Xa IZ) ?_;exact aUp):=h
def aSV(h:p:=by apply(aFh);rintro v E G ⟨aNI,rfl,b4o,rfl,rfl⟩;apply NA∘nZ∘gU∘jZ∘SH;refine bQ ((⟨aNI,l.l⟩:J Int).L 5 rL++(dD.L 118 kV.cells++L)) S (yK rfl Xa IZ) ?_;exact aTU):=h
def KV(h:p:=by exact(XJ) g4):=h
def Xo(h:p:=by intro fQ;replace fQ:=bB fQ;exact(cE∘VQ) g4):=h
def aS5(h:p:=by intro eR;replace eR:=bB eR;exact(fD∘aIN) g4):=h
def UM(h:p:=by exact(GQ) g4):=h
def a4j(h:p:=by apply(dM);refine eZ (hI ?_);exact b6T):=h
def aTg(h:p:=by apply(mT);exact eO (⟨k+1,by omega⟩)):=h
def aTl(h:p:=by apply dC∘a6l∘tQ;refine bQ L R rJ ?_;(have aX:¬F2 l:=λh=>by rw[a6t.2 h]at aQ;omega);(have c5:yP l w t=1:=by rw[yP,if_pos aX]);exact⟨by rw[c5,a43 c5 aW,JE,if_neg aX];rfl,rfl,rfl⟩):=h
def b8u(h:p:=by(iterate 3 apply(IQ));apply dM∘D6∘j8;(iterate 3 apply(cE));refine aI E1 rfl ?_;apply k3∘dE∘dM∘D6∘KK;refine bQ L R In ?_;exact aXv):=h
def aQq(h:p:=by apply dC∘Pb∘cE∘jZ∘JS;refine bQ L R aCK ?_;(have W:FM f.aZ.l f.a2.l f.cB t=jS f.aZ.l f.a2.l f.cB:=by rw[FM,if_pos aQ]);exact aG4):=h
def b7t(h:p:=by apply uC∘wV∘aUM∘PY∘T9∘mH∘FZ∘aB0∘VS∘lA∘Be∘JN;exact hP ⟨k+1,by omega⟩ gW bV aSB eN hO):=h
def b7w(h:p:=by refine cD rfl b71 ?_;apply(dZ);intro jR;apply sI∘j0∘j3∘vZ;refine eZ (a8 (c2 ?_));apply j0∘j3∘vZ∘uJ;exact eO ⟨k+1,by omega⟩):=h
def aQz(h:p:=by apply dC∘a6l∘p8;refine bQ L R rJ ?_;(have c5:yP l w t=8:=by rw[yP,if_neg (λh=>h aX),if_pos (by(try simp at bL);omega)]);exact⟨by rw[c5,a43 c5 aW];rfl,rfl,rfl⟩):=h
def Nw(h:p:=by exact⟨0,by rw[W],λh=>by omega,rfl,n1 _⟩):=h
def aQJ(h:p:=by(have AX:q7 a s A=(0,z.2,y.2):=by rw[q7];dsimp only;rw[<-K,if_neg aQ,<-Q0,if_neg bL,<-TY,if_neg cC]);exact⟨u,q,by rw[AX];rfl,a2v,gR,by rw[AX];exact Mj,by rw[AX];exact fT,rfl,rfl⟩):=h
def a3N(h:p:=by apply dM∘uJ;exact hP ⟨k+1,by omega⟩ gW b7R bA eN hO):=h
def aQO(h:p:=by rw[Af];exact{Ln with BU:=by show(List.set _ _ _).length=_;rw[q0];exact Ln.BU,aD:=by show _/\(_\/(_/\_<((List.set _ _ _).length:Int)));rw[q0];exact Ln.aD}):=h
def aQS(h:p:=by apply NC∘a53∘a50∘dM;refine eZ (a8 (c2 ?_));apply ND∘dM;refine eZ (hI ?_);exact eO ⟨(w,step*2,w),by dsimp only;omega,Tj,by dsimp only;omega⟩):=h
def aCO(h:p:=by exact hP ⟨k+1,by omega⟩ gW bV aSB eN hO):=h
def aQ1(h:p:=by apply(e0);(iterate 3 apply(cE));refine aI b7v rfl ?_;apply(oH);refine bQ L R MO ?_;exact⟨by rw[s9,if_pos D,W,show qW s c.l aA.l k t=0 by omega],rfl,rfl⟩):=h
def MI(h:p:=by exact(KH) g4):=h
def aQ9(h:p:=by apply(tQ);refine bQ L R MO ?_;(have W:rV s c.l aA.l r p t=sT s c.l.length aA.l.length t:=by rw[rV,if_pos aQ]);exact⟨by rw[Qi W aQ,W],rfl,rfl⟩):=h
def aRe(h:p:=by apply(tQ);refine bQ L R MO ?_;(have W:oZ s c.l aA.l r p k t=sT s c.l.length aA.l.length t:=by rw[oZ,if_pos aQ]);exact⟨by rw[Ox W aQ,W],rfl,rfl⟩):=h
def a3Z(h:p:=by intro kF;replace kF:=bB kF;exact(pR∘aIO) g4):=h
def aRl(h:p:=by apply dC∘Pb∘jZ∘JS;refine bQ L R aCK ?_;(have W:FM f.aZ.l f.a2.l f.cB t=8:=by rw[FM,if_neg aQ,if_neg MH]);exact aG4):=h
def aRp(h:p:=by refine mD (mF (xY (mB ?_)));exact Df ⟨(AJ,V9,_),by dsimp only;omega,GB,a17,λh=>by first|(exfalso;have c4:V9<sF up start:=h;omega)|simpa using cC⟩ aQP bV bA eN):=h
def aRs(h:p:=by apply(dC);refine aI Il rfl ?_;apply(tQ);refine bQ L R rJ ?_;exact⟨.nil,.nil,0,rfl,⟨J.iJ,J.iJ⟩,λh=>absurd h aQ,by rw[mE,mE];rfl,rfl⟩):=h
def aRw(h:p:=by(obtain rfl:k=f.aZ.l.length:=by omega);apply(PO);refine cX L R ?_;exact⟨by rw[UT,if_neg aQ,M0,Dl,DK (iK _)],rfl,rfl⟩):=h
def RI(h:p:=by exact(XK) g4):=h
def aRB(h:p:=by exact eO ⟨(k+1,cs.set k ⟨h7.off,-1,h7.i4⟩,q),by dsimp only;omega,TC _ b7s,gR,by dsimp only;rw[Ae,if_neg (λh=>by have:=h.2;simp[this]at h2)];exact fT⟩):=h
def aRD(h:p:=by exact aM.turn X λv i6 G ⟨E,e,⟨p,k7,lJ,m4,vG⟩,JW⟩=>⟨_,G,by rw[<-e,<-vG,GZ];exact Bz,λr M=>aT M,p,k7,lJ,m4,rfl,JW⟩):=h
def aRG(h:p:=by apply dC∘aDN∘p8;refine bQ L R rJ ?_;(have W:y3 f.aZ.l f.a2.l f.cB s t=10:=by rw[y3,if_neg D,aBe,if_pos D]);exact aKx):=h
def aRI(h:p:=by apply(p8);refine bQ L R MO ?_;(have W:oZ s c.l aA.l r p k t=19:=by rw[oZ,if_neg aQ,if_neg bL,if_pos D]);exact⟨by rw[Ox W D,W],rfl,rfl⟩):=h
def aCY(h:p:=by apply KJ∘aZT∘JN;exact eO ⟨(i+1,_),by dsimp only;omega,cY⟩):=h
def a4b(h:p:=by apply(PR);refine lG L R ?_;exact absurd IF D):=h
def aRS(h:p:=by exact eO ⟨(k+1,cs.set k ⟨h7.off,t,h7.i4⟩,q),by dsimp only;omega,TC _ (by rw[R0,if_pos dY,if_pos h1]),gR,by dsimp only;rw[Ae,if_neg D];exact fT⟩):=h
def aC8(h:p:=by apply(vY);refine cX L (q3 n.lN::qA n.l3::(S++R)) ?_;exact b0O):=h
def aRZ(h:p:=by rintro v E G ⟨rfl,rfl,rfl⟩;refine⟨bA,iQ,?_⟩;apply(oX);refine g5 (a8 (iY ?_));refine bQ L R kS ?_;exact⟨by rw[p6,if_pos D],rfl,rfl⟩):=h
def b7V(h:p:=by intro pF;replace pF:=bB pF;(have C6:b=true:=by cases b with|true=>rfl|false=>simp at pF);have Tv:=(YG _ _ _ _ (kX.A9 C6)).1;exact(Ra) g4):=h
def aSa(h:p:=by apply dC∘aUB∘CR;refine bQ L R (sD rfl Xb) ?_;exact⟨by rw[nQ,if_pos (by rw[Ku];simpa[and_assoc]using aQ)],rfl,rfl⟩):=h
def Co(h:p:=by exact(aIO) g4):=h
def aSi(h:p:=by(have bT:rM a s A=(0,D4 a s (U1 a s A) A):=by rw[rM,if_neg aQ,if_neg AO,if_pos cC]);exact⟨p,by rw[bT];rfl,iF,by rw[bT,eI];exact b0L aU cK,rfl,rfl⟩):=h
def aSl(h:p:=by apply(p8);refine bQ L R MO ?_;(have W:oZ s c.l aA.l r p k t=10:=by rw[oZ,if_neg aQ,if_pos bL]);exact⟨by rw[Ox W D,W],rfl,rfl⟩):=h
def aSn(h:p:=by apply eB∘e7∘a0W∘vZ;refine eZ (hI (a8 (bK (c2 ?_))));apply MQ∘oH;refine bQ L R rJ ?_;exact b0E):=h
def aSr(h:p:=by rintro v E G ⟨p,S,rfl,iF,eI,rfl,rfl⟩;apply CO∘Y6;refine bQ (p.L 3 a1++L) (S++R) yH ?_;exact⟨p,S,rfl,iF,eI,rfl,rfl⟩):=h
def aSv(h:p:=by rintro v E G ⟨r,rfl,M,rfl,rfl⟩;apply GQ∘uK;refine lG L R ?_;exact⟨congrArg Value.bool (decide_eq_decide.2 M),rfl,rfl⟩):=h
def b75(h:p:=by intro aNx;apply(nG);refine eZ (a8 (c2 ?_));apply h9∘cE∘aFE∘aU3;rintro v E G ⟨rfl,rfl⟩;exact(VO) aZO):=h
def aSF(h:p:=by have aMU:=pH start;have Z8:=J5 start;apply SN∘a6X∘a5q∘D6∘A3;refine bQ L R RG ?_;exact aTY):=h
def aSH(h:p:=by rintro v E G ⟨p,rfl,iF,eI,rfl,rfl⟩;apply CO∘Y6;refine bQ (p.L 3 a1++L) R yH ?_;exact⟨p,rfl,iF,eI,rfl,rfl⟩):=h
def aSL(h:p:=by apply e0∘nZ∘jZ∘uK;refine bQ L R a3M ?_;exact⟨by rw[JA,if_neg D,decide_eq_true D],rfl,rfl⟩):=h
def aSO(h:p:=by replace tB:=bB tB;(iterate 10 apply(iU));apply KJ∘l2;refine vS rfl ?_;apply(vY);refine cX L R ?_;exact a48):=h
def aSS(h:p:=by(obtain rfl:k=l.l.length:=by omega);apply(PO);refine cX L R ?_;exact⟨by rw[DK (iK _)],rfl,rfl⟩):=h
def On(h:p:=by exact⟨by rw[HJ,h];rfl,rfl,rfl⟩):=h
def aSY(h:p:=by refine mD (mF (mB (a8 (c2 ?_))));apply(Y4);exact eO ⟨(z-1,(zG,op),Y),by dsimp only;omega,by dsimp only;rw[oM,if_neg b8t],QP,pH⟩):=h
def aS0(h:p:=by exact eO ⟨(k+1,⟨aNL,iO.l++[CW x.aK.cO.l x.c7.l x.time 5 (k:Int) 3]⟩),by dsimp only;omega,aMP,by dsimp only;rw[aZj,gA]⟩):=h
def aS6(h:p:=by apply(kM);refine cX [sK c x k] R ?_;exact⟨0,k,rfl,by omega,λ_=>by omega,λ_=>rfl,aG,λ_=>⟨rfl,rfl⟩,rfl,rfl⟩):=h
def b8l(h:p:=by rw[F2]at aX;apply e0∘j0∘k3∘vB;refine cX L R ?_;exact⟨by rw[Ef,if_neg D],rfl,rfl⟩):=h
def aTc(h:p:=by apply(oH);refine bQ L R MO ?_;exact⟨by rw[tU,if_pos D,W,show qW s c.l aA.l r.dN t=0 by omega],rfl,rfl⟩):=h
def aTh(h:p:=by intro mW;replace mW:=bB mW;have zD:=bJ (l:=s.lM.l) (k:=p.toNat) 0 D;apply(gK);refine aI aC7 rfl ?_;exact(Ke) g4):=h
def aTm(h:p:=by rintro v E G ⟨z,ok,aQj,rfl,kN,rfl,rfl⟩;apply Y5∘uK;refine bQ L R RG ?_;exact⟨z,ok,rfl,kN,rfl,rfl⟩):=h
def aTp(h:p:=by apply jZ∘nG∘A3;refine bQ L R a3M ?_;exact⟨by rw[JA,if_pos D,decide_eq_false D],rfl,rfl⟩):=h
def aQr(h:p:=by exact eO ⟨(k+1,cs,q),by dsimp only;omega,a12 (by rw[R0,if_pos dY,if_neg h1]),gR,by dsimp only;rw[Ae,if_neg D];exact fT⟩):=h
def aQu(h:p:=by apply dC∘YD∘p8;refine bQ L R XY ?_;(have W:uG S.l f.kQ t=8:=by rw[uG,if_pos D]);exact Rp):=h
def b7x(h:p:=by intro pF;replace pF:=bB pF;have qD:=bJ (l:=c.l) (k:=r.dN.toNat) default D;exact(yY∘aGf∘sH) g4):=h
def b7y(h:p:=by intro aMj;replace aMj:=bB aMj;have qD:=bJ (l:=c.l) (k:=r.dN.toNat) default D;exact(yY∘aGf∘Ke) g4):=h
def aQE(h:p:=by apply PP∘A3;refine bQ L R w2 ?_;exact⟨.nil,rfl,J.iJ,by rw[vU,if_pos D],by rw[mE];rfl,rfl⟩):=h
def b7z(h:p:=by exact eO ⟨(k+1,l.set k (m.places.l.getD k default).tG),by dsimp only;omega,by simp;exact pW,J.o6 BP aG g2,key _ K⟩):=h
def b7B(h:p:=by apply LB∘dM∘Bg;refine cX L R ?_;exact⟨by rw[CW,AQ];dsimp only;rw[if_pos D],rfl,rfl⟩):=h
def b7D(h:p:=by apply e0∘dM∘ON;refine cX L R ?_;exact⟨by rw[CW,AQ];dsimp only;rw[if_neg D],rfl,rfl⟩):=h
def aQT(h:p:=by(rw[aZx x.aK.b0 (s:=⟨iO,lV⟩) (s':=Ax (UW x.aK x.c7.l x.time)) (by show(iO.l,lV.l)=_;rw[gA,ID];rfl)]);exact a69 _ _):=h
def aQY(h:p:=by obtain⟨y,aS,rfl⟩:=List.mem_map.1 K;obtain⟨p,aP,rfl⟩:=List.mem_map.1 aS;exact(tA p aP).mono λr h=>aT (by simp[h])):=h
def aQ2(h:p:=by rw[if_pos bL,aQn]at cT;refine mD (mF (mB (a8 (c2 ?_))));apply(M8);exact hP ⟨k+1,by omega⟩ gW a3V bA eN hO):=h
def aQ6(h:p:=by(have jF:bU≠w:=λe=>by rw[e,J6]at wB;cases wB);exact Df ⟨(bU,step,w),xJ,wB,by dsimp only;omega,J6⟩ aQP bV bA eN):=h
def aRa(h:p:=by refine eZ (a8 (mD (mF (mB ?_))));exact hP ⟨(m9 l 1 1,vH+1,dD,gX (m9 l 1 1)::S),eL.skip D (.inl vO)⟩ gW bV bA eN a4g):=h
def aRf(h:p:=by apply(vY);refine cX L R ?_;exact⟨by rw[aE5 aQ D (yT gM aF ((if_neg dX).trans (if_pos dY)))],rfl,rfl⟩):=h
def b7H(h:p:=by apply eB∘e7∘a0W∘NB∘MQ∘oH;refine bQ L R rJ ?_;exact aZL):=h
def aRm(h:p:=by have mX:=HV gM D;apply(D8);refine cX L R ?_;exact⟨by rw[M5,if_neg D,if_neg D,mX];rfl,rfl,rfl⟩):=h
def aRq(h:p:=by refine eZ (a8 (mD (mF (mB ?_))));exact hP ⟨(m9 l 1 1,vH+1,dD,gX (m9 l 1 1)::S),eL.skip D aL5⟩ gW bV bA eN a4g):=h
def aRt(h:p:=by apply SM∘Bg;refine cX L R ?_;exact⟨by rw[aE5 aQ D (yT gM aF (if_pos dX))],rfl,rfl⟩):=h
def aRx(h:p:=by refine bQ L R XY ?_;(have W:uG S.l f.kQ t=5:=by rw[uG,if_neg Ep,TD,if_neg Lm,if_pos D]);exact Rp):=h
def b7N(h:p:=by refine eP (hI (a8 (bK (c2 ?_))));apply dM∘dM∘uK;refine bQ L R In ?_;exact aTL):=h
def b7P(h:p:=by apply(kM);refine cX L R ?_;exact⟨by(try simp at aQ);rw[JE,if_neg (by rw[F2];omega)],rfl,rfl⟩):=h
def b7Q(h:p:=by apply(PN);refine cX L R ?_;exact⟨by(try simp at aQ);rw[JE,if_pos (by rw[F2];omega)],rfl,rfl⟩):=h
def aRH(h:p:=by exact eO ⟨(k+1,tY.set m.k5.toNat m),by dsimp only;omega,by dsimp only;rw[Ly,HD,if_pos WK,<-Lx,J7]⟩):=h
def aRJ(h:p:=by apply(kM);refine cX L R ?_;exact⟨by rw[W,P4,if_neg (by rw[Tx];decide),if_pos D],rfl,rfl⟩):=h
def aRL(h:p:=by apply(vY);refine cX L R ?_;exact⟨by rw[Kv D gM D (B2.trans (by rw[if_pos D]))],rfl,rfl⟩):=h
def aRP(h:p:=by apply(PR);refine lG L R ?_;exact⟨by rw[decide_eq_false (λh=>by have:=h.1;omega)],rfl,rfl⟩):=h
def b7T(h:p:=by apply tR∘dM∘RD∘Y4;exact eO ⟨(z-1,z),by dsimp only;omega,.b3K D cC⟩):=h
def aRV(h:p:=by dsimp only at O X aU cK aQ;apply(PO);refine cX L R ?_;exact⟨by rw[cK,aKM aQ],rfl,rfl⟩):=h
def aR0(h:p:=by dsimp only at O X aU cK aQ;apply(PO);refine cX L R ?_;exact⟨by rw[cK,aD4 aQ],rfl,rfl⟩):=h
def aR5(h:p:=by have mX:=HV gM D;apply(D8);refine cX L R ?_;exact⟨by rw[EB,if_neg D,mX];rfl,rfl,rfl⟩):=h
def aSb(h:p:=by(iterate 16 apply(iU));apply(l2);refine vS rfl ?_;apply(vY);refine cX L R ?_;exact aKA):=h
def aSe(h:p:=by exact X.mono λv i6 G ⟨E,e,⟨k7,lJ⟩,m4⟩=>⟨k7,by rw[<-lJ,GZ]at e;exact e,m4⟩):=h
def b7X(h:p:=by apply(kM);refine cX L R ?_;exact⟨by rw[sT,if_neg D,if_neg D,if_pos D],rfl,rfl⟩):=h
def b70(h:p:=by apply(PN);refine cX L R ?_;exact⟨by rw[sT,if_neg D,if_neg D,if_neg D],rfl,rfl⟩):=h
def aSo(h:p:=by apply(vY);refine cX L R ?_;exact⟨by rw[Qt b2 (wH gM D (aVz K D D Ig))],rfl,rfl⟩):=h
def aSs(h:p:=by apply(FU);refine cX L R ?_;exact⟨by rw[Kv D gM D (B2.trans (if_pos D))],rfl,rfl⟩):=h
def aSw(h:p:=by apply(D8);refine cX L R ?_;exact⟨by rw[W,aTP Tx D (λm a3=>hC m D)],rfl,rfl⟩):=h
def b76(h:p:=by exact eO ⟨(k+1,l.set k true),by dsimp only;omega,by simp;exact pW,J.o6 BP aG g2,key true K⟩):=h
def aSG(h:p:=by exact hP ⟨k+1,by omega⟩ gW (by dsimp only;rw[Ft,if_pos D];exact⟨rfl,rfl,trivial⟩) bA eN hO):=h
def aSI(h:p:=by exact hP ⟨k+1,by omega⟩ gW (by dsimp only;rw[Ft,if_neg D];exact⟨rfl,rfl,trivial⟩) bA eN hO):=h
def aSM(h:p:=by apply(kM);refine cX L R ?_;exact⟨by rw[u7,if_neg D,if_neg D,if_neg MG],rfl,rfl⟩):=h
def aSP(h:p:=by apply(PN);refine cX L R ?_;exact⟨by rw[u7,if_neg D,if_neg D,if_pos MG],rfl,rfl⟩):=h
def aST(h:p:=by apply(FW);refine cX L R ?_;exact⟨by rw[nO,if_neg D,if_neg D,if_pos cC],rfl,rfl⟩):=h
def aSW(h:p:=by apply(FU);refine cX L R ?_;exact⟨by rw[Qt b2 (wH gM D (aZP K D D))],rfl,rfl⟩):=h
def b8d(h:p:=by intro Vg;apply(uK);refine lG L R ?_;exact⟨by simp[P9,Bool.and_assoc],rfl,rfl⟩):=h
def aS1(h:p:=by apply(tR);refine aI (aZJ rfl rfl (aW0 D)) rfl ?_;exact(dM∘RD∘Y4) aWS):=h
def aS7(h:p:=by refine eP (hI (a8 (bK (c2 ?_))));apply MQ∘oH;refine bQ L R rJ ?_;exact aZV):=h
def b8m(h:p:=by refine eP (hI (a8 (bK (c2 ?_))));apply dM∘vB;refine bQ L R BB ?_;exact aVk):=h
def aTd(h:p:=by have mX:=HV gM D;apply(D8);refine cX L R ?_;exact⟨by rw[x8,mX];rfl,rfl,rfl⟩):=h
def aTi(h:p:=by apply(FU);refine cX L R ?_;exact⟨by rw[Ph b2 mX (wH jT D (aKJ D))],rfl,rfl⟩):=h
def aTn(h:p:=by rw[pA]at K;obtain⟨p,aP,rfl⟩:=Option.map_eq_some_iff.1 K;exact(n7.ok v p aP).2):=h
def aTq(h:p:=by have mX:=HV gM D;apply(D8);refine cX L R ?_;exact⟨by rw[HJ,mX];rfl,rfl,rfl⟩):=h
def aQs(h:p:=by apply(D8);refine cX L R ?_;exact⟨by rw[b0l D D (λj a6=>hC j D)],rfl,rfl⟩):=h
def aQv(h:p:=by apply(FU);refine cX L R ?_;exact⟨by rw[Qt b2 (wH gM D (aVf K D))],rfl,rfl⟩):=h
def aQw(h:p:=by have tV:=y1 jT D;apply(D8);refine cX L R ?_;exact⟨by rw[M,tV];rfl,rfl,rfl⟩):=h
def aQA(h:p:=by apply(vY);refine cX L R ?_;exact⟨by rw[M,yT jT bM (if_pos n8)];rfl,rfl,rfl⟩):=h
def aQF(h:p:=by apply(D8);refine cX L R ?_;exact⟨by rw[aZF M (λj a6=>hC j D)],rfl,rfl⟩):=h
def b7A(h:p:=by apply(kM);refine cX L R ?_;exact⟨by rw[sT,if_neg D,if_pos D],rfl,rfl⟩):=h
def a3O(h:p:=by refine mC [8] lE fM bI ?_;apply mR∘YW;rintro v E G ⟨QB,rfl,rfl,rX⟩;(replace rX:=rX.symm;subst rX);exact(gJ∘a0A) a3P):=h
def aCL(h:p:=by apply gJ∘a0A;refine mC [13] lE fM bI ?_;apply(mR);refine qJ rfl OY rfl rfl ?_;rintro v E G ⟨gQ,rfl,rfl,kO⟩;(replace kO:=kO.symm;subst kO);exact(gJ) a3P):=h
def aCN(h:p:=by apply(gJ);refine mC [11] lE fM bI ?_;apply mR∘NK;rintro v E G ⟨xB,rfl,rfl,k8⟩;(replace k8:=k8.symm;subst k8);exact(gJ∘a0A) a3P):=h
def aCP(h:p:=by apply(gJ);refine mC [3] lE fM bI ?_;apply mR∘NJ;rintro v E G ⟨y4,rfl,rfl,l4⟩;(replace l4:=l4.symm;subst l4);exact(gJ∘a0A) a3P):=h
def a3S(h:p:=by(iterate 4 apply(iU));apply(k1);(iterate 14 apply(iU));apply(l2);refine vS rfl ?_;exact(dC∘K2) Nx):=h
def a3U(h:p:=by(iterate 4 apply(iU));apply(k1);(iterate 14 apply(iU));apply(l2);refine vS rfl ?_;exact(dC∘JU) Nx):=h
def b7E(h:p:=by(have C6:b=true:=by cases b with|true=>rfl|false=>simp at h1);have Tv:=(YG _ _ _ _ (kX.A9 C6)).1;rw[kX.A9 C6]at qU;dsimp only at qU;(rw[if_pos (by rw[C6]at h1;simp at h1;omega)]at qU);apply NC∘j3;refine dT rfl (c6 (m-1) _ D D D) rfl ?_;rintro v E G ⟨f,q,eH,rfl,Et,rfl,rfl⟩;have b2h:=Et.tT;refine aI iL rfl ?_;exact b8u):=h
def b7F(h:p:=by have K:=bJ (l:=p.c3.l) (k:=k) default D;have b3e:=aKH aP cJ k D;have rZ:=aP.qR _ _ K;have ES:=Yg rZ (p.c3.l.getD k default).state q;apply j9∘GO∘SO;intro h6;exact(sI∘e7∘r5∘gK) b7w):=h
def b7I(h:p:=by refine bK ?_;refine gZ N [0,1,2,3,4,5,6,7,8,9,10,11,12,13] _ dO bI hA ?_;apply l1∘Mv∘Bj∘l1∘Mv∘k4∘hK;refine lW rfl b73 ?_;apply(qH);intro Eh;exact b7t):=h
def b7K(h:p:=by apply(eB);(iterate 4 apply(lX));apply(cE);refine aI jV rfl ?_;apply l6∘aZ5;rintro v E G ⟨rfl,rfl⟩;refine aI jV rfl ?_;apply l6∘aYD;rintro v E G ⟨rfl,rfl⟩;refine aI jV rfl ?_;exact b7L):=h
def Ny(h:p:=by apply(SJ);refine lG L R ?_;exact MK):=h
def Ce(h:p:=by intro gH;replace gH:=bB gH;exact O1):=h
def Ic(h:p:=by intro oL;replace oL:=bB oL;exact a3Y):=h
def aRz(h:p:=by apply n9∘JP;refine bQ L R kS ?_;exact MK):=h
def Nz(h:p:=by intro eR;replace eR:=bB eR;exact O1):=h
def Wz(h:p:=by intro eR;replace eR:=bB eR;exact(fD) KV):=h
def aCX(h:p:=by apply(pR);(iterate 3 apply(e7));exact(SI) E2):=h
def Oa(h:p:=by refine cX L R ?_;exact MK):=h
def aRM(h:p:=by intro eR;replace eR:=bB eR;have EL:=bJ (l:=l.l) (k:=1) 0 D;exact(pR∘gU∘Zs∘jG∘A5∘k3) DU):=h
def aRQ(h:p:=by apply(p8);refine bQ L R MO ?_;(have W:rV s c.l aA.l r p t=8:=by rw[rV,if_neg aQ,if_neg D,if_neg a16,if_pos Cg]);exact aRv):=h
def Xc(h:p:=by apply(fD);refine cD rfl Xj ?_;exact I0):=h
def a4d(h:p:=by intro eR;replace eR:=bB eR;exact(gK) UM):=h
def aR1(h:p:=by apply(gJ);refine mC [3] LR fM bI ?_;apply mR∘aFp;rintro v E G ⟨a2N,rfl,a2l,rfl,rfl⟩;exact aRd):=h
def aR6(h:p:=by apply dC∘dZ;intro a1E;apply(j8);refine aI b7J rfl ?_;apply(CQ);refine bQ L R (sD rfl Xb) ?_;exact MK):=h
def aSc(h:p:=by apply(p8);refine bQ L R MO ?_;(have W:rV s c.l aA.l r p t=10:=by rw[rV,if_neg aQ,if_pos D]);exact aRv):=h
def aSf(h:p:=by intro J4;replace J4:=bB J4;have dG:=bJ (l:=x.l) (k:=d.zJ.toNat) default D;exact(yY∘aZy∘VP) E2):=h
def aSj(h:p:=by intro gH;replace gH:=bB gH;have EL:=bJ (l:=l.l) (k:=1) 0 D;exact(gU∘Zs∘jG∘A5) MI):=h
def aDd(h:p:=by(iterate 9 apply(iU));apply(l2);refine vS rfl ?_;exact aRF):=h
def aSp(h:p:=by apply dC∘dZ;intro a1E;apply j8∘A4∘CQ;refine bQ L R kS ?_;exact MK):=h
def aSt(h:p:=by rintro v E G ⟨z,ok,rfl,kN,rfl,rfl⟩;obtain⟨rfl,rfl⟩:=aDu (aDF h.c8 false (Int.toNat k)) kN;exact MK):=h
def aSx(h:p:=by rintro v E G ⟨z,ok,rfl,kN,rfl,rfl⟩;obtain⟨rfl,rfl⟩:=aDu (aDF h.c8 true (Int.toNat k)) kN;exact MK):=h
def aSA(h:p:=by apply(wW);(have hE:=J.qX (f:=bS.cells) (aN:=5) (p:=p) (i:=s.toNat) (x:=⟨x.bG,x.cZ,x.c1,true,x.bY⟩) bD iF);have B3:(p.l.set s.toNat ⟨x.bG,x.cZ,x.c1,true,x.bY⟩)[s.toNat]?=some ⟨x.bG,x.cZ,x.c1,true,x.bY⟩:=tJ D;(have l5:=J.qX (f:=bS.cells) (aN:=5) (p:=⟨p.o,(p.l.set s.toNat ⟨x.bG,x.cZ,x.c1,true,x.bY⟩)⟩) (i:=s.toNat) (x:=⟨x.bG,t,x.c1,true,x.bY⟩) bD hE);have jL:((p.l.set s.toNat ⟨x.bG,x.cZ,x.c1,true,x.bY⟩).set s.toNat ⟨x.bG,t,x.c1,true,x.bY⟩)[s.toNat]?=some ⟨x.bG,t,x.c1,true,x.bY⟩:=tJ Xd;(have DA:=J.qX (f:=bS.cells) (aN:=5) (p:=⟨p.o,((p.l.set s.toNat ⟨x.bG,x.cZ,x.c1,true,x.bY⟩).set s.toNat ⟨x.bG,t,x.c1,true,x.bY⟩)⟩) (i:=s.toNat) (x:=⟨x.bG,t,0,true,x.bY⟩) bD l5);have fQ:(((p.l.set s.toNat ⟨x.bG,x.cZ,x.c1,true,x.bY⟩).set s.toNat ⟨x.bG,t,x.c1,true,x.bY⟩).set s.toNat ⟨x.bG,t,0,true,x.bY⟩)[s.toNat]?=some ⟨x.bG,t,0,true,x.bY⟩:=tJ aCR;(have B4:=J.qX (f:=bS.cells) (aN:=5) (p:=⟨p.o,(((p.l.set s.toNat ⟨x.bG,x.cZ,x.c1,true,x.bY⟩).set s.toNat ⟨x.bG,t,x.c1,true,x.bY⟩).set s.toNat ⟨x.bG,t,0,true,x.bY⟩)⟩) (i:=s.toNat) (x:=⟨x.bG,t,0,true,false⟩) bD DA);exact b7K):=h
def aDj(h:p:=by apply(gJ);refine mC [5] lE fM bI ?_;apply mR∘YI;rintro v E G ⟨A6,fI,rfl,y7,S5,l5,EO,rfl,rfl⟩;refine⟨bA,iQ,?_⟩;exact(YE∘YF) a3O):=h
def b78(h:p:=by apply(mR);refine qJ rfl OY rfl rfl ?_;rintro v E G ⟨gQ,rfl,rfl,kO⟩;(replace kO:=kO.symm;subst kO);exact(gJ) a3O):=h
def b79(h:p:=by apply mR∘NK;rintro v E G ⟨xB,rfl,rfl,k8⟩;(replace k8:=k8.symm;subst k8);exact(gJ) a3O):=h
def b8a(h:p:=by apply(NJ);rintro v E G ⟨y4,rfl,rfl,l4⟩;(replace l4:=l4.symm;subst l4);exact(gJ) a3O):=h
def b8b(h:p:=by apply mR∘YW;rintro v E G ⟨QB,rfl,rfl,rX⟩;(replace rX:=rX.symm;subst rX);exact aCP):=h
def b8c(h:p:=by apply(YW);rintro v E G ⟨QB,rfl,rfl,rX⟩;(replace rX:=rX.symm;subst rX);exact aCL):=h
def b8e(h:p:=by apply(YW);rintro v E G ⟨QB,rfl,rfl,rX⟩;(replace rX:=rX.symm;subst rX);exact aCN):=h
def b8f(h:p:=by apply(mR);refine qJ rfl OY rfl rfl ?_;rintro v E G ⟨gQ,rfl,rfl,kO⟩;(replace kO:=kO.symm;subst kO);exact aCN):=h
def b8j(h:p:=by apply(mR);refine qJ rfl OY rfl rfl ?_;rintro v E G ⟨gQ,rfl,rfl,kO⟩;(replace kO:=kO.symm;subst kO);exact aCP):=h
def b8n(h:p:=by apply mR∘NK;rintro v E G ⟨xB,rfl,rfl,k8⟩;(replace k8:=k8.symm;subst k8);exact aCP):=h
def b8o(h:p:=by apply(NK);rintro v E G ⟨xB,rfl,rfl,k8⟩;(replace k8:=k8.symm;subst k8);exact aCL):=h
def b8q(h:p:=by apply(NJ);rintro v E G ⟨y4,rfl,rfl,l4⟩;(replace l4:=l4.symm;subst l4);exact aCL):=h
def b8r(h:p:=by apply(NJ);rintro v E G ⟨y4,rfl,rfl,l4⟩;(replace l4:=l4.symm;subst l4);exact aCN):=h
def b8v(h:p:=by apply(mR);refine qJ rfl OY rfl rfl ?_;rintro v E G ⟨gQ,rfl,rfl,kO⟩;(replace kO:=kO.symm;subst kO);exact aDj):=h
def b7r(h:p:=by apply mR∘NK;rintro v E G ⟨xB,rfl,rfl,k8⟩;(replace k8:=k8.symm;subst k8);exact aDj):=h
def aY(h:p:=by exact show _=Value.bool _ from rfl):=h
def Ie(h:p:=by exact show _=Value.int _ _ from rfl):=h
def aCV(h:p:=by exact show _=Value.slice _ _ _ from rfl):=h
def Ih(h:p:=by exact K0 (row:=[_,_,_,_,_,_,_,_,_,_,_,_,_,_,_,_,_,_,_,_,_,_,_]) N rfl rfl rfl n0 aB aB):=h
def Ii(h:p:=by exact K0 (row:=[_,_,_]) N rfl rfl rfl n0 aB aB):=h
def Xa(h:p:=by exact K0 (row:=[_,_]) N rfl rfl rfl n0 aB aB):=h
def Xb(h:p:=by exact K0 (row:=[_,_,_,_,_]) N rfl rfl rfl n0 aB aB):=h
def mM(h:p:=by exact u4 (row:=[_,_,_]) N rfl rfl rfl n0 aB aB):=h
def xR(h:p:=by exact u4 (row:=[_,_,_,_,_,_,_,_,_,_,_,_,_,_,_,_,_,_,_,_,_,_,_]) N rfl rfl rfl n0 aB aB):=h
def q1(h:p:=by exact u4 (row:=[_,_,_,_,_,_,_,_]) N rfl rfl rfl n0 aB aB):=h
def DT(h:p:=by exact u4 (row:=[_,_,_,_,_]) N rfl rfl rfl n0 aB aB):=h
def aR7(h:p:=by exact K0 (row:=[_,_,_,_]) N rfl rfl rfl n0 aB aB):=h
def Oe(h:p:=by exact oU (iD:=[(0,(Value.int _ _).cells.toList),(1,(Value.int _ _).cells.toList)]) (dD:=[_,_]) N rfl rfl rfl rfl):=h
def O2(h:p:=by exact tK N (p) rfl rfl rfl cF bR bD bR aB):=h
def eN(h:p:=by exact n1 _):=h
def Xe(h:p:=by exact I5 (iD:=[(0,(Value.int _ _).cells.toList),(1,(Value.int _ _).cells.toList)]) (dD:=[_,_]) N rfl rfl rfl rfl rfl rfl rfl):=h
def mA(h:p:=by exact aT (.head _)):=h
def p2(h:p:=by exact aVS n0 rfl rfl):=h
def Xf(h:p:=by exact I5 (iD:=[(0,(Value.agg _).cells.toList)]) (dD:=[_,_,_,_]) N rfl rfl rfl rfl rfl rfl rfl):=h
def a4i(h:p:=by exact oU (iD:=[(0,(Value.slice _ _ _).cells.toList),(1,(Value.slice _ _ _).cells.toList)]) (dD:=[_,_]) N rfl rfl rfl rfl):=h
def Xg(h:p:=by exact I5 (iD:=[(0,(Value.agg _).cells.toList)]) (dD:=[_,_,_]) N rfl rfl rfl rfl rfl rfl rfl):=h
def yG(h:p:=by exact aUu N rfl rfl rfl):=h
def xS(h:p:=by exact a5Q N rfl rfl rfl):=h
def Il(h:p:=by exact oU (iD:=[]) (dD:=[_,_,_]) N rfl rfl rfl rfl):=h
def X6(h:p:=by exact u4 (row:=[_,_]) N rfl rfl rfl n0 aB aB):=h
def I1(h:p:=by exact MS N rfl rfl rfl n0 aB):=h
def iL(h:p:=by exact CH rfl):=h
def aS3(h:p:=by exact aE8 a s k (ps.l.getD (a.aC.aJ.l.getD k default).cR.toNat 0-ps.l.getD (a.aC.aJ.l.getD k default).to.toNat 0) _ _ a3 aH bT aF D):=h
def aS8(h:p:=by exact aKf a s k (ps.l.getD (a.aC.aJ.l.getD k default).cR.toNat 0-ps.l.getD (a.aC.aJ.l.getD k default).to.toNat 0) _ _ a3 aH bT aF D):=h
def q2(h:p:=by exact aVY rfl rfl):=h
def jV(h:p:=by exact aTF rfl):=h
def a4k(h:p:=by exact I5 (iD:=[(0,(Value.agg _).cells.toList)]) (dD:=[_,_]) N rfl rfl rfl rfl rfl rfl rfl):=h
def a4l(h:p:=by exact I5 (iD:=[(0,(Value.int _ _).cells.toList)]) (dD:=[_]) N rfl rfl rfl rfl rfl rfl rfl):=h
def OY(h:p:=by exact aFG N rfl):=h
def aCJ(h:p:=by exact I5 (iD:=[(0,(Value.agg _).cells.toList),(1,(Value.agg _).cells.toList)]) (dD:=[_,_,_,_]) N rfl rfl rfl rfl rfl rfl rfl):=h
def b7v(h:p:=by exact oU (iD:=[(0,(Value.int _ _).cells.toList),(1,(Value.int _ _).cells.toList),(2,(Value.int _ _).cells.toList),(3,(Value.int _ _).cells.toList),(4,(Value.int _ _).cells.toList)]) (dD:=[_,_,_,_,_]) N rfl rfl rfl rfl):=h
def Cc(h:p:=by exact show _=Value.pointer _ from rfl):=h
def aQC(h:p:=by exact Qh c.target (s.cO.l.length:Int) _ _):=h
def aQH(h:p:=by exact oU (iD:=[(0,(Value.agg _).cells.toList),(1,(Value.slice _ _ _).cells.toList),(2,(Value.slice _ _ _).cells.toList),(4,(Value.slice _ _ _).cells.toList)]) (dD:=[_,_,_,_,_,_,_,_]) N rfl rfl rfl rfl):=h
def Ww(h:p:=by exact jA N (p) _ rfl rfl rfl rfl bR (i:=s.toNat) dA jC):=h
def BA(h:p:=by exact aUT rfl rfl):=h
def aCM(h:p:=by exact I5 (iD:=[(0,(Value.agg _).cells.toList)]) (dD:=[_,_,_,_,_]) N rfl rfl rfl rfl rfl rfl rfl):=h
def aQW(h:p:=by exact oU (iD:=[(0,(Value.int _ _).cells.toList),(1,(Value.int _ _).cells.toList),(2,(Value.int _ _).cells.toList),(3,(Value.int _ _).cells.toList)]) (dD:=[_,_,_,_]) N rfl rfl rfl rfl):=h
def X0(h:p:=by exact aT (.tail _ (.head _))):=h
def aQ4(h:p:=by exact j5 N ((⟨wF,(cs.set k ⟨h7.off,-1,h7.i4⟩).set k ⟨true,-1,h7.i4⟩⟩:J b8)) (⟨true,-1,R3⟩) rfl rfl rfl rfl cF bR bD bR aW aB aB):=h
def Ib(h:p:=by exact ZE (f:=jJ) (x:=false) rfl _):=h
def Wx(h:p:=by exact aTV N rfl rfl rfl rfl rfl rfl rfl D D):=h
def aRh(h:p:=by exact oU (iD:=[(0,(Value.int _ _).cells.toList),(1,(Value.int _ _).cells.toList),(2,(Value.slice _ _ _).cells.toList)]) (dD:=[_,_,_]) N rfl rfl rfl rfl):=h
def b7J(h:p:=by exact oU (iD:=[(0,(Value.int _ _).cells.toList),(1,(Value.int _ _).cells.toList),(2,(Value.int _ _).cells.toList)]) (dD:=[_,_,_,_,_]) N rfl rfl rfl rfl):=h
def E0(h:p:=by exact aVh rfl rfl):=h
def E1(h:p:=by exact b0u rfl rfl):=h
def Cf(h:p:=by exact show wG s=wG s' from h):=h
def G4(h:p:=by exact aWL rfl rfl):=h
def aRA(h:p:=by exact j5 N ((⟨wF,cs.set k ⟨h7.off,-1,h7.i4⟩⟩:J b8)) (⟨true,-1,h7.i4⟩) rfl rfl rfl rfl cF bR bD bR aW aB aB):=h
def aCW(h:p:=by exact jA N ((⟨eY.o,y5⟩:J b8)) _ rfl rfl rfl rfl bR (i:=fZ) dA jC):=h
def aRE(h:p:=by exact tK N ((⟨p.o,(Y.set z.toNat ⟨x.bG,x.cZ,x.c1,x.eJ,true⟩)⟩:J bS)) rfl rfl rfl cF bR bD bR aB):=h
def a39(h:p:=by exact u4 (row:=[_,_,_,_]) N rfl rfl rfl n0 aB aB):=h
def KT(h:p:=by exact aVA rfl rfl):=h
def KU(h:p:=by exact a54 rfl rfl):=h
def Ob(h:p:=by exact aTN x _ _ (.of eT K) bO):=h
def aRT(h:p:=by exact oU (iD:=[(0,(Value.bool _).cells.toList),(1,(Value.int _ _).cells.toList)]) (dD:=[_,_,_]) N rfl rfl rfl rfl):=h
def aRX(h:p:=by exact j5 N ((⟨wF,cs⟩:J b8)) (⟨h7.off,-1,h7.i4⟩) rfl rfl rfl rfl cF bR bD bR aW aB aB):=h
def aR2(h:p:=by exact j5 N ((⟨wF,cs⟩:J b8)) (⟨h7.off,t,h7.i4⟩) rfl rfl rfl rfl cF bR bD bR aW aB aB):=h
def aR8(h:p:=by exact tK N ((⟨wF,cs.set k ⟨h7.off,-1,h7.i4⟩⟩:J b8)) rfl rfl rfl cF bR bD bR aB):=h
def b7W(h:p:=by exact a6i c.nF _ _):=h
def aSg(h:p:=by exact j5 N (p) (⟨x.bG,x.cZ,t,x.eJ,x.bY⟩) rfl rfl rfl rfl cF bR bD bR aW aB aB):=h
def b7Y(h:p:=by exact Qh c.target (s.b0.aC.aJ.l.length:Int) _ _):=h
def b71(h:p:=by exact aVH (p.c3.l.getD k default).qR (p.c3.l.getD k default).state q _ _ (a3.b1q K) rZ cJ):=h
def b73(h:p:=by exact aVu (a.c3.l.getD k default) (s.c3.l.getD k 0) q _ _ (uV.qR K) rZ cJ (aF.qR _ _ aS)):=h
def X4(h:p:=by exact bJ default D):=h
def aSy(h:p:=by exact a6y (⟨s,t,h,x.eK,dK.V,fO,jK,iE,(bP g p t).aD,q.V⟩:cL) g.b0 _ _ KB uS):=h
def aSC(h:p:=by exact r9 (f:=bS.cells) (xs:=f.aZ) N rfl rfl rfl aW rfl rfl (jB) bD D):=h
def b77(h:p:=by exact a6K c.nF _ _):=h
def aSJ(h:p:=by exact tK N ((⟨.own C2 l.l.length [],vs⟩:J Int)) rfl rfl rfl cF bR bD bR aB):=h
def UK(h:p:=by exact aVc rfl rfl):=h
def Om(h:p:=by exact aTT g p x t _ _ K):=h
def Xj(h:p:=by exact b0q _ _ _ _ _):=h
def Xm(h:p:=by exact show _=gS by rw[BZ]):=h
def Ou(h:p:=by exact aVV N rfl rfl rfl):=h
def aS4(h:p:=by exact show _=S0 h6 gQ eS n xM ps.l u L (ps.l.getD u.toNat 0)from by rw[S0,Dk];rfl):=h
def aS9(h:p:=by exact Yi (m:=gI.l.length-400) (aN:=4) (u:=gI.V) N rfl rfl rfl rfl D D aCS rfl):=h
def aTb(h:p:=by exact aG9 p (ps.l.getD p.cV.cR.toNat 0-ps.l.getD p.cV.to.toNat 0) _ _ aAr c5.ok):=h
def aTf(h:p:=by exact aEj p (ps.l.getD p.cV.cR.toNat 0-ps.l.getD p.cV.to.toNat 0) _ _ aAr c5.ok):=h
def aTk(h:p:=by exact oU (iD:=[(0,(Value.int _ _).cells.toList)]) (dD:=[_,_,_,_]) N rfl rfl rfl rfl):=h
def aTo(h:p:=by exact oU (iD:=[(0,(Value.agg _).cells.toList)]) (dD:=[_,_,_,_]) N rfl rfl rfl rfl):=h
def a3K(h:p:=by exact show¬a.p.kind=3 from dX):=h
def aQt(h:p:=by exact r9 (f:=bC.cells) (xs:=aA) N rfl rfl rfl aW rfl rfl (gA) bD D):=h
def a3L(h:p:=by exact a7J g p x t _ _ eT K bO fH):=h
def aQy(h:p:=by exact r9 (f:=b8.cells) (xs:=c) N rfl rfl rfl aW rfl rfl (AN) bD D):=h
def aQD(h:p:=by exact oU (iD:=[(1,(Value.bool _).cells.toList)]) (dD:=[_,_]) N rfl rfl rfl rfl):=h
def aQI(h:p:=by exact r9 (f:=b8.cells) (xs:=c) N rfl rfl rfl aW rfl rfl (cG) bD D):=h
def aQL(h:p:=by exact oU (iD:=[(0,(Value.int _ _).cells.toList)]) (dD:=[_]) N rfl rfl rfl rfl):=h
def aQN(h:p:=by exact i5 N rfl rfl rfl rfl (i:=(a.aC.aJ.l.getD k default).cR.toNat) dA D):=h
def aQR(h:p:=by exact i5 N rfl rfl rfl rfl (i:=(a.aC.aJ.l.getD k default).to.toNat) dA D):=h
def aQX(h:p:=by exact r9 (f:=a1) (xs:=f.a2) N rfl rfl rfl aW rfl rfl (o4) bD D):=h
def aQ0(h:p:=by exact show wL s.b0 s.cO.l fF=some (p5 x) by rw[wL,<-K,if_pos bL]):=h
def aQ5(h:p:=by exact i5 N rfl rfl rfl rfl (i:=(a.c3.l.getD k default).cV.toNat) dA D):=h
def aQ8(h:p:=by exact i5 N rfl rfl rfl rfl (i:=(m.aJ.l.getD k default).cR.toNat) dA D):=h
def aRc(h:p:=by exact i5 N rfl rfl rfl rfl (i:=(m.aJ.l.getD k default).to.toNat) dA D):=h
def aRi(h:p:=by exact r9 (f:=a1) (xs:=ps) N rfl rfl rfl aW rfl rfl (nE) bD D):=h
def aRk(h:p:=by exact tK N ((⟨wF,cs⟩:J b8)) rfl rfl rfl cF bR bD bR aB):=h
def aRo(h:p:=by exact r9 (f:=rL) (xs:=h) N rfl rfl rfl aW rfl rfl (b4) bD D):=h
def a33(h:p:=by exact a6O rfl rfl aW (aUV D)):=h
def a35(h:p:=by exact aTJ rfl rfl (aXg D D)):=h
def G5(h:p:=by exact aXa _ _):=h
def aCU(h:p:=by exact aU6 a.aC _ _ a3.T1 bH.aC):=h
def a37(h:p:=by exact show _=hG by rw[C5]):=h
def DS(h:p:=by exact I7 Ie):=h
def IZ(h:p:=by exact I7 aCV):=h
def kS(h:p:=by exact sD rfl Xa):=h
def aRN(h:p:=by exact Qm g p (⟨s,x.time,h,x.eK,dK.V,w,c,f,x.aD,c9.V⟩:cL) c9 i1 t _ _ eT BW (fE.aK.mono lS) mA (fE.eG.mono lS) (fE.aV.mono lS) (fE.cU.mono lS) fE.OE fH):=h
def RJ(h:p:=by exact I7 aY):=h
def aRU(h:p:=by exact pO (f:=a1) (p:=lV) (a:=CW x.aK.cO.l x.c7.l x.time 6 (j:Int) ((x.aK.b0.cM.l.getD j default).hS.l.length:Int)) N rfl rfl rfl rfl (GC) cF p2 rfl qI):=h
def oS(h:p:=by exact CH aCV):=h
def aR3(h:p:=by exact jA N ((⟨.own AG a.aC.aJ.l.length [],l⟩:J bC)) _ rfl rfl ((show _=Value.slice _ _ _ from rfl).trans (w6 pW)) rfl bR (i:=P.pY.toNat) dA jC):=h
def aR9(h:p:=by exact jA N ((⟨.own xB aA.l.length [],Z⟩:J Bool)) _ rfl rfl ((show _=Value.slice _ _ _ from rfl).trans (w6 iX)) rfl bR (i:=s.target.toNat) dA jC):=h
def aSd(h:p:=by exact jA N ((⟨.own C2 l.l.length [],vs⟩:J Int)) _ rfl rfl ((show _=Value.slice _ _ _ from rfl).trans (w6 uX)) rfl bR (i:=x.left.toNat) dA jC):=h
def aSh(h:p:=by exact jA N ((⟨xM,l⟩:J Bool)) _ rfl rfl ((show _=Value.slice _ _ _ from rfl).trans (by simp only[J.val,pW])) rfl bR (i:=r.cR.toNat) dA jC):=h
def aSk(h:p:=by exact jA N ((⟨wF,cs⟩:J b8)) _ rfl rfl ((show _=Value.slice _ _ _ from rfl).trans (by simp only[J.val,tX])) rfl bR (i:=k) dA jC):=h
def aSm(h:p:=by exact jA N ((⟨.own C2 l.l.length [],vs⟩:J Int)) _ rfl rfl ((show _=Value.slice _ _ _ from rfl).trans (w6 uX)) rfl bR (i:=k) dA jC):=h
def aSq(h:p:=by exact jA N ((⟨.own b w.l.length [],vs⟩:J Int)) _ rfl rfl ((show _=Value.slice _ _ _ from rfl).trans (w6 uX)) rfl bR (i:=k) dA jC):=h
def aSu(h:p:=by exact jA N ((⟨OJ,pC⟩:J bC)) _ rfl rfl ((show _=Value.slice _ _ _ from rfl).trans aRC) rfl bR (i:=s.target.toNat) dA jC):=h
def aSz(h:p:=by exact jA N ((⟨yD,pC⟩:J bC)) _ rfl rfl ((show _=Value.slice _ _ _ from rfl).trans aRC) rfl bR (i:=s.target.toNat) dA jC):=h
def aSD(h:p:=by exact pO (f:=a1) (p:=iO) (a:=CW x.aK.cO.l x.c7.l x.time 5 (k:Int) 3) N rfl rfl rfl rfl (TH) cF p2 rfl qI):=h
def zS(h:p:=by exact CH Ie):=h
def zT(h:p:=by exact FB aCV):=h
def aSN(h:p:=by exact pO (f:=bC.cells) (a:=⟨_,_⟩) N rfl rfl rfl rfl (fO) cF p2 rfl qI):=h
def aSQ(h:p:=by exact pO (f:=a1) (a:=(k:Int)) N rfl rfl rfl rfl (gR) cF p2 rfl qI):=h
def oC(h:p:=by exact yK rfl Ih DS):=h
def rJ(h:p:=by exact yK rfl Ii DS):=h
def MO(h:p:=by exact yK rfl Xb DS):=h
def E3(h:p:=by exact a6o rfl IZ IZ DS):=h
def yH(h:p:=by exact yK rfl IZ DS):=h
def BB(h:p:=by exact yK rfl DS DS):=h
def KW(h:p:=by exact aIT rfl Xb IZ Ii DS):=h
def In(h:p:=by exact a6o rfl DS DS RJ):=h
def w2(h:p:=by exact sD rfl IZ):=h
def RG(h:p:=by exact yK rfl DS RJ):=h
def XY(h:p:=by exact yK rfl aR7 DS):=h
def XZ(h:p:=by exact a6o rfl DS Ii DS):=h
def aCK(h:p:=by exact aIT rfl Ii IZ IZ DS):=h
def OZ(h:p:=by exact sD rfl DS):=h
def Cd(h:p:=by exact yK rfl Xa DS):=h
def a3M(h:p:=by exact yK rfl Xa RJ):=h
def pL(h:p:=by first|exact j4 N rfl rfl rfl rfl i9 (i:=k) dA D|exact i5 N rfl rfl rfl rfl (i:=k) dA D):=h
def Wp(h:p:=by simp;exact pW):=h
def aQp(h:p:=by first|exact aVT rfl rfl D D D|exact aUL rfl rfl D D D|exact a5u rfl rfl D):=h
def sX(h:p:=by repeat(first|apply b8g|apply b8h|apply b8i)):=h
def Wq(h:p:=by rw[dG];decide):=h
def b7s(h:p:=by rw[R0,if_neg dY,if_pos Oh];rw[show h7.off=true by simpa using h2]):=h
def zR(h:p:=by simpa using aQ):=h
def Wr(h:p:=by first|exact aYo rfl rfl D D|exact aU9 rfl rfl D D|exact a4H rfl rfl):=h
def b7u(h:p:=by dsimp only;first|(rw[a6D cC];exact bA)|(rw[a7A cC];exact bA)):=h
def DO(h:p:=by repeat(first|exact trivial|refine⟨trivial,?_⟩)):=h
def Ws(h:p:=by first|exact aT1 D|rfl):=h
def aQx(h:p:=by first|exact j4 N rfl rfl rfl rfl i9 (i:=(a.aC.aJ.l.getD k default).cR.toNat) dA D|exact i5 N rfl rfl rfl rfl (i:=(a.aC.aJ.l.getD k default).cR.toNat) dA D):=h
def DP(h:p:=by simp only[maxLen];omega):=h
def Wt(h:p:=by first|exact U5 (row:=[_,_,_,_,_,_]) N rfl rfl rfl i9 bR aB aB|exact u4 (row:=[_,_,_,_,_,_]) N rfl rfl rfl n0 aB aB):=h
def aQB(h:p:=by first|exact j4 N rfl rfl rfl rfl i9 (i:=(a.aC.aJ.l.getD k default).to.toNat) dA D|exact i5 N rfl rfl rfl rfl (i:=(a.aC.aJ.l.getD k default).to.toNat) dA D):=h
def DQ(h:p:=by simp;omega):=h
def Wu(h:p:=by first|exact j4 N rfl rfl rfl rfl i9 (i:=fI) dA D|exact i5 N rfl rfl rfl rfl (i:=fI) dA D):=h
def aQG(h:p:=by first|exact j4 N rfl rfl rfl rfl i9 (i:=c.target.toNat) dA D|exact i5 N rfl rfl rfl rfl (i:=c.target.toNat) dA D):=h
def G1(h:p:=by repeat(first|apply kT.kR rfl|apply kT.x7 rfl|refine kT.zQ (t':=x7 _ _ _) rfl ?_|exact kT.refl)):=h
def Wv(h:p:=by first|exact j4 N rfl rfl rfl rfl i9 rfl D|exact i5 N rfl rfl rfl rfl rfl D):=h
def aQK(h:p:=by first|exact j4 N rfl rfl rfl rfl i9 (i:=r.first.toNat) dA D|exact i5 N rfl rfl rfl rfl (i:=r.first.toNat) dA D):=h
def G2(h:p:=by repeat(first|exact aJ7|apply aY1|apply aUF)):=h
def b7C(h:p:=by rintro⟨O,X⟩;have aU:=W5.1 O;first|omega|(have JZ:=aU.1;simp_all;done)|(have JZ:=aU.2.1;have NW:=aU.2.2;have nL:=aU.1;simp_all;done)):=h
def aQM(h:p:=by first|exact j4 N rfl rfl rfl rfl i9 (i:=x.bG.toNat) dA D|exact i5 N rfl rfl rfl rfl (i:=x.bG.toNat) dA D):=h
def MG(h:p:=by simpa using cC):=h
def aQP(h:p:=by repeat(first|exact kT.refl|apply kT.kR rfl|apply kT.x7 rfl|apply kT.zQ rfl|apply kT.left rfl|apply kT.b6j rfl)):=h
def aQQ(h:p:=by first|exact U5 (row:=[_,_,_,_,_]) N rfl rfl rfl i9 bR aB aB|exact u4 (row:=[_,_,_,_,_]) N rfl rfl rfl n0 aB aB):=h
def MH(h:p:=by simpa using bL):=h
def aQU(h:p:=by dsimp only;rw[<-ZE (f:=a1) (x:=(0:Int)) rfl];exact rH _):=h
def aQV(h:p:=by first|exact j4 N rfl rfl rfl rfl i9 (i:=x.cond.toNat) dA D|exact i5 N rfl rfl rfl rfl (i:=x.cond.toNat) dA D):=h
def KR(h:p:=by(repeat(first|apply List.Sublist.cons (a:=bN.mk n3 _ _)|apply List.Sublist.cons (a:=bN.mk rU _ _)|apply List.Sublist.cons_cons));exact rH _):=h
def a3Q(h:p:=by simp only[Hw];exact .inr (List.mem_append.1 h)):=h
def aQZ(h:p:=by first|exact U5 (row:=[_,_,_]) N rfl rfl rfl i9 bR aB aB|exact u4 (row:=[_,_,_]) N rfl rfl rfl n0 aB aB):=h
def KS(h:p:=by repeat(first|apply HI.lT|apply HI.cons|apply HI.s7)):=h
def a3T(h:p:=by simp only[wD,UH];omega):=h
def aQ3(h:p:=by first|exact j4 N rfl rfl rfl rfl i9 (i:=k.toNat) dA D|exact i5 N rfl rfl rfl rfl (i:=k.toNat) dA D):=h
def a3V(h:p:=by dsimp only;rw[cT];exact bV):=h
def a3W(h:p:=by rw[BZ];exact .tail _ (.tail _ (.head _))):=h
def aQ7(h:p:=by first|exact j4 N rfl rfl rfl rfl i9 (i:=i.toNat) dA D|exact i5 N rfl rfl rfl rfl (i:=i.toNat) dA D):=h
def MJ(h:p:=by cases h):=h
def a3X(h:p:=by rw[C5];exact .tail _ (.tail _ (.head _))):=h
def aRb(h:p:=by first|exact j4 N rfl rfl rfl rfl i9 (i:=a.toNat) dA D|exact i5 N rfl rfl rfl rfl (i:=a.toNat) dA D):=h
def b7G(h:p:=by rw[P6];omega):=h
def aCR(h:p:=by rw[q0,q0];omega):=h
def aRg(h:p:=by first|exact j4 N rfl rfl rfl rfl i9 (i:=n.toNat) dA D|exact i5 N rfl rfl rfl rfl (i:=n.toNat) dA D):=h
def O0(h:p:=by first|exact j4 N rfl rfl rfl rfl i9 (i:=fF) dA D|exact i5 N rfl rfl rfl rfl (i:=fF) dA D):=h
def aCS(h:p:=by show gI.l.length-400<=gI.l.length;omega):=h
def aRj(h:p:=by first|exact j4 N rfl rfl rfl rfl i9 (i:=k+1) dA D|exact i5 N rfl rfl rfl rfl (i:=k+1) dA D):=h
def X1(h:p:=by first|exact aYI rfl rfl|exact aXY rfl rfl|exact aGJ rfl):=h
def a30(h:p:=by rw[ZR];exact .tail _ (.tail _ M)):=h
def aRn(h:p:=by first|exact j4 N rfl rfl rfl rfl i9 (i:=fZ) dA D|exact i5 N rfl rfl rfl rfl (i:=fZ) dA D):=h
def a31(h:p:=by first|(cases h;done)|(have c4:=of_decide_eq_true h;omega)|(have c4:=of_decide_eq_false h;omega)|omega):=h
def a32(h:p:=by rw[C5];exact .tail _ (.head _)):=h
def aRr(h:p:=by first|exact j4 N rfl rfl rfl rfl i9 (i:=o5) dA D|exact i5 N rfl rfl rfl rfl (i:=o5) dA D):=h
def X2(h:p:=by dsimp only;rw[mE,nN];exact rH _):=h
def a34(h:p:=by rw[Wl,bT]):=h
def aRu(h:p:=by first|exact j4 N rfl rfl rfl rfl i9 (i:=1) dA D|exact i5 N rfl rfl rfl rfl (i:=1) dA D):=h
def a36(h:p:=by rw[F8];exact .head _):=h
def Cg(h:p:=by simpa using dX):=h
def aCT(h:p:=by rw[NX.a71];decide):=h
def Ig(h:p:=by simpa using dY):=h
def aRC(h:p:=by simp only[J.val,k6]):=h
def X3(h:p:=by dsimp only;rw[mE,nN];exact bA):=h
def a38(h:p:=by first|exact aYi N rfl rfl rfl D D|exact b0z N rfl rfl rfl D D|exact a6j N rfl rfl rfl):=h
def Ch(h:p:=by(repeat(first|apply List.Sublist.cons (a:=bN.mk eD _ _)|apply List.Sublist.cons_cons));exact rH _):=h
def b7R(h:p:=by dsimp only;rw[cT];first|exact bV|(rw[<-a3r];exact bV)):=h
def Ci(h:p:=by simp only[wD]at a3;omega):=h
def b7S(h:p:=by first|exact aTC aP D D|exact aTx aP D D cJ D):=h
def Cj(h:p:=by first|exact aKY N rfl rfl rfl i9 bR aB|exact MS N rfl rfl rfl n0 aB|exact MS N rfl rfl rfl n0 (aFe bR)|exact MS N rfl rfl rfl n0 (a46 bD bR rfl)):=h
def a4a(h:p:=by first|exact aHw rfl rfl D D|exact aHC rfl rfl):=h
def D(h:p:=by omega):=h
def Ck(h:p:=by first|exact U5 (row:=[_,_,_,_,_,_,_,_]) N rfl rfl rfl i9 bR aB aB|exact u4 (row:=[_,_,_,_,_,_,_,_]) N rfl rfl rfl n0 aB aB):=h
def a4c(h:p:=by first|exact U5 (row:=[_,_,_,_]) N rfl rfl rfl i9 bR aB aB|exact u4 (row:=[_,_,_,_]) N rfl rfl rfl n0 aB aB):=h
def aB(h:p:=by rfl):=h
def Cl(h:p:=by first|exact j4 N rfl rfl rfl rfl i9 (i:=j) dA D|exact i5 N rfl rfl rfl rfl (i:=j) dA D):=h
def aC7(h:p:=by first|exact j4 N rfl rfl rfl rfl i9 (i:=p.toNat) dA D|exact i5 N rfl rfl rfl rfl (i:=p.toNat) dA D):=h
def bI(h:p:=by kernel_rfl):=h
def aRW(h:p:=by simp[z0,Pc]):=h
def a4e(h:p:=by first|exact j4 N rfl rfl rfl rfl i9 (i:=s.toNat) dA D|exact i5 N rfl rfl rfl rfl (i:=s.toNat) dA D):=h
def Ij(h:p:=by exact aWa bD bR aW):=h
def a4f(h:p:=by first|exact j4 N rfl rfl rfl rfl i9 (i:=0) dA D|exact i5 N rfl rfl rfl rfl (i:=0) dA D):=h
def n0(h:p:=by repeat(first|exact ML|apply MM|apply MN)):=h
def Oc(h:p:=by first|(simp only[nN];done)|(simp only[nN];rfl)):=h
def aC9(h:p:=by(repeat(first|apply List.Sublist.cons (a:=bN.mk eH _ _)|apply List.Sublist.cons_cons));exact rH _):=h
def aW(h:p:=by decide):=h
def Od(h:p:=by simp only[wD]at GF;omega):=h
def aDa(h:p:=by first|(simp at bL;rw[DW];omega)|(simp at kL;rw[DW];omega)):=h
def bA(h:p:=by repeat(first|exact Cp _|exact Oo _|apply Im|apply Cq|apply Oq|apply Ot)):=h
def a4g(h:p:=by dsimp only;rw[DL];omega):=h
def aDb(h:p:=by rw[C5];exact .tail _ (.tail _ (.tail _ (.tail _ M)))):=h
def bV(h:p:=by repeat' (first|exact trivial|refine And.intro rfl ?_)):=h
def Xd(h:p:=by rw[q0];omega):=h
def aDc(h:p:=by rw[C5];exact .tail _ (.tail _ (.tail _ (.head _)))):=h
def bR(h:p:=by assumption):=h
def Of(h:p:=by rw[xQ]):=h
def aDe(h:p:=by first|exact aTD rfl rfl D D|exact aZG rfl rfl D D|exact a6m rfl rfl):=h
def cF(h:p:=by repeat(first|apply sA.cons|exact sA.lT|exact sA.A2|exact sA.at bR|apply sA.s7)):=h
def Og(h:p:=by simp at aQ;omega):=h
def aDf(h:p:=by first|exact U5 (row:=[_,_,_,_,_,_,_,_,_,_]) N rfl rfl rfl i9 bR aB aB|exact u4 (row:=[_,_,_,_,_,_,_,_,_,_]) N rfl rfl rfl n0 aB aB):=h
def dA(h:p:=by first|rfl|omega|(simp;omega)):=h
def Oh(h:p:=by simpa using h2):=h
def aDg(h:p:=by first|exact j4 N rfl rfl rfl rfl i9 (i:=(q.l.getD k 0).toNat) dA D|exact i5 N rfl rfl rfl rfl (i:=(q.l.getD k 0).toNat) dA D):=h
def Oi(h:p:=by simpa using h):=h
def aDh(h:p:=by first|exact j4 N rfl rfl rfl rfl i9 (i:=f.iA.l.length-1) dA D|exact i5 N rfl rfl rfl rfl (i:=f.iA.l.length-1) dA D):=h
def gW(h:p:=by repeat(first|exact kT.refl|apply kT.kR rfl|apply kT.x7 rfl|apply kT.zQ rfl|apply kT.left rfl)):=h
def aSB(h:p:=by dsimp only;rw[e];exact bA):=h
def aDi(h:p:=by first|exact j4 N rfl rfl rfl rfl i9 (i:=x.k5.toNat) dA D|exact i5 N rfl rfl rfl rfl (i:=x.k5.toNat) dA D):=h
def Oj(h:p:=by first|exact j4 N rfl rfl rfl rfl i9 (i:=z.toNat) dA D|exact i5 N rfl rfl rfl rfl (i:=z.toNat) dA D):=h
def aDk(h:p:=by first|exact j4 N rfl rfl rfl rfl i9 (i:=r.dN.toNat) dA D|exact i5 N rfl rfl rfl rfl (i:=r.dN.toNat) dA D):=h
def hO(h:p:=by dsimp only;omega):=h
def Ok(h:p:=by first|exact j4 N rfl rfl rfl rfl i9 (i:=g9) dA D|exact i5 N rfl rfl rfl rfl (i:=g9) dA D):=h
def aDl(h:p:=by first|exact j4 N rfl rfl rfl rfl i9 (i:=f.cV.toNat) dA D|exact i5 N rfl rfl rfl rfl (i:=f.cV.toNat) dA D):=h
def gD(h:p:=by simp only[mE,nN];rfl):=h
def Ol(h:p:=by first|exact j4 N rfl rfl rfl rfl i9 (i:=i) dA D|exact i5 N rfl rfl rfl rfl (i:=i) dA D):=h
def aDm(h:p:=by first|exact U5 (row:=[_,_]) N rfl rfl rfl i9 bR aB aB|exact u4 (row:=[_,_]) N rfl rfl rfl n0 aB aB):=h
def g2(h:p:=by simp):=h
def Xh(h:p:=by rw[pK,oB,pK];exact .tail _ M):=h
def aDo(h:p:=by first|exact j4 N rfl rfl rfl rfl i9 (i:=k-1) dA D|exact i5 N rfl rfl rfl rfl (i:=k-1) dA D):=h
def Xi(h:p:=by rw[BZ];exact .tail _ (.head _)):=h
def aSU(h:p:=by(repeat(first|apply List.Sublist.cons (a:=bN.mk ZH _ _)|apply List.Sublist.cons_cons));exact rH _):=h
def Xl(h:p:=by simp only[kV.kQ];omega):=h
def aSX(h:p:=by(repeat(first|apply List.Sublist.cons (a:=bN.mk JX _ _)|apply List.Sublist.cons_cons));exact rH _):=h
def jC(h:p:=by first|omega|(dsimp only;omega)|(dsimp only;rw[q0];omega)|(dsimp only;simp only[q0];omega)):=h
def Xn(h:p:=by simp only[J.val,pG,lY]):=h
def aSZ(h:p:=by(repeat(first|apply List.Sublist.cons (a:=bN.mk C2 _ _)|apply List.Sublist.cons_cons));exact rH _):=h
def iQ(h:p:=by first|exact n1 _|assumption|exact(λr h=>aT (by simp[h]))):=h
def Xp(h:p:=by rw[BZ];exact .head _):=h
def aS2(h:p:=by(repeat(first|apply List.Sublist.cons (a:=bN.mk i0 _ _)|apply List.Sublist.cons_cons));exact rH _):=h
def Xq(h:p:=by rw[C5];exact .head _):=h
def b8k(h:p:=by dsimp only;first|(rw[aHy aQ];exact rH _)|(rw[aHI aQ];exact rH _)):=h
def i9(h:p:=by first|assumption|exact X5 g2):=h
def Xr(h:p:=by first|exact b02|rfl):=h
def aTa(h:p:=by cases aX:x.bY<;>simp[aX]at dY|- <;>first|exact dY|omega):=h
def b8p(h:p:=by repeat(first|exact Ca _|refine b6P ?_|refine aOi ?_|refine KG ?_|refine b6Q ?_)):=h
def Xs(h:p:=by simpa using h1):=h
def aTe(h:p:=by first|(simp at cC;rw[DW];omega)|(simp at hM;rw[DW];omega)):=h
def qI(h:p:=by first|omega|(simp only[wD,UH,l9];omega)):=h
def Xt(h:p:=by rw[W];decide):=h
def aTj(h:p:=by simp only[wD,l9]at GF|-;omega):=h
def Xu(h:p:=by simpa using O):=h
def b8t(h:p:=by rintro⟨O,X⟩;first|omega|(rw[O]at hD;cases hD)):=h
inductive RK where
 |ty (t:TypeId)
 |mp (C4:Array MapEntry) (b8Y:Nat)
instance:Coe TypeId RK:=⟨.ty⟩
instance(n:Nat):OfNat RK n:=⟨.ty n⟩
structure bN where
 b:Nat
 cs:List Value
 T:RK
def RK.Mr(cs:List Value):RK->Obj
 | .ty t=>.cells cs.toArray t (0,0)
 | .mp C4 h7=>.map C4 h7
inductive fJ where
 |mk (aN:Nat) (a:Option Addr) (len cap:Nat) (rows:List (List Value)) (eU:List fJ)
def w9(a:Option Addr):Nat:=match a with|some x=>x.block|none=>0
def Ky(a:Option Addr):Nat:=match a with|some x=>x.off|none=>0
def n6(a:Option Addr)(aN i j:Nat):Nat:=Ky a+i*aN+j
inductive sB(w:World)(Z:Nat->Prop):fJ->Prop
 |mk {aN a len cap rows eU} (aX:rows.length=len) (cG:len<=cap) (a3:cap<9223372036854775808) (dH: ∀r∈rows,r.length=aN)
  (M:rows=[]\/∃b off,a=some ⟨b,off,none⟩/\Z b/\∀i j,i<len->j<aN->w.cell? ⟨b,off+i*aN+j,none⟩=(rows[i]?).bind (·[j]?))
  (aH:∀s∈eU,sB w Z s):sB w Z (.mk aN a len cap rows eU)
inductive Sub(s:fJ):fJ->Prop
 |lT:Sub s s
 |S3 {aN a len cap rows eU x} (h:x∈eU) (k:Sub s x):Sub s (.mk aN a len cap rows eU)
def aL(s:fJ)(R:List fJ):Prop:=∃r∈R,Sub s r
def sB.mono{w w':World}{Z I4:Nat->Prop}(n7:∀b,Z b->I4 b)(dH:∀b,Z b->w'.heap[b]?=w.heap[b]?){s:fJ}(h:sB w Z s):sB w' I4 s:=by
 induction h with
 |mk aX cG a3 vP M aH c6=>
  refine .mk aX cG a3 vP ?_ c6;rcases M with h|⟨b,off,bT,a5,JF⟩;·exact .inl h
  ·refine .inr ⟨b,off,bT,n7 b a5,λi j aE a6=> ?_⟩;rw[<-JF i j aE a6];exact World.cell?_of_block (w:=w) (dH b a5)
def sB.sub{w:World}{Z:Nat->Prop}{s r:fJ}(h:sB w Z r)(k:Sub s r):sB w Z s:=by
 induction k with
 |lT=>exact h
 |S3 K _ c6=>cases h with|mk _ _ _ _ _ aH=>exact c6 (aH _ K)
structure sZ(L:List bN)(Z:Nat->Prop)(R:List fJ)(w:World):Prop where
 nM:(L.map (·.b)).Nodup
 own:∀e∈L,w.heap[e.b]?=some (e.T.Mr e.cs)
 tZ:∀e∈L,¬Z e.b
 sM:∀b,Z b->b<w.heap.size
 o8:∀r∈R,sB w Z r
structure w3 where
 gV:World
 Vo:Nat->Prop
 aDr:Nat->Prop
structure aVt(c:w3)(w:World):Prop where
 os:w.os=c.gV.os
 tape:w.tape=c.gV.tape
 output:w.output=c.gV.output
 size:c.gV.heap.size<=w.heap.size
 block:∀b,b<c.gV.heap.size->¬c.Vo b->w.heap[b]?=c.gV.heap[b]?
 JY:∀a,w.frozen? a=c.gV.frozen? a
structure dQ(c:w3)(L:List bN)(R:List fJ)(w:World):Prop where
 Z:∃Z,sZ L Z R w/\∀b,Z b->c.aDr b\/c.gV.heap.size<=b\/c.Vo b
 own:∀e∈L,c.Vo e.b\/c.gV.heap.size<=e.b
 GM:aVt c w
def zF(L:List bN)(b:Nat):Prop:=∃e∈L,e.b=b
def dQ.XB{L:List bN}{Z:Nat->Prop}{R:List fJ}{w:World}(h:sZ L Z R w):dQ ⟨w,zF L,Z⟩ L R w:=
 ⟨⟨Z,h,λ_ a5=>.inl a5⟩,λe W=>.inl ⟨e,W,rfl⟩,⟨rfl,rfl,rfl,iK _,λ_ _ _=>rfl,λ_=>rfl⟩⟩
def sZ.lt{L Z R w}(h:sZ L Z R w){e:bN}(W:e∈L):e.b<w.heap.size:=by
 have:=h.own e W;rcases hF e.b w.heap.size with c4|c4;·exact c4
 ·simp[IV c4]at this
def dQ.trans{c:w3}{L E:List bN}{R G:List fJ}{Z:Nat->Prop}{w w':World}(h:dQ c L R w)
 (n7:∀b,Z b->c.aDr b\/c.gV.heap.size<=b\/c.Vo b) (k:dQ ⟨w,zF L,Z⟩ E G w'):dQ c E G w':=by
 obtain⟨⟨I4,b4,b7⟩,dG,aG⟩:=k;have inl:∀b,zF L b->c.Vo b\/c.gV.heap.size<=b:=λb ⟨e,W,a5⟩=>a5▸h.own e W;have DD:=h.GM.size;refine⟨⟨I4,b4,λb a5=>?_⟩,λe W=>?_,⟨aG.os.trans h.GM.os,aG.tape.trans h.GM.tape,aG.output.trans h.GM.output,G0 DD aG.size,λb a5 b1=>?_,λa=>(aG.JY a).trans (h.GM.JY a)⟩⟩;·
  rcases b7 b a5 with O|O|O;·exact n7 b O
  ·exact .inr (.inl (G0 DD O))
  ·
   rcases inl b O with X|X;·exact .inr (.inr X)
   ·exact .inr (.inl X)
 ·
  rcases dG e W with O|O;·exact inl _ O
  ·exact .inr (G0 DD O)
 ·
  rw[aG.block b (Wi a5 DD) (λaE=> ?_),h.GM.block b a5 b1];rcases inl b aE with X|X;·exact b1 X
  ·exact absurd X (Nat.not_le.2 a5)
def dQ.tI{c:w3}{L E:List bN}{R G:List fJ}{w:World}(h:dQ c L R w)(dI:E.Sublist L)(bO:∀r∈G,aL r R):dQ c E G w:=by obtain⟨⟨Z,b4,b7⟩,dG,aG⟩:=h;refine⟨⟨Z,⟨b4.nM.sublist (dI.map _),λe W=>b4.own e (dI.subset W),λe W=>b4.tZ e (dI.subset W),b4.sM,λr M=>?_⟩,b7⟩,λe W=>dG e (dI.subset W),aG⟩;obtain⟨aB4,QX,aH⟩:=bO r M;exact(b4.o8 aB4 QX).sub aH
def iT(t:Nat->Value):Operand->Value
 | .tmp k=>t k
 | .const v=>v
 | .global g=>.pointer (some ⟨g,0,none⟩)
 | .func f=>.func (.func f) #[] #[]
def SY{k d:Nat}(h:¬k=d):Nat.beq k d=false:=by
 cases a5:Nat.beq k d with
 |false=>rfl
 |true=>exact absurd (aCC a5) h
def kR(t:Nat->Value)(d:Nat)(v:Value):Nat->Value:=λk=>bif Nat.beq k d then v else t k
def xW(t:Nat->Value)(d:Option Tmp)(v:Value):Nat->Value:=
 match d with
 |some d=>kR t d v
 |none=>t
def S2(n:Nat)(d:Option Tmp):Bool:=
 match d with
 |some d=>Nat.blt d n
 |none=>true
structure mS(n:Nat)(t:Nat->Value)(a:Act):Prop where
 defers:a.defers=[]
 size:a.tmps.size=n
 val:∀k,a.tmps.getD k undef=t k
def mS.eval{n t a}(h:mS n t a):a.eval=iT t:=by
 funext x;cases x with
 |tmp k=>exact h.val k
 |_=>rfl
def mS.put{n t a}(h:mS n t a){d:Option Tmp}(bM:S2 n d=true)(v:Value):mS n (xW t d v) (a.put d v):=by
 cases d with
 |none=>exact h
 |some d=>
  have i3:d<n:=by simpa[S2]using bM
  refine⟨h.defers,by simp[Act.put,h.size],λk=>?_⟩;have cY:=h.val k;simp only[Act.put,xW,kR];by_cases aG:k=d;·subst aG;(have:k<a.tmps.size:=by rw[h.size];exact i3);simp[this]
  ·have:Nat.beq k d=false:=SY aG;rw[this,cond_false,<-cY];simp[Wk (XW aG)]
def Kk(all:Array Oper)(t:Nat->Value)(j:Nat):Option Bool:=
 match(all[j]?).bind (·.dst)with
 |some d=>match t d with
  | .bool b=>some b
  |_=>none
 |none=>none
def oY(all:Array Oper)(t:Nat->Value)(g:Option (Nat×Bool)):Bool:=
 match g with
 |none=>true
 |some (j,o9)=>Kk all t j==some o9
def mS.wanted{n t a}(h:mS n t a)(all:Array Oper)(o:Oper):Region.wanted o (yielded all a.tmps)=oY all t o.guard:=by
 unfold Region.wanted oY;cases b7:o.guard with
 |none=>rfl
 |some p=>
  obtain⟨j,o9⟩:=p;have:yielded all a.tmps j=Kk all t j:=by
   unfold yielded Kk;cases bM:(all[j]?).bind (·.dst)with
   |none=>rfl
   |some d=>
    have cY:=h.val d;simp only[Ns];rcases hF d a.tmps.size with c4|c4;·(have e:a.tmps[d]? =some (t d):=by rw[<-cY];simp[c4]);rw[e];cases t d<;>rfl
    ·have e:a.tmps[d]? =none:=IV c4;(have fN:t d=undef:=by rw[<-cY];simp[e]);rw[e,fN];rfl
  simp only[this]
abbrev gF:=Exit->(Nat->Value)->List bN->List fJ->Prop
def aV7:Exit->Prop
 | .panic _=>False
 |_=>True
def FF(n:Nat)(c:w3)(fS:gF):Exit->Act->World->Prop:=
 λe a w=>aV7 e/\∃t L R,fS e t L R/\mS n t a/\dQ c L R w
def cQ(P:Program)(n:Nat)(code:Code)(t:Nat->Value)(L:List bN)(R:List fJ)(Q:gF):Prop:=
 ∀c a w,mS n t a->dQ c L R w->code.wp P (FF n c Q) a w
def dF(P:Program)(n:Nat)(all:Array Oper)(ops:List Oper)(t:Nat->Value)(L:List bN)(R:List fJ)(Q:gF):Prop:=
 ∀c a w,mS n t a->dQ c L R w->wpList P all (FF n c Q) ops a w
abbrev oK:=Value->List bN->List fJ->Prop
def aM(P:Program)(f:FuncId)(args:Array Value)(L:List bN)(R:List fJ)(Post:oK):Prop:=
 (∀(xs:Array Value) (w:World),(callFunc f xs).run P w=.ok (.enter f xs) w)/\
 ∀(w:World) (Z:Nat->Prop),sZ L Z R w->Calls P f args w λe w'=>∃v E G,e=.returned v/\Post v E G/\dQ ⟨w,zF L,Z⟩ E G w'
def aM.mono{P f args L R}{Post CM:oK}(h:aM P f args L R Post)(k:∀v E G,Post v E G->CM v E G):aM P f args L R CM:=
 ⟨h.1,λw Z b4=>(h.2 w Z b4).mono λ_ _ ⟨v,E,G,e,p,s⟩=>⟨v,E,G,e,k _ _ _ p,s⟩⟩
def eC(P:Program)(op:Oper)(bF:Operand->Value)(L:List bN)(R:List fJ)(Post:oK):Prop:=
 ∀(c:w3) (w:World),dQ c L R w->∀(a:Act) (next:Act->World->Prop) (Q:Exit->Act->World->Prop),
  (∀v E G w',Post v E G->dQ c E G w'->next (a.put op.dst v) w')->op.upon P a next Q ((execOp bF op).run P w)
def cP(P:Program)(op:Oper)(bF:Operand->Value)(L:List bN)(R:List fJ)(v:Value):Prop:=
 ∀(c:w3) (w:World),dQ c L R w->(execOp bF op).run P w=.ok (.value v) w
def cP.b1M{P op bF L R v}(h:cP P op bF L R v):eC P op bF L R (λHs E G=>Hs=v/\E=L/\G=R):=by exact aQf
def eZ{P n all t L R}{Q:gF}(h:Q .normal t L R):dF P n all [] t L R Q:=
 λ_ _ _ aF aH=>⟨trivial,t,L,R,h,aF,aH⟩
def a1c{P n all o aD t L R}{Q:gF}{Post:oK}(b7:eC P o (iT t) L R Post)(dH:oY all t o.guard=true)(bM:S2 n o.dst=true)
 (h:∀v E G,Post v E G->dF P n all aD (xW t o.dst v) E G Q):dF P n all (o::aD) t L R Q:=by intro c a w aF aH;unfold wpList;rw[aF.wanted,dH,if_pos rfl];refine .inl ?_;unfold Oper.wp;rw[aF.eval];exact b7 c w aH a _ _ λv E G w' aP r1=>h v E G aP c _ w' (aF.put bM v) r1
def aE6{P n all o aD t L R}{Q:gF}{v:Value}(cY:cP P o (iT t) L R v)(dH:oY all t o.guard=true)(bM:S2 n o.dst=true)
 (h:dF P n all aD (xW t o.dst v) L R Q):dF P n all (o::aD) t L R Q:=
 a1c cY.b1M dH bM λ_ _ _ ⟨eV,fN,n5⟩=>by subst eV;subst fN;subst n5;exact h
def aY3{P n all o aD t L R}{Q:gF}(dH:oY all t o.guard=false)(bM:S2 n o.dst=true)
 (h:dF P n all aD (xW t o.dst undef) L R Q):dF P n all (o::aD) t L R Q:=by intro c a w aF aH;unfold wpList;rw[aF.wanted,dH,if_neg g2];exact h c _ w (aF.put bM _) aH
def Rk{P dst f xs qY pos after guard ty bF L R args}{Post:oK}(bT:xs.map bF=args)(b6b:bF (.func f)= .func (.func f) #[] #[])
 (h:aM P f args L R Post):eC P ⟨dst,.call ⟨.value (.func f),xs,qY⟩,ty,pos,after,guard⟩ bF L R Post:=by
 intro x w aH a next Q k
 have WZ:(execOp bF ⟨dst,.call ⟨.value (.func f),xs,qY⟩,ty,pos,after,guard⟩).run P w=.ok (.enter f args) w:=by have O:=h.1 args w;simp only[execOp,resolve,bT,b6b,Deferred.ofValue];simpa[invoke]using O
 exact aOG
def c2{P n id ops t L R}{Q:gF}(h:dF P n ops.toArray ops t L R Q):cQ P n (.region id ops.toArray false) t L R Q:=
 λc a w aF aH=>wp_region_lit (h c a w aF aH)
def e5(P:Program)(n:Nat)(y:Code)(Q:gF):gF
 | .normal,t,L,R=>cQ P n y t L R Q
 |e,t,L,R=>Q e t L R
def bK{P n x y t L R}{Q:gF}(h:cQ P n x t L R (e5 P n y Q)):cQ P n (.seq x y) t L R Q:=by
 intro c a w aF aH;refine wp_seq (wp_mono (h c a w aF aH) ?_);rintro e a w ⟨r0,t',E,G,cJ,xF,r1⟩;cases e with
 |normal=>exact cJ c a w xF r1
 |_=>exact⟨r0,t',E,G,cJ,xF,r1⟩
def a8{P n y t L R}{Q:gF}(h:cQ P n y t L R Q):e5 P n y Q .normal t L R:=h
def gB{P n y t L R}{Q:gF}(h:Q .ret t L R):e5 P n y Q .ret t L R:=h
def mF{P n y id t L R}{Q:gF}(h:Q (.exit id) t L R):e5 P n y Q (.exit id) t L R:=h
def eP{P n t L R}{Q:gF}(h:Q .normal t L R):cQ P n .skip t L R Q:=
 λ_ _ _ aF aH=>wp_skip ⟨trivial,t,L,R,h,aF,aH⟩
def iY{P n t L R}{Q:gF}(h:Q .ret t L R):cQ P n .ret t L R Q:=
 λ_ _ _ aF aH=>wp_ret ⟨trivial,t,L,R,h,aF,aH⟩
def mD{P n id t L R}{Q:gF}(h:Q (.exit id) t L R):cQ P n (.exit id) t L R Q:=
 λ_ _ _ aF aH=>wp_exit ⟨trivial,t,L,R,h,aF,aH⟩
def a7L{P n x A B t L R}{Q:gF}{b:Bool}(cG:iT t x=.bool b)(fH:b=true->cQ P n A t L R Q)(aF:b=false->cQ P n B t L R Q):
 cQ P n (.cond x A B) t L R Q:=
 λc a w kE aH=>wp_cond_split (by rw[kE.eval];exact cG) (λe=>fH e c a w kE aH) (λe=>aF e c a w kE aH)
def vS{P n x A B t L R}{Q:gF}(cG:iT t x=.bool true)(fH:cQ P n A t L R Q):cQ P n (.cond x A B) t L R Q:=
 a7L cG (λ_=>fH) (λe=>by cases e)
def MX{P n x A B t L R}{Q:gF}(cG:iT t x=.bool false)(aF:cQ P n B t L R Q):cQ P n (.cond x A B) t L R Q:=
 a7L cG (λe=>by cases e) (λ_=>aF)
def e1(id:Nat)(Q:gF):gF
 | .exit k,t,L,R=>bif Nat.beq k id then Q .normal t L R else Q (.exit k) t L R
 |e,t,L,R=>Q e t L R
def fR{P n id x t L R}{Q:gF}(h:cQ P n x t L R (e1 id Q)):cQ P n (.block id x) t L R Q:=by
 intro c a w aF aH;refine wp_block (wp_mono (h c a w aF aH) ?_);rintro e a w ⟨r0,t',E,G,cJ,xF,r1⟩;cases e with
 |exit k=>
  simp only[Exit.inBlock];by_cases aG:k=id;·subst aG;(have:Nat.beq k k=true:=by simp);simp only[e1,this,cond_true]at cJ;rw[if_pos rfl];exact⟨trivial,t',E,G,cJ,xF,r1⟩
  ·have:Nat.beq k id=false:=SY aG;simp only[e1,this,cond_false]at cJ;rw[if_neg aG];exact⟨trivial,t',E,G,cJ,xF,r1⟩
 |_=>exact⟨r0,t',E,G,cJ,xF,r1⟩
def hI{id t L R}{Q:gF}(h:Q .normal t L R):e1 id Q .normal t L R:=h
def iM{id t L R}{Q:gF}(h:Q .ret t L R):e1 id Q .ret t L R:=h
def mB{id t L R}{Q:gF}(h:Q .normal t L R):e1 id Q (.exit id) t L R:=by
 have:Nat.beq id id=true:=by simp
 simp only[e1,this,cond_true];exact h
def a0E{id k t L R}{Q:gF}(aG:Nat.beq k id=false)(h:Q (.exit k) t L R):e1 id Q (.exit k) t L R:=by simp only[e1,aG,cond_false];exact h
def xX(k:Nat):List Nat->Bool
 |[]=>false
 |x::l=>bif Nat.beq k x then true else xX k l
def x7(ws:List Nat)(t cH:Nat->Value):Nat->Value:=λk=>bif xX k ws then cH k else t k
def zQ(t:Nat->Value):List (Nat×Value)->Nat->Value
 |[]=>t
 |(d,v)::l=>kR (zQ t l) d v
def kT(ws:List Nat)(t t':Nat->Value):Prop:=∀k,xX k ws=false->t' k=t k
def kT.refl{ws t}:kT ws t t:=λ_ _=>rfl
def kT.kR{ws t t' d v}(bM:xX d ws=true)(h:kT ws t t'):kT ws t (kR t' d v):=λk aG=>by
 unfold Aw.kR
 cases a5:Nat.beq k d with
 |false=>exact h k aG
 |true=>
  have:k=d:=by simpa[Bt]using a5
  subst this
  rw[bM]at aG
  cases aG
def kT.zQ{ws t t' l}(bM:l.all (λp=>xX p.1 ws)=true)(h:kT ws t t'):kT ws t (zQ t' l):=by
 induction l with
 |nil=>exact h
 |cons p l c6=>obtain⟨d,v⟩:=p;simp only[List.all_cons,nH]at bM;exact kT.kR bM.1 (c6 bM.2)
def kT.x7{ws a3j t t' cH}(bM:a3j.all (λk=>xX k ws)=true)(h:kT ws t t'):kT ws t (x7 a3j t' cH):=λk aG=>by
 unfold Aw.x7
 cases a5:xX k a3j with
 |false=>exact h k aG
 |true=>
  have:∀l:List Nat,l.all (λk=>xX k ws)=true->xX k l=true->xX k ws=true:=by
   intro l
   induction l with
   |nil=>intro _ h;cases h
   |cons x l c6=>
    intro bT a3
    simp only[List.all_cons,nH]at bT
    simp only[xX]at a3
    cases K:Nat.beq k x with
    |true=>
     have:k=x:=by simpa[Bt]using K
     rw[this];exact bT.1
    |false=>rw[K]at a3;exact c6 bT.2 a3
  rw[this a3j bM a5]at aG
  cases aG
def CX(t:Nat->Value):List (Nat×Value)->Prop
 |[]=>True
 |(d,v)::l=>t d=v/\CX t l
def Is{t:Nat->Value}: ∀{l:List (Nat×Value)},CX t l->zQ t l=t
 |[],_=>rfl
 |(d,v)::l,h=>by
  funext k
  simp only[zQ,Is h.2,kR]
  cases a5:Nat.beq k d with
  |false=>rfl
  |true=>
   have:k=d:=by simpa[Bt]using a5
   rw[cond_true,this];exact h.1.symm
structure fB(lO:Type) where
 tF:lO->List (Nat×Value)
 L:lO->List bN
 R:lO->List fJ
 m:lO->Nat
def e2{lO:Type}(ws:List Nat)(kZ:Nat->Value)(bM:fB lO)(wQ:Nat)(Q:gF):gF
 | .normal,t,L,R=>∃g,kT ws kZ t/\CX t (bM.tF g)/\(bM.L g).Sublist L/\(∀r∈bM.R g,aL r R)/\bM.m g<wQ
 |e,t,L,R=>Q e t L R
def vW{lO ws kZ wQ t L R}{bM:fB lO}{Q:gF}(h:Q .ret t L R):e2 ws kZ bM wQ Q .ret t L R:=h
def xY{lO ws kZ wQ id t L R}{bM:fB lO}{Q:gF}(h:Q (.exit id) t L R):e2 ws kZ bM wQ Q (.exit id) t L R:=h
def Pq{ws:List Nat}{kZ t:Nat->Value}(h:kT ws kZ t):x7 ws kZ t=t:=by
 funext k;unfold x7;cases a5:xX k ws with
 |true=>rfl
 |false=>exact(h k a5).symm
def qK{lO:Type}{P n body t L R}{Q:gF}(ws:List Nat)(bM:fB lO)(a0:lO)(b2:CX t (bM.tF a0))(dI:(bM.L a0).Sublist L)(bO: ∀r∈bM.R a0,aL r R)
 (Gw:∀g cH,cQ P n body (zQ (x7 ws t cH) (bM.tF g)) (bM.L g) (bM.R g) (e2 ws t bM (bM.m g) Q)):cQ P n (.loop body) t L R Q:=by
 intro c a w aF aH;let I:Act->World->Prop:=λa w=>∃g t',kT ws t t'/\CX t' (bM.tF g)/\mS n t' a/\dQ c (bM.L g) (bM.R g) w
 -- the measure is carried in the invariant: 'the least measure at which the state shows'
 have key:∀m,∀g t' a w,bM.m g=m->kT ws t t'->CX t' (bM.tF g)->mS n t' a->dQ c (bM.L g) (bM.R g) w->
  ∀b k cs,∃e fA w',FF n c Q e fA w'/\Arrives P (lone (b.at a (.code body:: .inLoop body::k)) cs w) b k cs e fA w':=by
  intro m;induction m using Nat.strongRecOn with
  |_ m c6=>
   intro g t' a w a3 dG Am kE cT b k cs;(have e:zQ (x7 ws t t') (bM.tF g)=t':=by rw[Pq dG,Is Am]);obtain⟨ZK,La,Nj,⟨r0,Nc,Pv,Pw,cJ,Lt,Mi⟩,ZW⟩:=Gw g t' c a w (by rw[e];exact kE) cT b (.inLoop body::k) cs;cases ZK with
   |normal=>obtain⟨aLH,Gg,b5s,b18,J0,i3⟩:=cJ;obtain⟨b1F,b1d,b7l,b5l,b2E⟩:=c6 (bM.m aLH) (a3▸i3) aLH Nc La Nj rfl Gg b5s Lt (Mi.tI b18 J0) b k cs;exact⟨b1F,b1d,b7l,b5l,.of_steps (Steps.trans ZW (.one step_inLoop)) b2E⟩
   |exit id=>exact⟨_,La,Nj,⟨r0,Nc,Pv,Pw,cJ,Lt,Mi⟩,.pass (x:=.inLoop body) rfl (λ_ _=>.inl g2) ZW⟩
   |goto l=>exact⟨_,La,Nj,⟨r0,Nc,Pv,Pw,cJ,Lt,Mi⟩,.pass (x:=.inLoop body) rfl (λ_ _=>.inl g2) ZW⟩
   |ret=>exact⟨_,La,Nj,⟨r0,Nc,Pv,Pw,cJ,Lt,Mi⟩,.pass (x:=.inLoop body) rfl (λ_ _=>.inl g2) ZW⟩
   |panic Le=>exact⟨_,La,Nj,⟨r0,Nc,Pv,Pw,cJ,Lt,Mi⟩,.pass (x:=.inLoop body) rfl (λ_ _=>.inl g2) ZW⟩
   |outgrown=>exact⟨_,La,Nj,⟨r0,Nc,Pv,Pw,cJ,Lt,Mi⟩,.pass (x:=.inLoop body) rfl (λ_ _=>.inl g2) ZW⟩
 intro b k cs;obtain⟨e,fA,w',cJ,ZW⟩:=key _ a0 t a w rfl .refl b2 aF (aH.tI dI bO) b k cs;exact⟨e,fA,w',cJ,.of_steps (.one step_loop) ZW⟩
end Go.Aw
namespace Go.Aw
open Go
inductive JC where
 |bAS|bool|struct|array (n e:Nat)|slice (e:Nat)|ptr (e:Nat)|int (k:IntKind)|string|zJ
structure jD where
 k:JC
 L7:Nat
 aA:List (Nat×Nat)
 g0:Nat
 z:List Value
def HU(P:Program)(i:TypeInfo)(u:TypeDesc)(z:Value):jD:=
  { k:=match u with
      | .struct _=>.struct
      | .array n e=>.array n e
      | .slice e=>.slice e
      | .pointer e=>.ptr e
      | .int k=>.int k
      | .bool=>.bool
      | .string=>.string
      |_=>.zJ
    L7:=i.size
    aA:=match u with
      | .struct sL=>sL.toList.map λf=>(f.offset,((P.info? f.type).map (·.size)).getD 0)
      |_=>[]
    g0:=i.bytes
    z:=z.cells.toList}
def FA(P:Program)(T:Nat):Option jD:=
 match P.info? T,P.underlying T with
 |some i,some u=>match i.zero with
  |some z=>some (HU P i u z)
  |none=>none
 |_,_=>none
def hW(g1:List (List (Option jD)))(T:Nat):Option jD:=((g1[T/16]?).bind (·[T%16]?)).join
structure oE(P:Program) where
 g1:List (List (Option jD))
 ok:∀T iW,hW g1 T=some iW->FA P T=some iW
def a4B(P:Program)(g1:List (List (Option jD)))(c:Nat):List (Option jD):=
 (List.range 16).map λj=>match hW g1 (16*c+j)with
  |some _=>FA P (16*c+j)
  |none=>none
def aY0{P:Program}{g1:List (List (Option jD))}(h:g1=(List.range g1.length).map (a4B P g1)):∀T iW,hW g1 T=some iW->FA P T=some iW:=by
 intro T iW b7;have b3E:=b7;unfold hW at b7;rw[h]at b7;rcases hF (T/16) g1.length with O|O;·rw[pA,KP O]at b7;simp only[Bw,Ns,a4B]at b7;rw[pA,KP (Nat.mod_lt _ D)]at b7;simp only[Bw,Option.join_some]at b7;rw[Nat.div_add_mod,b3E]at b7;exact b7
 ·rw[pA,uF Xu]at b7;simp at b7
section b1H
variable{P:Program}{T:Nat}{iW:jD}
def JI(h:FA P T=some iW):∃i u z,P.info? T=some i/\P.underlying T=some u/\i.zero=some z/\iW=HU P i u z:=by
 unfold FA at h;split at h;·
  rename_i i u aE dL;split at h;·rename_i z eW;exact⟨i,u,z,aE,dL,eW,(yF h).symm⟩
  ·cases h
 ·cases h
def run_sizeOf(h:FA P T=some iW)(w:World):(sizeOf T).run P w=.ok iW.L7 w:=by obtain⟨i,u,z,aE,dL,eW,rfl⟩:=JI h;simp[sizeOf,typeInfo,aE,HU]
def Pr(h:FA P T=some iW)(w:World):∃z:Value,(zeroValue T).run P w=.ok z w/\z.cells.toList=iW.z:=by obtain⟨i,u,z,aE,dL,eW,rfl⟩:=JI h;exact⟨z,by simp[zeroValue,typeInfo,aE,eW],rfl⟩
def JC.isAgg:JC->Bool
 | .struct| .array _ _=>true
 |_=>false
def a5d(h:FA P T=some iW)(w:World):(Go.isAgg T).run P w=.ok iW.k.isAgg w:=by obtain⟨i,u,z,aE,dL,eW,rfl⟩:=JI h;cases u<;>simp[Go.isAgg,run_underlying dL,HU,JC.isAgg]
def M1{e:Nat}(h:FA P T=some iW)(aG:iW.k=.slice e):P.underlying T=some (.slice e):=by obtain⟨i,u,z,aE,dL,eW,rfl⟩:=JI h;cases u<;>simp[HU]at aG;rw[dL,aG]
def a5p{k:IntKind}(h:FA P T=some iW)(aG:iW.k=.int k):P.underlying T=some (.int k):=by obtain⟨i,u,z,aE,dL,eW,rfl⟩:=JI h;cases u<;>simp[HU]at aG;rw[dL,aG]
def aYz(h:FA P T=some iW)(aG:iW.k=.bool):P.underlying T=some .bool:=by obtain⟨i,u,z,aE,dL,eW,rfl⟩:=JI h;cases u<;>simp[HU]at aG;rw[dL]
def a4w(h:FA P T=some iW)(aG:iW.k=.struct):
 ∃sL,P.underlying T=some (.struct sL)/\iW.aA=sL.toList.map λf=>(f.offset,((P.info? f.type).map (·.size)).getD 0):=by obtain⟨i,u,z,aE,dL,eW,rfl⟩:=JI h;cases u<;>simp[HU]at aG;exact⟨_,dL,rfl⟩
end b1H
inductive E6(e:bN):List bN->Prop
 |lT {L}:E6 e (e::L)
 |cons {x L} (h:E6 e L):E6 e (x::L)
 |s7 {gC L} (h:E6 e L):E6 e (gC++L)
def E6.mem{e:bN}{L:List bN}(h:E6 e L):e∈L:=by
 induction h with
 |lT=>simp
 |cons _ c6=>exact OV _ c6
 |s7 _ c6=>exact lZ _ c6
def Za(a b:Int):(a==b)=decide (a=b):=by by_cases h:a=b<;>simp[h]
section b6Z
variable{P:Program}{bF:Operand->Value}{L:List bN}{R:List fJ}{dst:Option Tmp}{ty:TypeId}{pos:String}{after:Array Edge}{guard:Option (Nat×Bool)}
def CH{x:Operand}{v:Value}(h:bF x=v):cP P ⟨dst,.move x,ty,pos,after,guard⟩ bF L R v:=λ_ _ _=>by simp[execOp,h]
def FB{x:Operand}{v:Value}(h:bF x=v):cP P ⟨dst,.assign x,ty,pos,after,guard⟩ bF L R v:=λ_ _ _=>by simp[execOp,h]
def aGJ{c x y:Operand}{b:Bool}(h:bF c=.bool b):cP P ⟨dst,.pick c x y,ty,pos,after,guard⟩ bF L R (if b then bF x else bF y):=λ_ _ _=>by
 simp[execOp,h,asBool]
def aYI{c x y:Operand}{v:Value}(h:bF c=.bool true)(cY:bF x=v):cP P ⟨dst,.pick c x y,ty,pos,after,guard⟩ bF L R v:=λ_ _ _=>by
 simp[execOp,h,asBool,cY]
def aXY{c x y:Operand}{v:Value}(h:bF c=.bool false)(cY:bF y=v):cP P ⟨dst,.pick c x y,ty,pos,after,guard⟩ bF L R v:=λ_ _ _=>by
 simp[execOp,h,asBool,cY]
def Jv{n:Int}(O:-9223372036854775808<=n)(X:n<=9223372036854775807):IntKind.i64.wrap n=n:=by rw[IntKind.wrap_i64];omega
variable{T iZ:TypeId}{x y:Operand}{k:IntKind}{a b:Int}
def a4H(K:bF x=.int k a)(aS:bF y=.int k b):cP P ⟨dst,.binOp .add T x y iZ,ty,pos,after,guard⟩ bF L R (.int k (k.wrap (a+b))):=λ_ _ _=>by
 simp[execOp,K,aS,eqGuard,binOp,Op.intArith]
def aHC(K:bF x=.int k a)(aS:bF y=.int k b):cP P ⟨dst,.binOp .sub T x y iZ,ty,pos,after,guard⟩ bF L R (.int k (k.wrap (a-b))):=λ_ _ _=>by
 simp[execOp,K,aS,eqGuard,binOp,Op.intArith]
def a6m(K:bF x=.int k a)(aS:bF y=.int k b):cP P ⟨dst,.binOp .mul T x y iZ,ty,pos,after,guard⟩ bF L R (.int k (k.wrap (a*b))):=λ_ _ _=>by
 simp[execOp,K,aS,eqGuard,binOp,Op.intArith]
def aYo(K:bF x=.int .i64 a)(aS:bF y=.int .i64 b)(O:-9223372036854775808<=a+b)(X:a+b<=9223372036854775807):
 cP P ⟨dst,.binOp .add T x y iZ,ty,pos,after,guard⟩ bF L R (.int .i64 (a+b)):=by have:=a4H (P:=P) (L:=L) (R:=R) (dst:=dst) (ty:=ty) (pos:=pos) (after:=after) (guard:=guard) (T:=T) (iZ:=iZ) K aS;rwa[Jv O X]at this
def aHw(K:bF x=.int .i64 a)(aS:bF y=.int .i64 b)(O:-9223372036854775808<=a-b)(X:a-b<=9223372036854775807):
 cP P ⟨dst,.binOp .sub T x y iZ,ty,pos,after,guard⟩ bF L R (.int .i64 (a-b)):=by have:=aHC (P:=P) (L:=L) (R:=R) (dst:=dst) (ty:=ty) (pos:=pos) (after:=after) (guard:=guard) (T:=T) (iZ:=iZ) K aS;rwa[Jv O X]at this
def aTD(K:bF x=.int .i64 a)(aS:bF y=.int .i64 b)(O:-9223372036854775808<=a*b)(X:a*b<=9223372036854775807):
 cP P ⟨dst,.binOp .mul T x y iZ,ty,pos,after,guard⟩ bF L R (.int .i64 (a*b)):=by have:=a6m (P:=P) (L:=L) (R:=R) (dst:=dst) (ty:=ty) (pos:=pos) (after:=after) (guard:=guard) (T:=T) (iZ:=iZ) K aS;rwa[Jv O X]at this
def a5u(K:bF x=.int k a)(aS:bF y=.int k b)(h:¬b=0):cP P ⟨dst,.binOp .quo T x y iZ,ty,pos,after,guard⟩ bF L R (.int k (k.wrap (a.tdiv b))):=λ_ _ _=>by
 simp[execOp,K,aS,eqGuard,binOp,Op.intDiv,h]
def a4K(K:bF x=.int k a)(aS:bF y=.int k b)(h:¬b=0):cP P ⟨dst,.binOp .rem T x y iZ,ty,pos,after,guard⟩ bF L R (.int k (a.tmod b)):=λ_ _ _=>by
 simp[execOp,K,aS,eqGuard,binOp,Op.intDiv,h]
def aVT(K:bF x=.int .i64 a)(aS:bF y=.int .i64 b)(h:¬b=0)(O:-9223372036854775808<=a.tdiv b)(X:a.tdiv b<=9223372036854775807):
 cP P ⟨dst,.binOp .quo T x y iZ,ty,pos,after,guard⟩ bF L R (.int .i64 (a.tdiv b)):=by have:=a5u (P:=P) (L:=L) (R:=R) (dst:=dst) (ty:=ty) (pos:=pos) (after:=after) (guard:=guard) (T:=T) (iZ:=iZ) K aS h;rwa[Jv O X]at this
def aVh(K:bF x=.int k a)(aS:bF y=.int k b):cP P ⟨dst,.binOp .lss T x y iZ,ty,pos,after,guard⟩ bF L R (.bool (decide (a<b))):=λ_ _ _=>by
 simp[execOp,K,aS,eqGuard,binOp,Op.intCmp]
def Qk(K:bF x=.int k a)(aS:bF y=.int k b):cP P ⟨dst,.binOp .leq T x y iZ,ty,pos,after,guard⟩ bF L R (.bool (decide (a<=b))):=λ_ _ _=>by
 simp[execOp,K,aS,eqGuard,binOp,Op.intCmp]
def aVc(K:bF x=.int k a)(aS:bF y=.int k b):cP P ⟨dst,.binOp .gtr T x y iZ,ty,pos,after,guard⟩ bF L R (.bool (decide (b<a))):=λ_ _ _=>by
 simp[execOp,K,aS,eqGuard,binOp,Op.intCmp]
def aWL(K:bF x=.int k a)(aS:bF y=.int k b):cP P ⟨dst,.binOp .geq T x y iZ,ty,pos,after,guard⟩ bF L R (.bool (decide (b<=a))):=λ_ _ _=>by
 simp[execOp,K,aS,eqGuard,binOp,Op.intCmp]
def aUT(K:bF x=.int k a)(aS:bF y=.int k b):cP P ⟨dst,.binOp .eql T x y iZ,ty,pos,after,guard⟩ bF L R (.bool (decide (a=b))):=λ_ _ _=>by
 simp[execOp,K,aS,eqGuard,binOp,Op.intCmp,Za]
def a54(K:bF x=.int k a)(aS:bF y=.int k b):cP P ⟨dst,.binOp .neq T x y iZ,ty,pos,after,guard⟩ bF L R (.bool (decide (¬a=b))):=λ_ _ _=>by
 simp[execOp,K,aS,eqGuard,binOp,Op.intCmp,bne,Za]
def a1e(K:bF x=.int .i64 a)(O:-9223372036854775807<=a)(X:a<=9223372036854775808):cP P ⟨dst,.unOp .neg T x,ty,pos,after,guard⟩ bF L R (.int .i64 (-a)):=λ_ _ _=>by
 have:IntKind.i64.wrap (0-a)= -a:=by rw[Jv D D];omega
 simp only[Int.zero_sub]at this
 simp[execOp,K,Op.unary,Op.intArith,this]
def NQ{c:Bool}(K:bF x=.bool c):cP P ⟨dst,.unOp .not T x,ty,pos,after,guard⟩ bF L R (.bool (!c)):=λ_ _ _=>by
 simp[execOp,K,Op.unary]
variable(N:oE P)
def a6j{k g3:IntKind}{r3 fV jY iE gL eH k6 iX}(O:hW N.g1 T=some ⟨.int g3,r3,jY,gL,k6⟩)(X:hW N.g1 iZ=some ⟨.int k,fV,iE,eH,iX⟩)(K:bF x=.int g3 a):
 cP P ⟨dst,.convert T iZ x,ty,pos,after,guard⟩ bF L R (.int k (k.wrap a)):=λ_ w _=>by
 have Vt:=a5p (N.ok _ _ O) rfl
 have Vu:=a5p (N.ok _ _ X) rfl
 simp[execOp,K,convert,run_underlying Vt,run_underlying Vu,Conv.intToInt]
def aYi{g3:IntKind}{r3 fV jY iE gL eH k6 iX}(O:hW N.g1 T=some ⟨.int g3,r3,jY,gL,k6⟩)(X:hW N.g1 iZ=some ⟨.int .i64,fV,iE,eH,iX⟩)(K:bF x= .int g3 a)
 (aU:-9223372036854775808<=a) (cK:a<=9223372036854775807):cP P ⟨dst,.convert T iZ x,ty,pos,after,guard⟩ bF L R (.int .i64 a):=by have:=a6j (P:=P) (L:=L) (R:=R) (dst:=dst) (ty:=ty) (pos:=pos) (after:=after) (guard:=guard) N O X K;rwa[Jv aU cK]at this
def YX(b off n:Nat):(⟨b,off,none⟩:Addr).add n=⟨b,off+n,none⟩:=by unfold Addr.add;split<;>simp_all
def a5Q{f off L7 n b o:Nat}{aA:List (Nat×Nat)}{g0 z}(dW:hW N.g1 T=some ⟨.struct,n,aA,g0,z⟩)(K:bF x=.pointer (some ⟨b,o,none⟩))(aF:aA[f]?=some (off,L7+1)):
 cP P ⟨dst,.fieldAddr T x f,ty,pos,after,guard⟩ bF L R (.pointer (some ⟨b,o+off,none⟩)):=λ_ w _=>by
 obtain⟨sL,dL,gA⟩:=a4w (N.ok _ _ dW) rfl
 simp only at gA
 subst gA
 rw[pA]at aF
 obtain⟨Lj,a9C,W⟩:=Option.map_eq_some_iff.1 aF
 obtain⟨O,X⟩:=Prod.mk.inj W
 have a2b:sL[f]?=some Lj:=by rw[<-Array.getElem?_toList];exact a9C
 have DD:∃i,P.info? Lj.type=some i/\i.size=L7+1:=by
  cases aE:P.info? Lj.type with
  |none=>rw[aE]at X;simp at X
  |some i=>rw[aE]at X;exact⟨i,rfl,by simpa using X⟩
 obtain⟨i,aE,aH⟩:=DD
 simp[execOp,K,Instr.fieldAt,run_underlying dL,a2b,Instr.sureAddr,fieldPlace,sizeOf,typeInfo,aE,aH,YX,O]
def aVV{f off L7 n aN i j:Nat}{jQ:Option Addr}{aA:List (Nat×Nat)}{g0 z}(dW:hW N.g1 T=some ⟨.struct,n,aA,g0,z⟩)(K:bF x=.pointer (some ⟨w9 jQ,n6 jQ aN i j,none⟩))(aF:aA[f]?=some (off,L7+1)):
 cP P ⟨dst,.fieldAddr T x f,ty,pos,after,guard⟩ bF L R (.pointer (some ⟨w9 jQ,n6 jQ aN i (j+off),none⟩)):=by
 have:=a5Q (P:=P) (L:=L) (R:=R) (dst:=dst) (ty:=ty) (pos:=pos) (after:=after) (guard:=guard) N dW K aF;have e:n6 jQ aN i j+off=n6 jQ aN i (j+off):=by simp[n6,We]
 rwa[e]at this
def i5{e n fV g0 z nB iX fI}{aA rB:List (Nat×Nat)}{len cap i:Nat}{b o:Nat}(dW:hW N.g1 T=some ⟨.slice e,n,aA,g0,z⟩)(c5:hW N.g1 e=some ⟨fI,fV,rB,nB,iX⟩)
 (K:bF x=.slice (some ⟨b,o,none⟩) len cap) (aS:bF y=.int k a) (aE:a=(i:Int)) (i3:i<len):
 cP P ⟨dst,.indexAddr T x y,ty,pos,after,guard⟩ bF L R (.pointer (some ⟨w9 (some ⟨b,o,none⟩),n6 (some ⟨b,o,none⟩) fV i 0,none⟩)):=λ_ w _=>by
 have dL:=M1 (N.ok _ _ dW) rfl
 have aH:=run_sizeOf (N.ok _ _ c5)
 simp only at aH
 subst aE
 simp[execOp,K,aS,Instr.indexAt,asIntOf,run_underlying dL,aH,i3,YX,w9,n6,Ky]
def j4{e n fV g0 z nB iX fI}{aA rB:List (Nat×Nat)}{len cap i:Nat}{jQ:Option Addr}{rows:List (List Value)}{eU:List fJ}(dW:hW N.g1 T=some ⟨.slice e,n,aA,g0,z⟩)(c5:hW N.g1 e=some ⟨fI,fV,rB,nB,iX⟩)
 (K:bF x=.slice jQ len cap) (aS:bF y=.int k a) (bO:aL (.mk fV jQ len cap rows eU) R) (aE:a=(i:Int)) (i3:i<len):
 cP P ⟨dst,.indexAddr T x y,ty,pos,after,guard⟩ bF L R (.pointer (some ⟨w9 jQ,n6 jQ fV i 0,none⟩)):=λc w cT=>by
 obtain⟨⟨Z,b4,b7⟩,dG,aG⟩:=cT
 obtain⟨r,M,lU⟩:=bO
 have EQ:=(b4.o8 r M).sub lU
 cases EQ with
 |mk aX cG a3 dH B5 aH=>
  rcases B5 with b2|⟨b,off,bT,_,_⟩
  ·subst b2;simp only[UH]at aX;omega
  ·subst bT
   exact i5 N dW c5 K aS aE i3 c w ⟨⟨Z,b4,b7⟩,dG,aG⟩
def VD{c:w3}{w:World}(h:dQ c L R w){b:Nat}{cs:List Value}{T:TypeId}(W:(⟨b,cs,T⟩:bN)∈L)(o:Nat):w.cell? ⟨b,o,none⟩=cs[o]?:=by obtain⟨⟨Z,b4,b7⟩,dG,aG⟩:=h;have:=b4.own _ W;simp[World.cell?,RK.Mr]at this|-;rw[this];simp
def a5t{w:World}{T:TypeId}{iW:jD}(h:FA P T=some iW)(aG:iW.k.isAgg=false){b o:Nat}{v:Value}(cG:w.cell? ⟨b,o,none⟩=some v):
 (loadVar T ⟨b,o,none⟩).run P w=.ok v w:=by simp[loadVar,a5d h,aG,load,Sem.run,cG]
def Zr{w:World}{T:TypeId}{iW:jD}(h:FA P T=some iW)(aG:iW.k.isAgg=true){b o:Nat}{row:List Value}(b1:row.length=iW.L7)
 (cG:∀j v,row[j]?=some v->w.cell? ⟨b,o+j,none⟩=some v):(loadVar T ⟨b,o,none⟩).run P w=.ok (.agg row.toArray) w:=by have aX:=run_loadCells_list (P:=P) w ⟨b,o,none⟩ row (λj v a6=>by rw[YX];exact cG j v a6);simp[loadVar,a5d h,aG,run_sizeOf h,<-b1,aX]
def MS{n b o:Nat}{aA g0 z v}{iB:JC}{cs:List Value}{oD:TypeId}(K:bF x= .pointer (some ⟨b,o,none⟩))(dW:hW N.g1 T=some ⟨iB,n,aA,g0,z⟩)(aG:iB.isAgg=false)
 (kG:E6 ⟨b,cs,oD⟩ L) (cY:cs[o]?=some v):cP P ⟨dst,.load T x,ty,pos,after,guard⟩ bF L R v:=λc w cT=>by
 have:=a5t (P:=P) (w:=w) (N.ok _ _ dW) aG (b:=b) (o:=o) (v:=v) (by rw[VD cT kG.mem];exact cY)
 simp[execOp,K,Instr.loadAt,Instr.sureAddr,this]
def sub(cs:List Value)(o n:Nat):List Value:=(cs.drop o).take n
def u4{n b o:Nat}{aA g0 z}{iB:JC}{cs row:List Value}{oD:TypeId}(K:bF x= .pointer (some ⟨b,o,none⟩))(dW:hW N.g1 T=some ⟨iB,n,aA,g0,z⟩)(aG:iB.isAgg=true)
 (kG:E6 ⟨b,cs,oD⟩ L) (cY:sub cs o n=row) (b1:row.length=n):cP P ⟨dst,.load T x,ty,pos,after,guard⟩ bF L R (.agg row.toArray):=λc w cT=>by
 have:=Zr (P:=P) (w:=w) (N.ok _ _ dW) aG (b:=b) (o:=o) (row:=row) b1 (λj v a6=>by
  rw[VD cT kG.mem]
  rw[<-cY,sub,XX]at a6
  split at a6
  ·simpa using a6
  ·cases a6)
 simp[execOp,K,Instr.loadAt,Instr.sureAddr,this]
def a1p{c:w3}{w:World}(h:dQ c L R w){aN len cap i j:Nat}{jQ:Option Addr}{rows:List (List Value)}{eU:List fJ}(bO:aL (.mk aN jQ len cap rows eU) R){row:List Value}(M:rows[i]?=some row){v:Value}(a6:row[j]?=some v):
 w.cell? ⟨w9 jQ,n6 jQ aN i j,none⟩=some v:=by
 obtain⟨⟨Z,b4,b7⟩,dG,aG⟩:=h;obtain⟨r,QX,lU⟩:=bO;have EQ:=(b4.o8 r QX).sub lU;cases EQ with
 |mk aX cG a3 dH B5 aH=>
  have aE:i<rows.length:=(List.getElem?_eq_some_iff.1 M).1;rcases B5 with b2|⟨b,off,bT,_,JF⟩;·subst b2;simp at aE
  ·subst bT;(have b3Q:j<aN:=by have O:=(List.getElem?_eq_some_iff.1 a6).1;have X:=dH row (hV M);omega);rw[show w9 (some ⟨b,off,none⟩)=b from rfl,show n6 (some ⟨b,off,none⟩) aN i j=off+i*aN+j from rfl,JF i j D b3Q,M];exact a6
def aKY{a7:Type}{n aN len cap i j:Nat}{aA g0 z v}{iB:JC}{jQ:Option Addr}{f:a7->List Value}{l:List a7}{uE:a7}{eU:List fJ}(K:bF x= .pointer (some ⟨w9 jQ,n6 jQ aN i j,none⟩))(dW:hW N.g1 T=some ⟨iB,n,aA,g0,z⟩)(aG:iB.isAgg=false)
 (bO:aL (.mk aN jQ len cap (l.map f) eU) R) (M:l[i]?=some uE) (a6:(f uE)[j]?=some v):cP P ⟨dst,.load T x,ty,pos,after,guard⟩ bF L R v:=λc w cT=>by
 have:=a5t (P:=P) (w:=w) (N.ok _ _ dW) aG (v:=v) (a1p cT bO (row:=f uE) (by rw[pA,M];rfl) a6)
 simp[execOp,K,Instr.loadAt,Instr.sureAddr,this]
def U5{a7:Type}{n aN len cap i j:Nat}{aA g0 z}{iB:JC}{jQ:Option Addr}{f:a7->List Value}{l:List a7}{uE:a7}{row:List Value}{eU:List fJ}(K:bF x= .pointer (some ⟨w9 jQ,n6 jQ aN i j,none⟩))(dW:hW N.g1 T=some ⟨iB,n,aA,g0,z⟩)(aG:iB.isAgg=true)
 (bO:aL (.mk aN jQ len cap (l.map f) eU) R) (M:l[i]?=some uE) (cY:sub (f uE) j n=row) (b1:row.length=n):cP P ⟨dst,.load T x,ty,pos,after,guard⟩ bF L R (.agg row.toArray):=λc w cT=>by
 have:=Zr (P:=P) (w:=w) (N.ok _ _ dW) aG (b:=w9 jQ) (o:=n6 jQ aN i j) (row:=row) b1 (λaBr v a6=>by
  rw[<-cY,sub,XX]at a6
  split at a6
  ·have:=a1p cT bO (row:=f uE) (i:=i) (j:=j+aBr) (v:=v) (by rw[pA,M];rfl) (by simpa using a6)
   rw[<-this]
   simp[n6,We]
  ·cases a6)
 simp[execOp,K,Instr.loadAt,Instr.sureAddr,this]
def aUu{qY:Array TypeId}{e n aA g0 z}{jQ:Option Addr}{len cap:Nat}(b5E:qY[0]?=some T)(dW:hW N.g1 T=some ⟨.slice e,n,aA,g0,z⟩)(K:bF x=.slice jQ len cap):
 cP P ⟨dst,.call ⟨.builtin .len,#[x],qY⟩,ty,pos,after,guard⟩ bF L R (.int .i64 (len:Int)):=λ_ w _=>by
 have dL:=M1 (N.ok _ _ dW) rfl
 simp[execOp,resolve,invoke,builtin,Builtin.len_,b5E,K,run_underlying dL,goInt]
def aTF{qB:Addr}(K:bF x=.pointer (some qB)):cP P ⟨dst,.nilCheck x,ty,pos,after,guard⟩ bF L R (.pointer (some qB)):=λ_ w _=>by
 simp[execOp,K]
def aVA{qY:Array TypeId}(K:bF x=.int k a)(aS:bF y=.int k b):cP P ⟨dst,.call ⟨.builtin .min,#[x,y],qY⟩,ty,pos,after,guard⟩ bF L R (.int k (min a b)):=λ_ w _=>by
 simp only[execOp,resolve,invoke,builtin,Builtin.min_,Wl,wZ,XV,K,aS]
 have:(if b<a then b else a)=min a b:=by rw[Int.min_def];split<;>split<;>omega
 simp[Builtin.min2,this]
def b0u{qY:Array TypeId}(K:bF x=.int k a)(aS:bF y=.int k b):cP P ⟨dst,.call ⟨.builtin .max,#[x,y],qY⟩,ty,pos,after,guard⟩ bF L R (.int k (max a b)):=λ_ w _=>by
 simp only[execOp,resolve,invoke,builtin,Builtin.max_,Wl,wZ,XV,K,aS]
 have:(if b>a then b else a)=max a b:=by rw[Int.max_def];split<;>split<;>omega
 simp[Builtin.max2,this]
def aVY{i:Nat}{vs:Array Value}{v:Value}(K:bF x=.tuple vs)(cY:vs[i]?=some v):cP P ⟨dst,.extract x i,ty,pos,after,guard⟩ bF L R v:=λ_ w _=>by
 simp[execOp,K,Instr.extract,cY]
end b6Z
def aH0(args:List Value):Nat->Value:=λk=>args.getD k undef
def eX(P:Program)(t:Nat->Value)(L:List bN)(R:List fJ)(r:ResultVar)(v:Value):Prop:=
 match r with
 | .tmp k=>t k=v
 | .cell k T=>∀c w,dQ c L R w->∃a,t k=.pointer (some a)/\(loadVar T a).run P w=.ok v w
def e6(P:Program)(fn:Func)(Post:oK):gF
 | .normal,t,L,R=>∃v E G,(∀c n a w,mS n t a->dQ c L R w->(results fn a.tmps).run P w=.ok v w)/\Post v E G/\E.Sublist L/\∀r∈G,aL r R
 | .ret,t,L,R=>∃v E G,(∀c n a w,mS n t a->dQ c L R w->(results fn a.tmps).run P w=.ok v w)/\Post v E G/\E.Sublist L/\∀r∈G,aL r R
 |_,_,_,_=>False
def b6{P:Program}{f:FuncId}{fn:Func}{code:Code}{args:List Value}{L:List bN}{R:List fJ}{Post:oK}(n:Nat)
 (Tc:∀(xs:Array Value) (w:World),(callFunc f xs).run P w=.ok (.enter f xs) w) (aF:P.funcs[f]?=some fn) (a5:fn.body=some code) (b1:fn.ntmps=n) (bT:Nat.ble args.length n=true)
 (h:cQ P n code (aH0 args) L R (e6 P fn Post)):aM P f args.toArray L R Post:=by
 refine⟨Tc,λw Z b4=>?_⟩;have a9e:args.length<=n:=KO bT;refine calls_of_wp aF a5 (wp_mono (h ⟨w,zF L,Z⟩ _ w ⟨rfl,?_,λk=>?_⟩ (dQ.XB b4)) ?_);·simp[b1];omega
 ·
  simp only[aH0,b1];rcases hF k args.length with aG|aG;·simp[List.getD,aG,aCn]
  ·
   rcases hF k n with l5|l5;·(have:k-args.length<n-args.length:=by omega);simp[List.getD,aCn,Nat.not_lt.2 aG,this]
   ·(have: ¬k-args.length<n-args.length:=by omega);simp[List.getD,aCn,Nat.not_lt.2 aG,this]
 ·
  rintro e a w' ⟨_,t,E,G,cJ,xF,r1⟩;have key:(∃v i6 u5,(∀c n a w,mS n t a->dQ c E G w->(results fn a.tmps).run P w=.ok v w)/\Post v i6 u5/\i6.Sublist E/\∀r∈u5,aL r G)->
   a.defers=[]/\∃v,(results fn a.tmps).run P w'=.ok v w'/\∃aQh aGa aGc,Ending.returned v=.returned aQh/\Post aQh aGa aGc/\dQ ⟨w,zF L,Z⟩ aGa aGc w':=by
   rintro⟨v,i6,u5,M,aP,dI,bO⟩;exact⟨xF.defers,v,M _ _ a w' xF r1,v,i6,u5,rfl,aP,r1.tI dI bO⟩
  cases e with
  |normal=>exact key cJ
  |ret=>exact key cJ
  |_=>exact cJ.elim
section
variable{P:Program}{fn:Func}{Post:oK}{t:Nat->Value}{L:List bN}{R:List fJ}
def a7D(tmps:Array Value):ResultVar->Sem Value
 | .tmp t=>pure (tmps.getD t undef)
 | .cell a t=>do loadVar t (<-asAddr (tmps.getD a undef))
def Rg(tmps:Array Value):results fn tmps=(do
 let vs <-fn.results.mapM (a7D tmps)
 pure (if h:vs.size=1 then vs[0]else .tuple vs)):=rfl
def RQ{r:ResultVar}{v:Value}(h:eX P t L R r v){c n a w}(aF:mS n t a)(aH:dQ c L R w):(a7D a.tmps r).run P w=.ok v w:=by
 cases r with
 |tmp k=>have e:t k=v:=h;rw[<-e,<-aF.val k];rfl
 |cell k T=>obtain⟨qB,O,X⟩:=h c w aH;have aU:=aF.val k;rw[O]at aU;simp only[a7D,aU];simp[asAddr,X]
def sD{r:ResultVar}{v:Value}(M:fn.results=#[r])(h:eX P t L R r v):∀c n a w,mS n t a->dQ c L R w->(results fn a.tmps).run P w=.ok v w:=by intro c n a w aF aH;have O:=RQ h aF aH;rw[Rg,M];simp[O]
def yK{r s:ResultVar}{v u:Value}(M:fn.results=#[r,s])(h:eX P t L R r v)(k:eX P t L R s u):∀c n a w,mS n t a->dQ c L R w->(results fn a.tmps).run P w=.ok (.tuple #[v,u]) w:=by intro c n a w aF aH;have O:=RQ h aF aH;have X:=RQ k aF aH;rw[Rg,M];simp[O,X]
def a6o{r s q:ResultVar}{v u x:Value}(M:fn.results=#[r,s,q])(h:eX P t L R r v)(k:eX P t L R s u)(m:eX P t L R q x):∀c n a w,mS n t a->dQ c L R w->(results fn a.tmps).run P w=.ok (.tuple #[v,u,x]) w:=by intro c n a w aF aH;have O:=RQ h aF aH;have X:=RQ k aF aH;have aU:=RQ m aF aH;rw[Rg,M];simp[O,X,aU]
def I7{k:Nat}{v:Value}(h:t k=v):eX P t L R (.tmp k) v:=h
def K0(N:oE P){k T n b o:Nat}{aA g0 z}{iB:JC}{cs row:List Value}{oD:TypeId}(K:t k= .pointer (some ⟨b,o,none⟩))(dW:hW N.g1 T=some ⟨iB,n,aA,g0,z⟩)(aG:iB.isAgg=true)
 (kG:E6 ⟨b,cs,oD⟩ L) (cY:sub cs o n=row) (b1:row.length=n):eX P t L R (.cell k T) (.agg row.toArray):=by
 intro c w cT;refine⟨_,K,Zr (N.ok _ _ dW) aG b1 (λj v a6=>?_)⟩;rw[VD cT kG.mem];rw[<-cY,sub,XX]at a6;split at a6;·simpa using a6
 ·cases a6
def aT{r:fJ}{R:List fJ}(h:r∈R):aL r R:=⟨r,h,.lT⟩
def n1(R:List fJ):∀r∈R,aL r R:=λ_ h=>aT h
def lH{v:Value}{E:List bN}{G:List fJ}(h:∀c n a w,mS n t a->dQ c L R w->(results fn a.tmps).run P w=.ok v w)(aP:Post v E G)(dI:E.Sublist L)(bO:∀r∈G,aL r R):e6 P fn Post .ret t L R:=
 ⟨v,E,G,h,aP,dI,bO⟩
def Qe{v:Value}{E:List bN}{G:List fJ}(h:∀c n a w,mS n t a->dQ c L R w->(results fn a.tmps).run P w=.ok v w)(aP:Post v E G)(dI:E.Sublist L)(bO:∀r∈G,aL r R):e6 P fn Post .normal t L R:=
 ⟨v,E,G,h,aP,dI,bO⟩
end
section
variable{P:Program}{n:Nat}{all:Array Oper}{op:Op}{ty:TypeId}{pos:String}{after:Array Edge}{aD:List Oper}{t:Nat->Value}{L:List bN}{R:List fJ}{Q:gF}{d:Tmp}{v:Value}
def aI(cY:cP P ⟨some d,op,ty,pos,after,none⟩ (iT t) L R v)(bM:Nat.blt d n=true)(h:dF P n all aD (kR t d v) L R Q):dF P n all (⟨some d,op,ty,pos,after,none⟩::aD) t L R Q:=
 aE6 cY rfl bM h
def hT{Post:oK}(b7:eC P ⟨some d,op,ty,pos,after,none⟩ (iT t) L R Post)(bM:Nat.blt d n=true)(h:∀v E G,Post v E G->dF P n all aD (kR t d v) E G Q):dF P n all (⟨some d,op,ty,pos,after,none⟩::aD) t L R Q:=
 a1c b7 rfl bM h
def jH{Post:oK}(b7:eC P ⟨none,op,ty,pos,after,none⟩ (iT t) L R Post)(h:∀v E G,Post v E G->dF P n all aD t E G Q):dF P n all (⟨none,op,ty,pos,after,none⟩::aD) t L R Q:=
 a1c b7 rfl rfl h
end
def RW(j:Nat)(o9:Bool)(l:List Oper):List Oper:=
 l.map λo=>match o.guard with
  |some (k,w)=>bif Nat.beq k j && (w==o9)then{o with guard:=none}else o
  |none=>o
def VZ(all:Array Oper)(j:Nat)(o9:Bool)(a9:Nat):List Nat->List Oper->Bool
 |_,[]=>true
 |ds,o::l=>
  (match o.guard with
   |some (k,w)=>(Nat.beq k j && (w==o9))||(match(all[k]?).bind (·.dst)with
    |some d=>xX d ds
    |none=>false)
   |none=>false) &&
  (match o.dst with
   |some d=>!Nat.beq d a9 && VZ all j o9 a9 (d::ds) l
   |none=>VZ all j o9 a9 ds l)
def F5:List Oper->List Nat
 |[]=>[]
 |o::l=>match o.dst with
  |some d=>d::F5 l
  |none=>F5 l
def e4(ws:List Nat)(t:Nat->Value)(x:Operand)(v:Bool)(L:List bN)(R:List fJ):gF
 | .normal,t',E,G=>iT t' x=.bool v/\E=L/\G=R/\kT ws t t'
 |_,_,_,_=>False
def P2{P:Program}{o:Oper}{bF:Operand->Value}{a:Act}{next:Act->World->Prop}{Q:Exit->Act->World->Prop}{w w':World}{v:Value}(h:(execOp bF o).run P w=.ok (.value v) w')(k:next (a.put o.dst v) w'):o.upon P a next Q ((execOp bF o).run P w):=by rw[h];exact k
def aHn{P:Program}{o:Oper}{bF:Operand->Value}{a:Act}{next:Act->World->Prop}{Q:Exit->Act->World->Prop}{w w':World}(h:(execOp bF o).run P w=.ok .skip w')(k:next (a.put o.dst undef) w'):o.upon P a next Q ((execOp bF o).run P w):=by rw[h];exact k
def dQ.alloc{c:w3}{L:List bN}{R:List fJ}{w:World}(h:dQ c L R w)(cs:Array Value)(T:TypeId):dQ c (⟨w.heap.size,cs.toList,T⟩::L) R (w.alloc (.cells cs T)):=by
 obtain⟨⟨Z,b4,b7⟩,dG,aG⟩:=h;have pZ:∀b,b<w.heap.size->(w.alloc (.cells cs T)).heap[b]?=w.heap[b]?:=λb a5=>by exact aCg
 refine⟨⟨Z,⟨?_,?_,?_,λb a5=>?_,λr M=>(b4.o8 r M).mono (λ_ h=>h) (λb a5=>pZ b (b4.sM b a5))⟩,b7⟩,?_,⟨aG.os,aG.tape,aG.output,?_,λb a5 b1=>?_,λa=>?_⟩⟩;·simp only[wZ,UF];refine⟨λa3=>?_,b4.nM⟩;obtain⟨e,W,a5⟩:=List.mem_map.1 a3;have:=b4.lt W;omega
 ·
  intro e W;rcases List.mem_cons.1 W with rfl|W;·show(w.heap.push _)[w.heap.size]? =_;simp[RK.Mr]
  ·rw[pZ _ (b4.lt W)];exact b4.own e W
 ·
  intro e W;rcases List.mem_cons.1 W with rfl|W;·exact λh=>absurd (b4.sM _ h) (Nat.lt_irrefl _)
  ·exact b4.tZ e W
 ·have:=b4.sM b a5;simp;omega
 ·
  intro e W;rcases List.mem_cons.1 W with rfl|W;·exact .inr aG.size
  ·exact dG e W
 ·have:=aG.size;simp;omega
 ·rw[pZ b (Wi a5 aG.size)];exact aG.block b a5 b1
 ·rw[RowKit.frozen?_alloc_cells];exact aG.JY a
def dQ.drew{c:w3}{L:List bN}{R:List fJ}{w:World}(h:dQ c L R w):dQ c L R w.drew:=by obtain⟨⟨Z,b4,b7⟩,dG,aG⟩:=h;exact⟨⟨Z,⟨b4.nM,b4.own,b4.tZ,b4.sM,λr M=>sB.mono (w:=w) (w':=w.drew) (Z:=Z) (λ_ h=>h) (λ_ _=>rfl) (b4.o8 r M)⟩,b7⟩,dG,⟨aG.os,aG.tape,aG.output,aG.size,aG.block,aG.JY⟩⟩
inductive s1(b:Nat)(cs:List Value)(T:TypeId)(hR:List Value):List bN->List bN->Prop
 |lT {L}:s1 b cs T hR (⟨b,cs,T⟩::L) (⟨b,hR,T⟩::L)
 |cons {x L E} (h:s1 b cs T hR L E):s1 b cs T hR (x::L) (x::E)
 |s7 {gC L E} (h:s1 b cs T hR L E):s1 b cs T hR (gC++L) (gC++E)
def s1.mem{b cs T hR L E}(h:s1 b cs T hR L E):(⟨b,cs,T⟩:bN)∈L:=by
 induction h with
 |lT=>simp
 |cons _ c6=>exact OV _ c6
 |s7 _ c6=>exact lZ _ c6
def s1.nV{b cs T hR L E}(h:s1 b cs T hR L E):E.map (·.b)=L.map (·.b):=by
 induction h with
 |lT=>rfl
 |cons _ c6=>simp[c6]
 |s7 _ c6=>simp[c6]
def s1.n4{b cs T hR L E}(h:s1 b cs T hR L E):∀e∈E,e=⟨b,hR,T⟩\/e∈L:=by
 induction h with
 |lT=>intro e W;rcases List.mem_cons.1 W with h|h;exact .inl h;exact .inr (OV _ h)
 |cons _ c6=>intro e W;rcases List.mem_cons.1 W with h|h;exact .inr (by rw[h];simp);exact(c6 e h).imp id (OV _)
 |s7 _ c6=>intro e W;rcases List.mem_append.1 W with h|h;exact .inr (r7 _ h);exact(c6 e h).imp id (lZ _)
def aUX(w:World)(g:Nat)(cs:Array Value)(a:Addr):(w.setRow g cs).frozen? a=w.frozen? a:=by
 by_cases h:a.block=g;·
  subst h;unfold World.frozen?;cases a5:w.heap[a.block]? with
  |none=>simp[World.setRow,Array.getElem?_modify,a5]
  |some o=>cases o<;>simp[World.setRow,Array.getElem?_modify,a5]
 ·exact aCI (w:=w) (setRow_other w g _ cs h)
def dQ.setRow{c:w3}{L E:List bN}{R:List fJ}{w:World}{b:Nat}{cs hR:List Value}{T:TypeId}(h:dQ c L R w)(dL:s1 b cs T hR L E):dQ c E R (w.setRow b hR.toArray):=by
 obtain⟨⟨Z,b4,b7⟩,dG,aG⟩:=h;have a5:=b4.own _ dL.mem;have aL4:=b4.tZ _ dL.mem;have b6q:(E.map (·.b)).Nodup:=by rw[dL.nV];exact b4.nM
 -- an entry of M with the number b is the new one
 have aB7:∀e∈E,e.b=b->e=⟨b,hR,T⟩:=by
  have:∀{L E:List bN},s1 b cs T hR L E->(L.map (·.b)).Nodup->∀e∈E,e.b=b->e=⟨b,hR,T⟩:=by
   intro L E dL;induction dL with
   |lT=>
    intro nM e W a5;rcases List.mem_cons.1 W with h|h;·exact h
    ·simp only[wZ,UF]at nM;exact absurd (List.mem_map.2 ⟨e,h,a5⟩) nM.1
   |cons dL c6=>
    intro nM e W a5;simp only[wZ,UF]at nM;rcases List.mem_cons.1 W with h|h;·refine absurd (List.mem_map.2 ⟨_,dL.mem, ?_⟩) nM.1;rw[<-h];exact a5.symm
    ·exact c6 nM.2 e h a5
   |s7 dL c6=>
    intro nM e W a5;rw[u1,Nl]at nM;rcases List.mem_append.1 W with h|h;·exact absurd a5 (nM.2.2 e.b (List.mem_map.2 ⟨e,h,rfl⟩) b (List.mem_map.2 ⟨_,dL.mem,rfl⟩))
    ·exact c6 nM.2.1 e h a5
  exact this dL b4.nM
 refine⟨⟨Z,⟨b6q,λe W=>?_,λe W=>?_,λx K=>by simpa using b4.sM x K,λr M=>(b4.o8 r M).mono (λ_ h=>h) (λx K=>setRow_other w b x _ (λe=>aL4 (e▸K)))⟩,b7⟩,λe W=>?_,⟨aG.os,aG.tape,aG.output,by simpa using aG.size,λx K b1=>?_,λa=>?_⟩⟩;·
  by_cases Fo:e.b=b;·rw[aB7 e W Fo];exact setRow_heap w b _ _ T _ a5
  ·
   rw[setRow_other w b _ _ Fo];rcases dL.n4 e W with h|h;·exact absurd (by rw[h]) Fo
   ·exact b4.own e h
 ·
  rcases dL.n4 e W with h|h;·rw[h];exact aL4
  ·exact b4.tZ e h
 ·
  rcases dL.n4 e W with h|h;·have:=dG _ dL.mem;rw[h];exact this
  ·exact dG e h
 ·
  by_cases Ar:x=b;·
   subst Ar;rcases dG _ dL.mem with h|h;·exact absurd h b1
   ·exact absurd h (Nat.not_le.2 K)
  ·rw[setRow_other w b x _ Ar];exact aG.block x K b1
 ·rw[aUX];exact aG.JY a
section
variable{P:Program}{bF:Operand->Value}{L E:List bN}{R:List fJ}{dst:Option Tmp}{ty:TypeId}{pos:String}{after:Array Edge}{guard:Option (Nat×Bool)}(N:oE P){T:TypeId}{x y:Operand}
def aFG{k n aA g0 z}(dW:hW N.g1 T=some ⟨k,n,aA,g0,z⟩):
 eC P ⟨dst,.alloc T,ty,pos,after,guard⟩ bF L R (λv E G=>∃b,v=.pointer (some ⟨b,0,none⟩)/\E=⟨b,z,T⟩::L/\G=R):=by
 intro c w aH a next Q iB
 obtain⟨oT,xI,EU⟩:=Pr (N.ok _ _ dW) w;simp only at EU;refine P2 (w':=w.alloc (.cells oT.cells T)) (v:=.pointer (some ⟨w.heap.size,0,none⟩)) ?_ (iB _ _ _ _ ⟨w.heap.size,rfl,rfl,rfl⟩ ?_);·simp[execOp,Instr.alloc,xI,newVar,newRow]
 ·rw[<-EU];exact aH.alloc _ _
def aYb{v:Value}(K:bF x=v)(O:v.oneCell'=true):
 eC P ⟨dst,.box T x,ty,pos,after,guard⟩ bF L R (λu E G=>∃b,u=.pointer (some ⟨b,0,none⟩)/\E=⟨b,[v],T⟩::L/\G=R):=by
 intro c w aH a next Q iB
 have cG:v.cells=#[v]:=by cases v<;>first|rfl|(simp[Value.oneCell']at O)
 refine P2 (w':=w.alloc (.cells #[v] T)) (v:=.pointer (some ⟨w.heap.size,0,none⟩)) ?_ (iB _ _ _ _ ⟨w.heap.size,rfl,rfl,rfl⟩ (aH.alloc _ _));simp[execOp,K,Instr.box,newVar,newRow,cG]
def aX4{row:List Value}(K:bF x=.agg row.toArray):
 eC P ⟨dst,.box T x,ty,pos,after,guard⟩ bF L R (λu E G=>∃b,u=.pointer (some ⟨b,0,none⟩)/\E=⟨b,row,T⟩::L/\G=R):=by
 intro c w aH a next Q iB
 refine P2 (w':=w.alloc (.cells row.toArray T)) (v:=.pointer (some ⟨w.heap.size,0,none⟩)) ?_ (iB _ _ _ _ ⟨w.heap.size,rfl,rfl,rfl⟩ (aH.alloc _ _));simp[execOp,K,Instr.box,newVar,newRow,Value.cells]
def a6C{c:w3}{w:World}(aH:dQ c L R w){b o:Nat}{cs vs:List Value}{oD:TypeId}{iW:jD}(dW:FA P T=some iW)(b1:vs.length=iW.L7)(dL:s1 b cs oD (cs.take o++vs++cs.drop (o+vs.length)) L E)
 (qT:o+vs.length<=cs.length) (O:∀v∈vs,v.oneCell'=true) {val:Value} (cY:val.cells=vs.toArray):
 (storeVar T ⟨b,o,none⟩ val).run P w=.ok () (w.setRow b (cs.take o++vs++cs.drop (o+vs.length)).toArray):=by
 have a5:w.heap[b]?=some (.cells cs.toArray oD (0,0)):=by obtain⟨⟨Z,b4,_⟩,_,_⟩:=aH;exact b4.own _ dL.mem
 have cT:=run_storeCells_at P b o oD vs 0 cs.toArray w a5 (by simpa using qT) O;simp only[Nat.add_zero]at cT;simp only[storeVar,w0,run_sizeOf dW,u2,cY];simp[b1,cT]
def aI7{k n aA g0 z b o}{cs vs hR:List Value}{oD:TypeId}(dW:hW N.g1 T=some ⟨k,n,aA,g0,z⟩)(K:bF x= .pointer (some ⟨b,o,none⟩))(aS:bF y= .agg vs.toArray)(b1:vs.length=n)
 (dL:s1 b cs oD hR L E) (qT:Nat.ble (o+vs.length) cs.length=true) (rY:cs.take o++vs++cs.drop (o+vs.length)=hR) (O:vs.all (·.oneCell')=true):
 eC P ⟨none,.store T x y,ty,pos,after,guard⟩ bF L R (λ_ i6 G=>i6=E/\G=R):=by
 intro c w aH a next Q iB
 subst rY;have:=a6C (P:=P) aH (N.ok _ _ dW) b1 dL (KO qT) (List.all_eq_true.1 O) (val:=.agg vs.toArray) rfl;exact aPY
def aJW(cs:List Value)(o:Nat)(v:Value)(h:o<cs.length):cs.take o++[v]++cs.drop (o+1)=cs.set o v:=by rw[List.set_eq_take_append_cons_drop,if_pos h];simp
def aKL{k n aA g0 z b o}{cs hR:List Value}{v:Value}{oD:TypeId}(dW:hW N.g1 T=some ⟨k,n,aA,g0,z⟩)(K:bF x= .pointer (some ⟨b,o,none⟩))(aS:bF y=v)(b1:n=1)
 (dL:s1 b cs oD hR L E) (qT:Nat.blt o cs.length=true) (rY:cs.set o v=hR) (O:v.oneCell'=true):
 eC P ⟨none,.store T x y,ty,pos,after,guard⟩ bF L R (λ_ i6 G=>i6=E/\G=R):=by
 intro c w aH a next Q iB
 have i3:o<cs.length:=by simpa using qT
 subst rY;rw[<-aJW cs o v i3]at dL;have cG:v.cells=#[v]:=by cases v<;>first|rfl|(simp[Value.oneCell']at O)
 have:=a6C (P:=P) (vs:=[v]) aH (N.ok _ _ dW) (by simp[b1]) dL (by simpa using Nat.succ_le_of_lt i3) Xu cG;exact aPY
def UU:List Value->Nat->List Value->List Value
 |cs,_,[]=>cs
 |cs,o,v::vs=>UU (cs.set o v) (o+1) vs
def Oy(aA:List (Nat×Nat))(cs:List Value):List (Nat×List Value)->Option (List Value)
 |[]=>some cs
 |(i,vs)::aD=>match aA[i]? with
  |some (off,size)=>bif Nat.beq vs.length size && Nat.ble (off+vs.length) cs.length then Oy aA (UU cs off vs) aD else none
  |none=>none
def a6d: ∀(vs:List Value) (off j:Nat) (cs:Array Value),(vs.zipIdx j).foldl (λcs (p:Value×Nat)=>cs.setIfInBounds (off+p.2) p.1) cs=(UU cs.toList (off+j) vs).toArray
 |[],_,_,cs=>by simp[UU]
 |v::vs,off,j,cs=>by
  simp only[List.zipIdx_cons,List.foldl_cons,UU]
  rw[a6d vs off (j+1)]
  simp[We]
def aJE(aA:List (Nat×Nat))(aBR:Nat->Option (Nat×Nat))(aP:∀i,aBR i=aA[i]?):∀(parts:List (Nat×Value)) (cs:List Value) (dD:List Value),
 Oy aA cs (parts.map λp=>(p.1,p.2.cells.toList))=some dD->Instr.fill aBR cs.toArray parts=some dD.toArray
 |[],cs,dD,h=>by simp only[XV,Oy,Np]at h;simp[Instr.fill,h]
 |(i,v)::aD,cs,dD,h=>by
  simp only[wZ,Oy]at h
  simp only[Instr.fill,aP]
  cases aF:aA[i]? with
  |none=>rw[aF]at h;cases h
  |some p=>
   obtain⟨off,size⟩:=p
   rw[aF]at h
   simp only at h
   cases a5:(Nat.beq v.cells.toList.length size && Nat.ble (off+v.cells.toList.length) cs.length)with
   |false=>rw[a5]at h;cases h
   |true=>
    rw[a5,cond_true]at h
    simp only[nH,Bt,Nat.ble_eq,aCs]at a5
    have:=aJE aA aBR aP aD _ dD h
    simp only
    rw[if_neg (by simp[a5.1];omega)]
    have eW:v.cells.zipIdx.foldl (λcs (x:Value×Nat)=>cs.setIfInBounds (off+x.2) x.1) cs.toArray=(UU cs off v.cells.toList).toArray:=by
     rw[<-Array.foldl_toList]
     have:=a6d v.cells.toList off 0 cs.toArray
     simpa using this
    rw[show(v.cells.zipIdx.foldl (λcs (c,j)=>cs.setIfInBounds (off+j) c) cs.toArray)=(UU cs off v.cells.toList).toArray from eW]
    exact this
def Sk(bF:Operand->Value):List (Nat×Operand)->List (Nat×List Value)
 |[]=>[]
 |(i,x)::l=>(i,(bF x).cells.toList)::Sk bF l
def aIU(bF:Operand->Value)(l:List (Nat×Operand)):Sk bF l=(l.map λp=>(p.1,bF p.2)).map λp=>(p.1,p.2.cells.toList):=by
 induction l with
 |nil=>rfl
 |cons p l c6=>obtain⟨i,x⟩:=p;simp[Sk,c6]
def aXC(w:World):∀(l:List Field),(∀f∈l,((P.info? f.type).map (·.size)).getD 0≠0)->
 (l.mapM λf=>(do pure (f.offset,<-sizeOf f.type):Sem (Nat×Nat))).run P w=.ok (l.map λf=>(f.offset,((P.info? f.type).map (·.size)).getD 0)) w:=by
 intro l;induction l with
 |nil=>intro _;simp
 |cons f l c6=>
  intro aX;have O:=aX f g2;cases a6:P.info? f.type with
  |none=>rw[a6]at O;simp at O
  |some j=>have b6c:=c6 λg b7=>aX g (by simp[b7]);(have aH:(sizeOf f.type).run P w=.ok j.size w:=by simp[sizeOf,typeInfo,a6]);rw[List.mapM_cons];simp only[w0,aH,u2,KQ,b6c,wZ,a6,Bw,aCB]
def oU{n aA g0 z}{ps:List (Nat×Operand)}{iD:List (Nat×List Value)}{dD:List Value}(dW:hW N.g1 T=some ⟨.struct,n,aA,g0,z⟩)(aBj:aA.all (λp=>!Nat.beq p.2 0)=true)(cJ:Sk bF ps=iD)(aF:Oy aA z iD=some dD):
 cP P ⟨dst,.build T ps.toArray,ty,pos,after,guard⟩ bF L R (.agg dD.toArray):=λ_ w _=>by
 obtain⟨sL,dL,gA⟩:=a4w (N.ok _ _ dW) rfl
 obtain⟨oT,xI,EU⟩:=Pr (N.ok _ _ dW) w
 simp only at gA EU
 subst cJ
 rw[aIU]at aF
 have qS:∀f∈sL.toList,((P.info? f.type).map (·.size)).getD 0≠0:=by
  intro f a3 b2
  rw[gA,List.all_map,List.all_eq_true]at aBj
  have:=aBj f a3
  simp[b2]at this
 have eI:=aXC (P:=P) w sL.toList qS
 rw[<-gA]at eI
 have a9D:=aJE aA (λi=>aA.toArray[i]?) (λi=>by simp) (ps.map λp=>(p.1,bF p.2)) z dD aF
 have b55:oT.cells=z.toArray:=by rw[<-EU]
 have a90:(ps.toArray.map λ(p:Nat×Operand)=>(p.1,bF p.2)).toList=ps.map λp=>(p.1,bF p.2):=by simp
 have AQ:sL=sL.toList.toArray:=by simp
 have a3:(sL.mapM λf=>(do pure (f.offset,<-sizeOf f.type):Sem (Nat×Nat))).run P w=.ok aA.toArray w:=by
  rw[AQ,List.mapM_toArray]
  simp only[Sem.run_map,eI,u2]
 have a9J:(Instr.build T (ps.toArray.map λ(p:Nat×Operand)=>(p.1,bF p.2))).run P w=.ok (.agg dD.toArray) w:=by
  unfold Instr.build
  simp only[w0,xI,u2,run_underlying dL,a3,b55,a90]
  rw[a9D]
  simp
 show(execOp bF ⟨dst,.build T ps.toArray,ty,pos,after,guard⟩).run P w=_
 have e:execOp bF ⟨dst,.build T ps.toArray,ty,pos,after,guard⟩=(do pure (.value (<-Instr.build T (ps.toArray.map λ(p:Nat×Operand)=>(p.1,bF p.2))))):=rfl
 rw[e]
 simp only[w0,a9J,u2]
 rfl
end
section
variable{P:Program}{n:Nat}{all:Array Oper}{ty:TypeId}{pos:String}{after:Array Edge}{aD:List Oper}{t:Nat->Value}{L E:List bN}{R:List fJ}{Q:gF}{d:Tmp}(N:oE P){T:TypeId}{x y:Operand}
def dT{f:FuncId}{xs:List Operand}{qY:Array TypeId}{args:List Value}{Post:oK}(bT:xs.map (iT t)=args)(h:aM P f args.toArray L R Post)(bM:Nat.blt d n=true)
 (k:∀v E G,Post v E G->dF P n all aD (kR t d v) E G Q):dF P n all (⟨some d,.call ⟨.value (.func f),xs.toArray,qY⟩,ty,pos,after,none⟩::aD) t L R Q:=
 hT (Rk a34 rfl h) bM k
def aVL{k m aA g0 z}(dW:hW N.g1 T=some ⟨k,m,aA,g0,z⟩)(bM:Nat.blt d n=true)
 (h:∀b,dF P n all aD (kR t d (.pointer (some ⟨b,0,none⟩))) (⟨b,z,T⟩::L) R Q):dF P n all (⟨some d,.alloc T,ty,pos,after,none⟩::aD) t L R Q:=
 hT (aFG N dW) bM λv E G ⟨b,eV,fN,n5⟩=>by subst eV;subst fN;subst n5;exact h b
def a6T{v:Value}(K:iT t x=v)(O:v.oneCell'=true)(bM:Nat.blt d n=true)
 (h:∀b,dF P n all aD (kR t d (.pointer (some ⟨b,0,none⟩))) (⟨b,[v],T⟩::L) R Q):dF P n all (⟨some d,.box T x,ty,pos,after,none⟩::aD) t L R Q:=
 hT (aYb K O) bM λv E G ⟨b,eV,fN,n5⟩=>by subst eV;subst fN;subst n5;exact h b
def aTE{row:List Value}(K:iT t x= .agg row.toArray)(bM:Nat.blt d n=true)
 (h:∀b,dF P n all aD (kR t d (.pointer (some ⟨b,0,none⟩))) (⟨b,row,T⟩::L) R Q):dF P n all (⟨some d,.box T x,ty,pos,after,none⟩::aD) t L R Q:=
 hT (aX4 K) bM λv E G ⟨b,eV,fN,n5⟩=>by subst eV;subst fN;subst n5;exact h b
def Rm{k m aA g0 z b o}{cs hR:List Value}{v:Value}{oD:TypeId}(dW:hW N.g1 T=some ⟨k,m,aA,g0,z⟩)(K:iT t x= .pointer (some ⟨b,o,none⟩))(aS:iT t y=v)(b1:m=1)
 (dL:s1 b cs oD hR L E) (qT:Nat.blt o cs.length=true) (rY:cs.set o v=hR) (O:v.oneCell'=true)
 (h:dF P n all aD t E R Q):dF P n all (⟨none,.store T x y,ty,pos,after,none⟩::aD) t L R Q:=
 jH (aKL N dW K aS b1 dL qT rY O) λ_ i6 G ⟨eV,fN⟩=>by subst eV;subst fN;exact h
def P8{k m aA g0 z b o}{cs vs hR:List Value}{oD:TypeId}(dW:hW N.g1 T=some ⟨k,m,aA,g0,z⟩)(K:iT t x= .pointer (some ⟨b,o,none⟩))(aS:iT t y= .agg vs.toArray)(b1:vs.length=m)
 (dL:s1 b cs oD hR L E) (qT:Nat.ble (o+vs.length) cs.length=true) (rY:cs.take o++vs++cs.drop (o+vs.length)=hR) (O:vs.all (·.oneCell')=true)
 (h:dF P n all aD t E R Q):dF P n all (⟨none,.store T x y,ty,pos,after,none⟩::aD) t L R Q:=
 jH (aI7 N dW K aS b1 dL qT rY O) λ_ i6 G ⟨eV,fN⟩=>by subst eV;subst fN;exact h
def aZ6{k m aA g0 z b}{cs vs:List Value}{oD:TypeId}(dW:hW N.g1 T=some ⟨k,m,aA,g0,z⟩)(K:iT t x= .pointer (some ⟨b,0,none⟩))(aS:iT t y= .agg vs.toArray)(b1:vs.length=m)
 (dL:s1 b cs oD vs L E) (qT:vs.length=cs.length) (O:vs.all (·.oneCell')=true)
 (h:dF P n all aD t E R Q):dF P n all (⟨none,.store T x y,ty,pos,after,none⟩::aD) t L R Q:=
 P8 N dW K aS b1 dL (by simp[qT]) (by simp[qT]) O h
end
def Oper.wp_put{P:Program}{o:Oper}{a:Act}{w:World}{fS:Act->World->Prop}{Q:Exit->Act->World->Prop}(h:o.wp P a w fS Q):
 o.wp P a w (λfA w'=>fS fA w'/\∃v,fA.tmps=(a.put o.dst v).tmps) Q:=by
 unfold Oper.wp at*;generalize (execOp a.eval o).run P w=r at*;cases r with
 |ok x w'=>
  cases x<;>simp only[Oper.upon]at h|- <;>
   first
    |exact⟨h,_,rfl⟩
    |exact Calls.mono h (λe Wc W=>by cases e<;>first|exact⟨W,_,rfl⟩|exact W)
    |exact Rows.mono h (λ_ _ W=>⟨W,_,rfl⟩)
    |exact h
    |skip
  case defer d=>exact⟨h,undef,by cases o.dst<;>rfl⟩
 |halt x w'=>cases x<;>exact h
def a5Z{P:Program}{all:Array Oper}{j:Nat}{o9:Bool}{a9:Nat}{Q K6:Exit->Act->World->Prop}{tail:List Oper}(a6:(all[j]?).bind (·.dst)=some a9)
 (QF:∀e a w,e≠.normal->Q e a w->K6 e a w) (dW:∀a w,Q .normal a w->wpList P all K6 tail a w):
 ∀(Z:List Oper) (ds:List Nat),VZ all j o9 a9 ds Z=true->∀(a:Act) (w:World),a.tmps[a9]?=some (.bool o9)->
  wpList P all Q (RW j o9 Z) a w->wpList P all K6 (Z++tail) a w
 |[],_,_,a,w,_,h=>dW a w h
 |o::Z,ds,bH,a,w,cG,h=>by
  simp only[VZ,nH]at bH
  obtain⟨b7,DC⟩:=bH
  have b50:yielded all a.tmps j=some o9:=by
   unfold yielded
   rw[a6]
   simp[cG]
  -- the stripped operation runs as the operation itself
  have a2t:∃o',RW j o9 (o::Z)=o'::RW j o9 Z/\o'.op=o.op/\o'.dst=o.dst/\o'.type=o.type/\Region.wanted o' (yielded all a.tmps)=Region.wanted o (yielded all a.tmps):=by
   cases Z6:o.guard with
   |none=>exact⟨o,by simp[RW,Z6],rfl,rfl,rfl,rfl⟩
   |some p=>
    obtain⟨k,qZ⟩:=p
    cases a5:(Nat.beq k j && (qZ==o9))with
    |false=>exact⟨o,by simp[RW,Z6,a5],rfl,rfl,rfl,rfl⟩
    |true=>
     simp only[nH,Bt,beq_iff_eq]at a5
     refine⟨{o with guard:=none},by simp[RW,Z6,a5.1,a5.2],rfl,rfl,rfl,?_⟩
     simp[Region.wanted,Z6,a5.1,a5.2,b50]
  obtain⟨o',eV,fN,n5,F7,Ek⟩:=a2t
  rw[eV]at h
  have next:∀(fA:Act) (w':World) (v:Value),fA.tmps=(a.put o.dst v).tmps->wpList P all Q (RW j o9 Z) fA w'->wpList P all K6 (Z++tail) fA w':=by
   intro fA w' v cY c4
   have ZY:fA.tmps[a9]?=some (.bool o9):=by
    rw[cY]
    cases bM:o.dst with
    |none=>exact cG
    |some d=>
     rw[bM]at DC
     simp only[nH,Wj]at DC
     have jF:d≠a9:=λe=>by rw[e]at DC;simp at DC
     simp only[Act.put]
     rw[Wk jF]
     exact cG
   cases bM:o.dst with
   |none=>rw[bM]at DC;exact a5Z a6 QF dW Z ds DC fA w' ZY c4
   |some d=>rw[bM]at DC;simp only[nH]at DC;exact a5Z a6 QF dW Z _ DC.2 fA w' ZY c4
  have TG:∀a:Act,execOp a.eval o'=execOp a.eval o:=by
   intro a
   obtain⟨r4,b6L,b6M,op,b6H,b6I⟩:=o
   obtain⟨lV,bAL,zL,rE,B9,bAK⟩:=o'
   simp only at fN n5 F7
   subst fN;subst n5;subst F7
   rfl
  simp only[pK]
  unfold wpList at h|-
  rw[Ek]at h
  split
  ·rename_i dH
   rw[if_pos dH]at h
   rcases h with h|⟨h,X⟩
   ·refine .inl ?_
    have c4:=Oper.wp_put h
    unfold Oper.wp at c4|-
    rw[TG]at c4
    generalize (execOp a.eval o).run P w=r at*
    cases r with
    |ok x w'=>
     cases x<;>simp only[Oper.upon,n5]at c4|- <;>
      first
       |(obtain⟨O,v,cY⟩:=c4;exact next _ _ v cY O)
       |exact c4
       |skip
     case enter f args=>
      refine Calls.mono c4 λe Wc W=>?_
      cases e with
      |returned u=>obtain⟨O,v,cY⟩:=W;exact next _ _ v cY O
      |panicked c=>exact QF _ _ _ g2 W
      |outgrown=>obtain⟨F6,gV,W⟩:=W;exact⟨F6,gV,QF _ _ _ g2 W⟩
     case row row args=>exact Rows.mono c4 λu Wc W=>by obtain⟨O,v,cY⟩:=W;exact next _ _ v cY O
    |halt x w'=>
     cases x<;>simp only[Oper.upon]at c4|- <;>first|exact c4|exact QF _ _ _ g2 c4
   ·refine .inr ⟨?_, ?_⟩
    ·unfold Oper.asks at*
     rw[TG]at h
     exact h
    ·obtain⟨F6,gV,W⟩:=X;exact⟨F6,gV,QF _ _ _ g2 W⟩
  ·rename_i dH
   rw[if_neg dH,n5]at h
   exact next _ _ undef rfl h
def a6U{P:Program}{all:Array Oper}{j:Nat}{o9:Bool}{a9:Nat}{K6:Exit->Act->World->Prop}{tail:List Oper}(a6:(all[j]?).bind (·.dst)=some a9):
 ∀(Z:List Oper) (ds:List Nat),VZ all j o9 a9 ds Z=true->∀(a:Act) (w:World),a.tmps[a9]?=some (.bool (!o9))->(∀d,xX d ds=true->a.tmps.getD d undef=undef)->
  (∀fA:Act,fA.defers=a.defers->fA.tmps.size=a.tmps.size->(∀d,xX d (F5 Z)=false->fA.tmps.getD d undef=a.tmps.getD d undef)->wpList P all K6 tail fA w)->wpList P all K6 (Z++tail) a w
 |[],_,_,a,w,_,_,h=>h a rfl rfl (λ_ _=>rfl)
 |o::Z,ds,bH,a,w,cG,nX,h=>by
  simp only[VZ,nH]at bH
  obtain⟨b7,DC⟩:=bH
  have dH:Region.wanted o (yielded all a.tmps)=false:=by
   cases Z6:o.guard with
   |none=>rw[Z6]at b7;cases b7
   |some p=>
    obtain⟨k,qZ⟩:=p
    rw[Z6]at b7
    simp only[Nq,nH,Bt,beq_iff_eq]at b7
    unfold Region.wanted
    rw[Z6]
    rcases b7 with⟨aG,W7⟩|b7
    ·subst aG;subst W7
     have:yielded all a.tmps k=some (!qZ):=by unfold yielded;rw[a6];simp[cG]
     simp only[this]
     cases qZ<;>rfl
    ·cases bM:(all[k]?).bind (·.dst)with
     |none=>rw[bM]at b7;cases b7
     |some d=>
      rw[bM]at b7
      have b2:=nX d b7
      have:yielded all a.tmps k=none:=by
       unfold yielded
       rw[bM]
       simp only[Ns]
       rcases hF d a.tmps.size with c4|c4
       ·simp only[aCD,Array.getElem?_eq_getElem c4,aCB]at b2
        rw[Array.getElem?_eq_getElem c4,b2]
        rfl
       ·rw[IV c4]
      simp[this]
  simp only[pK]
  unfold wpList
  rw[dH,if_neg g2]
  cases bM:o.dst with
  |none=>
   rw[bM]at DC
   refine a6U a6 Z ds DC a w cG nX ?_
   intro fA O X aU
   exact h fA O X (by simpa[F5,bM]using aU)
  |some d=>
   rw[bM]at DC
   simp only[nH,Wj]at DC
   have jF:d≠a9:=λe=>by have:=DC.1;rw[e]at this;simp at this
   refine a6U a6 Z (d::ds) DC.2 _ w ?_ ?_ ?_
   ·simp only[Act.put]
    rw[Wk jF]
    exact cG
   ·intro x K
    simp only[Act.put]
    by_cases TX:x=d
    ·subst TX
     rcases hF x a.tmps.size with c4|c4
     ·simp[c4]
     ·simp[c4]
    ·simp only[xX,SY TX,cond_false]at K
     have:=nX x K
     simp only[aCD]at this|-
     rw[Wk (XW TX)]
     exact this
   ·intro fA O X aU
    refine h fA O (by rw[X];simp[Act.put]) (λx K=>?_)
    simp only[F5,bM,xX]at K
    have TX:x≠d:=λe=>by rw[e]at K;simp at K
    rw[SY TX,cond_false]at K
    rw[aU x K]
    simp only[Act.put,aCD]
    rw[Wk (XW TX)]
section
variable{P:Program}{n:Nat}{all:Array Oper}{ty:TypeId}{pos:String}{after:Array Edge}{aD:List Oper}{t:Nat->Value}{L E:List bN}{R:List fJ}{Q:gF}{d:Tmp}{y:Operand}
def aFk{Z:List Oper}{j a9:Nat}{o9 u v:Bool}{c:Bool}{XN XO IU:Operand}(a6:(all[j]?).bind (·.dst)=some a9)(EN:Nat.blt a9 n=true)(bH:VZ all j o9 a9 [] Z=true)(Ge:xX a9 (F5 Z)=false)
 (cG:t a9=.bool c) (bM:Nat.blt d n=true)
 (aMX:(if o9 then XN else XO)=IU/\(if o9 then XO else XN)=.const (.bool u))
 (h:c=o9->dF P n all (RW j o9 Z) t L R (e4 (F5 Z) t IU v L R))
 (k:∀cH,dF P n all aD (kR (x7 (F5 Z) t cH) d (.bool (if c=o9 then v else u))) L R Q):
 dF P n all (Z++⟨some d,.pick (.tmp a9) XN XO,ty,pos,after,none⟩::aD) t L R Q:=by
 intro Sf a w aF aH;have b28:a9<a.tmps.size:=by rw[aF.size];simpa using EN
 have aL8:a.tmps[a9]?=some (.bool c):=by have:=aF.val a9;rw[cG]at this;simpa[b28]using this
 have S4:∀(fA:Act) (w':World) (t':Nat->Value) (b:Bool),mS n t' fA->dQ Sf L R w'->kT (F5 Z) t t'->(if c then iT t' XN else iT t' XO)=.bool b->b=(if c=o9 then v else u)->
  wpList P all (FF n Sf Q) (⟨some d,.pick (.tmp a9) XN XO,ty,pos,after,none⟩::aD) fA w':=by
  intro fA w' t' b xF r1 dG a5 e;have b24:iT t' (.tmp a9)=.bool c:=(dG a9 Ge).trans cG;have aS:cP P ⟨some d,.pick (.tmp a9) XN XO,ty,pos,after,none⟩ (iT t') L R (.bool b):=by rw[<-a5];exact aGJ b24
  refine aI aS bM ?_ Sf fA w' xF r1;rw[e];have:=k t';rwa[Pq dG]at this
 by_cases Lr:c=o9;·
  subst Lr;refine a5Z (Q:=FF n Sf (e4 (F5 Z) t IU v L R)) a6 (λe a w jF cJ=>?_) (λfA w' cJ=>?_) Z [] bH a w aL8 (h rfl Sf a w aF aH);·obtain⟨_,t',E,G,cJ,_⟩:=cJ;cases e<;>first|exact cJ.elim|exact absurd rfl jF
  ·obtain⟨_,t',E,G,cJ,xF,r1⟩:=cJ;obtain⟨eV,fN,n5,F7⟩:=cJ;subst fN;subst n5;refine S4 fA w' t' v xF r1 F7 ?_ g2;rw[<-eV,<-aMX.1];cases c<;>rfl
 ·
  have b2Z:a.tmps[a9]? =some (.bool (!o9)):=by rw[aL8];cases c<;>cases o9<;>simp_all
  refine a6U a6 Z [] bH a w b2Z (λd bM=>by cases bM) (λfA O X aU=>?_);refine S4 fA w (λk=>fA.tmps.getD k undef) u ⟨O.trans aF.defers,X.trans aF.size,λ_=>rfl⟩ aH (λk aG=>(aU k aG).trans (aF.val k)) ?_ (by rw[if_neg Lr]);have:(if o9 then XO else XN)=.const (.bool u):=aMX.2;cases c<;>cases o9<;>simp_all [iT]
def iR{Z:List Oper}{j a9:Nat}{v c:Bool}{IU:Operand}(a6:(all[j]?).bind (·.dst)=some a9)(EN:Nat.blt a9 n=true)(bH:VZ all j true a9 [] Z=true)(Ge:xX a9 (F5 Z)=false)
 (cG:t a9=.bool c) (bM:Nat.blt d n=true) (h:c=true->dF P n all (RW j true Z) t L R (e4 (F5 Z) t IU v L R))
 (k:∀cH,dF P n all aD (kR (x7 (F5 Z) t cH) d (.bool (c && v))) L R Q):
 dF P n all (Z++⟨some d,.pick (.tmp a9) IU (.const (.bool false)),ty,pos,after,none⟩::aD) t L R Q:=
 aFk (o9:=true) (u:=false) a6 EN bH Ge cG bM ⟨rfl,rfl⟩ h (λcH=>by have:=k cH;cases c<;>exact this)
def cA{Z:List Oper}{j a9:Nat}{v c:Bool}{IU:Operand}(a6:(all[j]?).bind (·.dst)=some a9)(EN:Nat.blt a9 n=true)(bH:VZ all j false a9 [] Z=true)(Ge:xX a9 (F5 Z)=false)
 (cG:t a9=.bool c) (bM:Nat.blt d n=true) (h:c=false->dF P n all (RW j false Z) t L R (e4 (F5 Z) t IU v L R))
 (k:∀cH,dF P n all aD (kR (x7 (F5 Z) t cH) d (.bool (c||v))) L R Q):
 dF P n all (Z++⟨some d,.pick (.tmp a9) (.const (.bool true)) IU,ty,pos,after,none⟩::aD) t L R Q:=
 aFk (o9:=false) (u:=true) a6 EN bH Ge cG bM ⟨rfl,rfl⟩ h (λcH=>by have:=k cH;cases c<;>exact this)
def b0S{ws:List Nat}{kZ:Nat->Value}{IU:Operand}{v:Bool}(O:iT t IU=.bool v)(X:kT ws kZ t):e4 ws kZ IU v L R .normal t L R:=⟨O,rfl,rfl,X⟩
end
def dQ.frame{F L E:List bN}{R G:List fJ}{Z:Nat->Prop}{w w':World}(h:sZ (F++L) Z R w)(k:dQ ⟨w,zF L,Z⟩ E G w'):dQ ⟨w,zF (F++L),Z⟩ (F++E) G w':=by
 obtain⟨⟨I4,b4,b7⟩,dG,aG⟩:=k;have tW:=h.nM;rw[u1,Nl]at tW;have a76:∀e∈F,¬zF L e.b:=λe W ⟨uQ,uU,a5⟩=>tW.2.2 e.b (List.mem_map.2 ⟨e,W,rfl⟩) uQ.b (List.mem_map.2 ⟨uQ,uU,rfl⟩) a5.symm;have a79:∀e∈F,e.b<w.heap.size:=λe W=>h.lt (r7 _ W);have b1G:∀e∈F,¬Z e.b:=λe W=>h.tZ e (r7 _ W);have b1K:∀e∈F,w'.heap[e.b]?=w.heap[e.b]?:=λe W=>aG.block e.b (a79 e W) (a76 e W);refine⟨⟨I4,⟨?_,λe W=>?_,λe W n7=>?_,b4.sM,b4.o8⟩,λb a5=>?_⟩,λe W=>?_,⟨aG.os,aG.tape,aG.output,aG.size,λb a5 b1=>aG.block b a5 (λaE=>b1 ?_),aG.JY⟩⟩;·
  rw[u1,Nl];refine⟨tW.1,b4.nM,λx K y aS Q0=>?_⟩;obtain⟨e,W,rfl⟩:=List.mem_map.1 K;obtain⟨uQ,uU,rfl⟩:=List.mem_map.1 aS;rcases dG uQ uU with O|O;·rw[<-Q0]at O;exact a76 e W O
  ·rw[<-Q0]at O;exact absurd (a79 e W) (Nat.not_lt.2 O)
 ·
  rcases List.mem_append.1 W with W|W;·rw[b1K e W];exact h.own e (r7 _ W)
  ·exact b4.own e W
 ·
  rcases List.mem_append.1 W with W|W;·
   rcases b7 e.b n7 with O|O|O;·exact b1G e W O
   ·exact absurd (a79 e W) (Nat.not_lt.2 O)
   ·exact a76 e W O
  ·exact b4.tZ e W n7
 ·
  rcases b7 b a5 with O|O|⟨e,W,O⟩;·exact .inl O
  ·exact .inr (.inl O)
  ·exact .inr (.inr ⟨e,lZ _ W,O⟩)
 ·
  rcases List.mem_append.1 W with W|W;·exact .inl ⟨e,r7 _ W,rfl⟩
  ·
   rcases dG e W with⟨uQ,uU,O⟩|O;·exact .inl ⟨uQ,lZ _ uU,O⟩
   ·exact .inr O
 ·obtain⟨e,W,O⟩:=aE;exact⟨e,lZ _ W,O⟩
def eC.frame{P op bF L R}{Post:oK}(h:eC P op bF L R Post)(F:List bN):eC P op bF (F++L) R (λv i6 G=>∃E,i6=F++E/\Post v E G):=by
 intro c w aH a next Q k
 obtain⟨⟨Z,b4,b7⟩,dG,aG⟩:=aH;have dI:sZ L Z R w:=⟨(List.nodup_append.1 (by have:=b4.nM;rwa[u1]at this)).2.1,λe W=>b4.own e (lZ _ W),λe W=>b4.tZ e (lZ _ W),b4.sM,b4.o8⟩;exact h ⟨w,zF L,Z⟩ w (dQ.XB dI) a next Q λv E G w' aP cT=>k v _ G w' ⟨E,rfl,aP⟩ (dQ.trans ⟨⟨Z,b4,b7⟩,dG,aG⟩ b7 (dQ.frame b4 cT))
def lC:Op->Nat
 | .alloc _=>1
 | .move _| .assign _| .pick .. | .build .. | .load .. | .nilCheck _| .binOp .. | .unOp .. | .convert .. | .slice .. | .fieldAddr .. | .field .. | .indexAddr .. | .index .. | .extract .. | .makeInterface ..=>0
 | .call c=>match c.callee with
  | .builtin .len| .builtin .cap| .builtin .min| .builtin .max=>0
  |_=>2
 |_=>2
def UI{P:Program}(N:oE P)(T:TypeId):List Value:=match hW N.g1 T with
 |some iW=>iW.z
 |none=>[]
def dV(P:Program)(N:oE P)(n:Nat)(all:Array Oper)(cW:List bN)(fS:gF):List Oper->(Nat->Value)->List bN->List fJ->Prop
 |[],t,L,R=>fS .normal t L R
 |o::aD,t,L,R=>S2 n o.dst=true/\
  ((oY all t o.guard=false/\lC o.op≠1/\dV P N n all cW fS aD (xW t o.dst undef) L R)\/
   (oY all t o.guard=true/\lC o.op=0/\∃v,cP P o (iT t) cW R v/\dV P N n all cW fS aD (xW t o.dst v) L R)\/
   (lC o.op=1/\∃T,o.op=.alloc T/\∀b,dV P N n all cW fS aD (xW t o.dst (.pointer (some ⟨b,0,none⟩))) (⟨b,UI N T,T⟩::L) R)\/
   (oY all t o.guard=true/\lC o.op=2/\∃Post,eC P o (iT t) L R Post/\∀v E G,Post v E G->cW.Sublist E/\(∀r∈R,aL r G)/\dV P N n all cW fS aD (xW t o.dst v) E G))
def vE(ops:Array Oper)(i:Nat):Nat:=match ops[i]? with
 |some o=>lC o.op
 |none=>3
def Rx(ops:Array Oper)(p:Nat->Bool)(done:Array Bool):Array Bool:=
 (Array.range ops.size).map λi=>done.getD i true||(Nat.beq (vE ops i) 1 && p i)
def K8(ops:Array Oper)(done:Array Bool):List Nat->Bool
 |[]=>(Region.ready .any ops done).isEmpty
 |i::aD=>
  (Region.ready .any ops done).contains i &&
  (match vE ops i with
   |0=>Region.free .any ops done i
   |1=>(Region.ready .any ops (Rx ops (λk=>!Nat.beq k i) done)).all λj=>Nat.beq (vE ops j) 1
   |_=>(Region.ready .any ops (Rx ops (λ_=>true) done)).all λj=>Nat.beq j i) &&
  K8 ops (done.setIfInBounds i true) aD
def Dz{P:Program}(N:oE P)(n:Nat)(ops:Array Oper):Bool:=
 (List.range ops.size).all λi=>match ops[i]? with
  |some o=>match o.op with
   | .alloc T=>o.guard.isNone && (hW N.g1 T).isSome && (match o.dst with
    |some d=>Nat.blt d n && (List.range ops.size).all λj=>Nat.beq j i||match ops[j]? with
     |some lL=>lL.dst !=some d
     |none=>true
    |none=>false) && Region.free .any ops (Array.replicate ops.size false) i
   |_=>true
  |none=>true
structure G8 where
 i:Nat
 d:Nat
 b:Nat
 T:TypeId
def B8(t:Nat->Value):List G8->Nat->Value
 |[]=>t
 |e::gO=>kR (B8 t gO) e.d (.pointer (some ⟨e.b,0,none⟩))
def VB{P:Program}(N:oE P)(gO:List G8):List bN:=gO.map λe=>⟨e.b,UI N e.T,e.T⟩
def aFA{P:Program}{aNC:Region.Mode}{ops:Array Oper}{Q:Exit->Act->World->Prop}{S YN:World->Prop}(eL:∀w,YN w->S w):∀(f:Nat) (l:Array Bool) (a:Act) (w:World),
 wpAnyH P aNC ops Q YN f l a w->wpAnyH P aNC ops Q S f l a w
 |0,_,_,_,h=>h
 |f+1,_,_,_,h=>⟨h.1,λi aE=>wpOp_mono (λfA w' c4=>⟨eL _ c4.1,aFA eL f _ fA w' c4.2⟩) (h.2 i aE)⟩
structure UO{P:Program}(N:oE P)(n:Nat)(ops:Array Oper)(done dJ:Array Bool)(gO:List G8):Prop where
 size:dJ.size=done.size
 dJ:∀i d,dJ.getD i d=true↔done.getD i d=true\/∃e∈gO,e.i=i
 op:∀e∈gO,∃o,ops[e.i]?=some o/\o.op=.alloc e.T/\o.dst=some e.d/\o.guard=none
 uR:∀e∈gO,done.getD e.i true=false
 nM:(gO.map (·.i)).Nodup
 Vk:(gO.map (·.d)).Nodup
def aYC{ops:Array Oper}{i:Nat}{KF:Oper}(aE:ops[i]? =some KF)(h:Region.free .any ops (Array.replicate ops.size false) i=true){j:Nat}{lL:Oper}(a6:ops[j]? =some lL)(jF:j≠i)
 (vO:∀e∈lL.after,Region.binds .any e=true->e.on≠i):KF.apart ops lL=true:=by refine a3p aE h j lL a6 jF ?_ vO;have:j<ops.size:=(Array.getElem?_eq_some_iff.1 a6).1;simp[this]
section
variable{P:Program}{N:oE P}{n:Nat}{ops:Array Oper}{c:w3}{cW:List bN}{fS:gF}
def a61(h:Dz N n ops=true){i:Nat}{o:Oper}{T:TypeId}(aE:ops[i]?=some o)(dG:o.op=.alloc T):
 o.guard=none/\(∃iW,hW N.g1 T=some iW)/\(∃d,o.dst=some d/\d<n/\∀j lL,ops[j]?=some lL->j≠i->lL.dst≠some d)/\Region.free .any ops (Array.replicate ops.size false) i=true:=by
 have O:=List.all_eq_true.1 h i (List.mem_range.2 (Array.getElem?_eq_some_iff.1 aE).1);simp only[aE,dG,nH,Option.isNone_iff_eq_none]at O;obtain⟨⟨⟨O,X⟩,aU⟩,cK⟩:=O;refine⟨O,Option.isSome_iff_exists.1 X,?_,cK⟩;cases bM:o.dst with
 |none=>rw[bM]at aU;cases aU
 |some d=>rw[bM]at aU;simp only[nH]at aU;refine⟨d,rfl,by simpa using aU.1,λj lL a6 jF e=>?_⟩;have fY:=List.all_eq_true.1 aU.2 j (List.mem_range.2 (Array.getElem?_eq_some_iff.1 a6).1);simp[a6,SY jF,e]at fY
def a7t{t:Nat->Value}{k:Nat}: ∀{gO:List G8},(∀e∈gO,e.d≠k)->B8 t gO k=t k
 |[],_=>rfl
 |e::gO,h=>by
  have O:=h e g2
  simp only[B8,kR,SY (XW O),cond_false]
  exact a7t λe W=>h e (by simp[W])
def a1s{t:Nat->Value}{d:Option Tmp}{v:Value}: ∀{gO:List G8},(∀e∈gO,d≠some e.d)->xW (B8 t gO) d v=B8 (xW t d v) gO
 |[],_=>rfl
 |e::gO,h=>by
  have O:=h e g2
  have c6:=a1s (t:=t) (d:=d) (v:=v) (gO:=gO) λe W=>h e (by simp[W])
  simp only[B8]
  rw[<-c6]
  cases d with
  |none=>rfl
  |some d=>
   have jF:d≠e.d:=λuQ=>O (by rw[uQ])
   funext k
   simp only[xW,kR]
   by_cases aG:k=d
   ·subst aG
    simp[SY jF]
   ·rw[SY aG,cond_false,cond_false]
def aVr{t:Nat->Value}{o:Oper}(aH:∀cs b,o.op≠.select cs b){gO:List G8}(h:∀e∈gO,e.d∉o.looksAt ops):execOp (iT (B8 t gO)) o=execOp (iT t) o:=by
 refine execOp_congr o aH λx K=>?_;cases x with
 |tmp k=>refine a7t λe W aG=>h e W ?_;subst aG;exact r7 _ (List.mem_filterMap.2 ⟨.tmp e.d,by simpa using K,rfl⟩)
 |_=>rfl
def aFI{t:Nat->Value}{o:Oper}{gO:List G8}(h:∀e∈gO,e.d∉o.looksAt ops):oY ops (B8 t gO) o.guard=oY ops t o.guard:=by
 unfold oY;cases b7:o.guard with
 |none=>rfl
 |some p=>
  obtain⟨j,o9⟩:=p;have:Kk ops (B8 t gO) j=Kk ops t j:=by
   unfold Kk;cases bM:(ops[j]?).bind (·.dst)with
   |none=>rfl
   |some d=>have:B8 t gO d=t d:=a7t λe W aG=>h e W (by subst aG;exact lZ _ (by simp[b7,bM]));simp only[this]
  simp only[this]
def aG0(hC:Dz N n ops=true){done dJ:Array Bool}{gO:List G8}(c5:UO N n ops done dJ gO){i:Nat}{o:Oper}(aE:ops[i]? =some o)(kG: ∀e∈gO,e.i≠i)
 (TS:∀e∈o.after,Region.binds .any e=true->done.getD e.on false=true):∀e∈gO,e.d∉o.looksAt ops/\o.dst≠some e.d:=by
 intro e W;obtain⟨Bb,O,X,aU,cK⟩:=c5.op e W;obtain⟨_,_,_,J3⟩:=a61 hC O X;have b2D:=aYC O J3 aE (XW (kG e W)) (λx K a5 b4P=>by
  have fY:=TS x K a5;rw[b4P]at fY;have i7:=c5.uR e W;have:done.getD e.i false=false:=by
   rcases hF e.i done.size with c4|c4;·simp[c4]at i7|-;exact i7
   ·simp[IV c4]
  rw[this]at fY;cases fY)
 obtain⟨k7,lJ,m4⟩:=Oper.apart_spec b2D;exact⟨k7 e.d aU,lJ e.d aU⟩
def aGR{o:Oper}{T:TypeId}(h:o.op=.alloc T):lC o.op=1:=by rw[h];rfl
def aEX{o:Oper}(h:lC o.op=1):∃T,o.op=.alloc T:=by
 cases dG:o.op<;>rw[dG]at h<;>simp only[lC]at h<;>first|exact⟨_,rfl⟩|(exact absurd h aW)|skip
 split at h<;>exact absurd h aW
def aFB(op:Op):lC op=0\/lC op=1\/lC op=2:=by
 unfold lC;split<;>first|(exact .inl rfl)|(exact .inr (.inl rfl))|(exact .inr (.inr rfl))|skip
 split<;>first|(exact .inl rfl)|(exact .inr (.inr rfl))
def VA{l:Array Bool}{i:Nat}(h:i<l.size)(d:Bool):(l.setIfInBounds i true).getD i d=true:=by simp[h]
def UO.step{done dJ:Array Bool}{gO:List G8}(c5:UO N n ops done dJ gO){i:Nat}(kG:∀e∈gO,e.i≠i)(aE:i<done.size):
 UO N n ops (done.setIfInBounds i true) (dJ.setIfInBounds i true) gO:=by
 refine⟨by simp[c5.size],λk d=>?_,c5.op,λe W=>?_,c5.nM,c5.Vk⟩;·
  by_cases aG:i=k;·subst aG;rw[VA aE,VA (by rw[c5.size];exact aE)];simp
  ·rw[getD_set_ne d aG,getD_set_ne d aG];exact c5.dJ k d
 ·rw[getD_set_ne true (XW (kG e W))];exact c5.uR e W
def Rq: ∀(A1 wC:List Nat),A1.Nodup->(∀x∈A1,x∈wC)->A1.length<=wC.length
 |[],_,_,_=>by simp
 |x::A1,wC,b1,aH=>by
  rw[UF]at b1
  have K:=aH x g2
  have:=Rq A1 (wC.erase x) b1.2 λy aS=>by
   have jF:y≠x:=λe=>b1.1 (e▸aS)
   exact(List.mem_erase_of_ne jF).2 (aH y (by simp[aS]))
  rw[List.length_erase_of_mem K]at this
  have:0<wC.length:=List.length_pos_of_mem K
  simp only[wD]
  omega
def a4P{t:Nat->Value}{e:G8}{G7:List G8}: ∀{I3:List G8},((I3++e::G7).map (·.d)).Nodup->B8 t (I3++e::G7)=B8 (kR t e.d (.pointer (some ⟨e.b,0,none⟩))) (I3++G7)
 |[],h=>by
  simp only[nN,wZ,UF]at h
  have:=a1s (t:=t) (d:=some e.d) (v:=.pointer (some ⟨e.b,0,none⟩)) (gO:=G7) λx K bM=>h.1 (List.mem_map.2 ⟨x,K,(yF bM).symm⟩)
  exact this
 |x::I3,h=>by
  simp only[pK,wZ,UF]at h
  simp only[pK,B8,a4P h.2]
def dQ.CA{L E:List bN}{R:List fJ}{w:World}(h:dQ c L R w)(aP:L.Perm E):dQ c E R w:=by obtain⟨⟨Z,b4,b7⟩,dG,aG⟩:=h;exact⟨⟨Z,⟨(aP.map _).nodup_iff.1 b4.nM,λe W=>b4.own e (aP.mem_iff.2 W),λe W=>b4.tZ e (aP.mem_iff.2 W),b4.sM,b4.o8⟩,b7⟩,λe W=>dG e (aP.mem_iff.2 W),aG⟩
def aJ1{p:Nat->Bool}{done:Array Bool}{i:Nat}(aE:i<ops.size)(d:Bool):(Rx ops p done).getD i d=(done.getD i true||(Nat.beq (vE ops i) 1 && p i)):=by simp[Rx,aE]
def a64{p:Nat->Bool}{done dJ:Array Bool}{gO:List G8}(c5:UO N n ops done dJ gO)(aP:∀e∈gO,p e.i=true)(nX:done.size=ops.size){j:Nat}(a6:j∈Region.ready .any ops dJ)(aG:vE ops j≠1):
 j∈Region.ready .any ops (Rx ops p done):=by
 obtain⟨b2,o,dG,qS⟩:=mem_ready.1 a6;have i3:j<ops.size:=(Array.getElem?_eq_some_iff.1 dG).1;refine mem_ready.2 ⟨?_,o,dG,λe W a5=>?_⟩;·
  rw[aJ1 i3];have O:done.getD j true=false:=by
   cases bM:done.getD j true with
   |false=>rfl
   |true=>rw[(c5.dJ j true).2 (.inl bM)]at b2;cases b2
  have X:Nat.beq (vE ops j) 1=false:=SY aG;simp[O,X]
 ·
  have O:=qS e W a5;have b38:e.on<ops.size:=by
   rcases hF e.on dJ.size with c4|c4;·rw[c5.size,nX]at c4;exact c4
   ·simp[IV c4]at O
  rw[aJ1 b38];rcases(c5.dJ e.on false).1 O with X|⟨x,K,Uy⟩;·
   have:done.getD e.on true=true:=by
    rcases hF e.on done.size with c4|c4;·simp[c4]at X|-;exact X
    ·simp[IV c4]
   simp only[this,Bool.true_or]
  ·obtain⟨bAJ,aU,cK,_,_⟩:=c5.op x K;(have fY:vE ops e.on=1:=by rw[<-Uy];simp only[vE,aU];exact aGR cK);have i7:=aP x K;rw[Uy]at i7;simp[fY,i7]
def aKI{o:Oper}{a:Act}{bF:Operand->Value}{w:World}{next:Act->World->Prop}{Q:Exit->Act->World->Prop}(W:execOp a.eval o=execOp bF o)(h:o.upon P a next Q ((execOp bF o).run P w)):o.wp P a w next Q:=by unfold Oper.wp;rw[W];exact h
def aZB{done dJ:Array Bool}{t:Nat->Value}{L:List bN}{R:List fJ}{a:Act}{w:World}(eI:K8 ops done []=true)(c5:UO N n ops done dJ [])(x9:dV P N n ops cW fS [] t L R)
 (kE:mS n (B8 t []) a) (cT:dQ c (VB N []++L) R w) {S:World->Prop} (hY:Nat):wpAnyH P .any ops (FF n c fS) S hY dJ a w:=by
 refine wpAnyH_done ?_ ⟨trivial,t,L,R,x9,kE,cT⟩ hY;simp only[K8,List.isEmpty_iff]at eI;refine List.eq_nil_iff_forall_not_mem.2 λj a6=>?_;obtain⟨b2,o,dG,qS⟩:=mem_ready.1 a6;have O:done.getD j true=false:=by
  cases bM:done.getD j true with
  |false=>rfl
  |true=>rw[(c5.dJ j true).2 (.inl bM)]at b2;cases b2
 have:j∈Region.ready .any ops done:=by
  refine mem_ready.2 ⟨O,o,dG,λe W a5=>?_⟩;rcases(c5.dJ e.on false).1 (qS e W a5)with h|⟨x,K,_⟩;·exact h
  ·cases K
 rw[eI]at this;cases this
def aKi(II:Region.noSelect ops=true)(hC:Dz N n ops=true):∀(m hY:Nat) (iP:List Nat) (os:List Oper) (done dJ:Array Bool) (gO:List G8) (t:Nat->Value) (L:List bN) (R:List fJ) (a:Act) (w:World),
 hY+iP.length<=m->iP.length<=hY+gO.length->iP.map (ops[·]?)=os.map some->K8 ops done iP=true->UO N n ops done dJ gO->(∀e∈gO,e.i∈iP)->done.size=ops.size->
 (∀i,i<ops.size->done.getD i true=false->i∈iP)->
 mS n (B8 t gO) a->dQ c (VB N gO++L) R w->cW.Sublist L->dV P N n ops cW fS os t L R->wpAnyH P .any ops (FF n c fS) (dQ c cW R) hY dJ a w:=by
 intro m;induction m with
 |zero=>
  intro hY iP os done dJ gO t L R a w a3 GF uW eI c5 QE nX C7 kE cT pV x9;obtain rfl:iP=[]:=by cases iP with|nil=>rfl|cons x l=>simp at a3
  exact aOC
 |succ m c6=>
  intro hY iP os done dJ gO t L R a w a3 GF uW eI c5 QE nX C7 kE cT pV x9;have eL:dQ c cW R w:=cT.tI (pV.trans (XT _ _)) (λr M=>⟨r,M,.lT⟩)
  -- a making of a variable that comes up early
  have early:∀(f:Nat),hY=f+1->∀j,j∈Region.ready .any ops dJ->vE ops j=1->
   wpOp P ops (FF n c fS) j (λfA w'=>dQ c cW R w'/\wpAnyH P .any ops (FF n c fS) (dQ c cW R) f (dJ.setIfInBounds j true) fA w') a w:=by
   intro f aF j a6 EP;obtain⟨b2,lL,J8,qS⟩:=mem_ready.1 a6;(have a9T:lC lL.op=1:=by simpa[vE,J8]using EP);obtain⟨T,dW⟩:=aEX a9T;obtain⟨b7,⟨iW,Ur⟩,⟨d,bM,LS,aMh⟩,J3⟩:=a61 hC J8 dW;obtain⟨oT,xI,EU⟩:=Pr (N.ok _ _ Ur) w;have a2f:done.getD j true=false:=by
    cases bM:done.getD j true with
    |false=>rfl
    |true=>rw[(c5.dJ j true).2 (.inl bM)]at b2;cases b2
   (have a9N:∀e∈gO,e.i≠j:=λe W aE=>by rw[(c5.dJ j true).2 (.inr ⟨e,W,aE⟩)]at b2;cases b2);(have aBo:oT.cells.toList=UI N T:=by rw[EU];simp[UI,Ur]);(have qF:dQ c (VB N (⟨j,d,w.heap.size,T⟩::gO)++L) R (w.alloc (.cells oT.cells T)):=by have:=cT.alloc oT.cells T;rw[aBo]at this;exact this);unfold wpOp;simp only[J8];rw[kE.wanted,b7];simp only[oY,if_true];refine .inl ?_;(have WZ:(execOp a.eval lL).run P w=.ok (.value (.pointer (some ⟨w.heap.size,0,none⟩))) (w.alloc (.cells oT.cells T)):=by exact aPx);unfold Oper.wp;rw[WZ];refine⟨qF.tI (pV.trans (XT _ _)) (λr M=>⟨r,M,.lT⟩),?_⟩;have Gc:j<ops.size:=(Array.getElem?_eq_some_iff.1 J8).1;(have a9O:j<dJ.size:=by rw[c5.size,nX];exact Gc);have a2g:j∈iP:=C7 j Gc a2f;refine c6 f iP os done _ (⟨j,d,w.heap.size,T⟩::gO) t L R _ _ D (by simp only[wD];omega) uW eI ?_ ?_ nX C7 ?_ qF pV x9;·exact aO9
   ·exact aPM
   ·exact aPV
  cases iP with
  |nil=>exact aOC
  |cons i aD=>
   cases os with
   |nil=>simp at uW
   |cons o os=>
    simp only[wZ,a3w]at uW;obtain⟨o3,uW⟩:=uW;simp only[K8,nH]at eI;obtain⟨⟨TJ,N6⟩,WU⟩:=eI;(have TJ:i∈Region.ready .any ops done:=by simpa using TJ);obtain⟨Tn,o',Gg,Gp⟩:=mem_ready.1 TJ;obtain rfl:o'=o:=yF (Gg.symm.trans o3);have Ga:i<ops.size:=(Array.getElem?_eq_some_iff.1 o3).1;(have TI:i<done.size:=by rw[nX];exact Ga);(have TK:vE ops i=lC o'.op:=by simp[vE,o3]);have WI:∀k,k<ops.size->(done.setIfInBounds i true).getD k true=false->k∈aD:=by
     intro k aG bM;by_cases Gd:i=k;·subst Gd;rw[VA TI]at bM;cases bM
     ·
      rw[getD_set_ne true Gd]at bM;rcases List.mem_cons.1 (C7 k aG bM)with h|h;·exact absurd h.symm Gd
      ·exact h
    (have WL:(done.setIfInBounds i true).size=ops.size:=by simp[nX]);(have b3g:∀k,done.getD k true=true->∀d,dJ.getD k d=true\/k>=done.size:=by exact aPW);obtain⟨bM,x9⟩:=x9
    -- if the operation is no making of a variable, it has not come up, and is apart from the early ones
    (have OH:lC o'.op≠1->∀e∈gO,e.i≠i:=by exact aP2);(have Se:lC o'.op≠1->gO.length<=aD.length:=by exact aO1);have TS:lC o'.op≠1->i∈Region.ready .any ops dJ:=by
     intro aG;refine mem_ready.2 ⟨?_,o',o3,λe W a5=>(c5.dJ _ _).2 (.inl (Gp e W a5))⟩;cases aX:dJ.getD i true with
     |false=>rfl
     |true=>exact aP5
    have apart:lC o'.op≠1->∀e∈gO,e.d∉o'.looksAt ops/\o'.dst≠some e.d:=λaG=>aG0 hC c5 o3 (OH aG) Gp;(have Er:lC o'.op≠1->∀e∈gO,e.i∈aD:=λaG e W=>by exact aPC);(have frame:lC o'.op≠1->∀v,mS n (B8 (xW t o'.dst v) gO) (a.put o'.dst v):=λaG v=>by rw[<-a1s (λe W=>(apart aG e W).2)];exact kE.put bM v);(have Gz:lC o'.op≠1->Region.wanted o' (yielded ops a.tmps)=oY ops t o'.guard:=λaG=>by rw[kE.wanted,aFI (λe W=>(apart aG e W).1)]);(have TG:lC o'.op≠1->execOp a.eval o'=execOp (iT t) o':=λaG=>by exact aPy);rcases aFB o'.op with aG|aG|aG;·
     -- it leaves the world alone
     (have hE:lC o'.op≠1:=by rw[aG];decide);have vN:=Se hE;obtain⟨f,rfl⟩:∃f,hY=f+1:=⟨hY-1,by simp only[wD]at GF;omega⟩;rw[TK,aG]at N6;have J3:∀j lL,ops[j]?=some lL->j≠i->dJ.getD j true=false->(∀e∈lL.after,Region.binds .any e=true->e.on≠i)->o'.apart ops lL=true:=by
      intro j lL a6 jF aX vO;refine a3p o3 N6 j lL a6 jF ?_ vO;cases bM:done.getD j true with
      |false=>rfl
      |true=>rw[(c5.dJ j true).2 (.inl bM)]at aX;cases aX
     (have go:∀v,YieldsIf P ops (dQ c cW R) o' v a->dV P N n ops cW fS os (xW t o'.dst v) L R->wpAnyH P .any ops (FF n c fS) (dQ c cW R) (f+1) dJ a w:=by intro v aS xE;refine wpAnyH_first o3 (a3x II) (λ_ _ _ h=>h.1.elim) f dJ a w J3 (TS hE) aS eL ?_;exact c6 f aD os _ _ gO _ L R _ w Ci Od uW WU (c5.step (OH hE) TI) (Er hE) WL WI (frame hE v) cT pV xE);rcases x9 with⟨dH,_,xE⟩|⟨dH,_,v,cY,xE⟩|⟨O,_⟩|⟨_,X,_⟩;·exact go undef (.inr ⟨by rw[Gz hE];exact dH,rfl⟩) xE
     ·exact go v (.inl ⟨by rw[Gz hE];exact dH,λw' W4=>by rw[TG hE];exact cY c w' W4⟩) xE
     ·exact absurd O hE
     ·rw[aG]at X;cases X
    ·
     -- it makes a variable
     rw[TK,aG]at N6;rcases x9 with⟨_,O,_⟩|⟨_,X,_⟩|⟨_,T,dW,xE⟩|⟨_,X,_⟩;·exact absurd aG O
     ·rw[aG]at X;cases X
     ·
      by_cases kG: ∃e∈gO,e.i=i;·
       -- it has come up early
       obtain⟨e,W,Fv⟩:=kG;obtain⟨Bb,O,X,aU,cK⟩:=c5.op e W;rw[Fv]at O;obtain rfl:Bb=o':=yF (O.symm.trans o3);(obtain rfl:e.T=T:=by rw[X]at dW;exact Op.alloc.inj dW);obtain⟨I3,G7,rfl⟩:=List.append_of_mem W;(have B5:∀x∈I3++G7,x∈I3++e::G7:=λx K=>by exact aQb);(have a98:∀x∈I3++G7,x.i≠i:=by exact aOX);refine c6 hY aD os _ dJ (I3++G7) _ _ R a w Ci aTj uW WU ?_ ?_ WL WI ?_ ?_ (pV.cons _) (xE e.b);·exact aO7
       ·exact aQa
       ·rw[aU];have:=a4P (t:=t) c5.Vk;rw[this]at kE;exact kE
       ·exact aPZ
      ·
       -- it has not: whatever comes up now makes a variable
       have a2e:∀e∈gO,e.i≠i:=λe W aE=>kG ⟨e,W,aE⟩;have Aj:i∈Region.ready .any ops dJ:=by
        refine mem_ready.2 ⟨?_,o',o3,λe W a5=>(c5.dJ _ _).2 (.inl (Gp e W a5))⟩;cases aX:dJ.getD i true with
        |false=>rfl
        |true=>exact aP7
       (have vN:gO.length+1<=(i::aD).length:=by exact aOS);obtain⟨f,rfl⟩:∃f,hY=f+1:=⟨hY-1,by omega⟩;refine wpAnyH_all rfl (Nn Aj) λj a6=>early f rfl j a6 ?_;exact aOB
     ·rw[aG]at X;cases X
    ·
     -- it turns the world
     (have hE:lC o'.op≠1:=by rw[aG];decide);have vN:=Se hE;obtain⟨f,rfl⟩:∃f,hY=f+1:=⟨hY-1,by simp only[wD]at GF;omega⟩;rw[TK,aG]at N6;refine wpAnyH_all rfl (Nn (TS hE)) λj a6=>?_;by_cases EP:vE ops j=1;·exact early f rfl j a6 EP
     ·
      have N5:=a64 (p:=λ_=>true) c5 (λ_ _=>rfl) nX a6 EP;have:=List.all_eq_true.1 N6 j N5;(obtain rfl:j=i:=by simpa using this);unfold wpOp;simp only[o3];rw[Gz hE];rcases x9 with⟨dH,_,xE⟩|⟨_,X,_⟩|⟨O,_⟩|⟨dH,_,Post,b7,xE⟩;·rw[dH,if_neg g2];exact⟨eL,c6 f aD os _ _ gO _ L R _ w Ci Od uW WU (c5.step (OH hE) TI) (Er hE) WL WI (frame hE undef) cT pV xE⟩
      ·rw[aG]at X;cases X
      ·exact absurd O hE
      ·rw[dH,if_pos rfl];refine .inl (aKI (TG hE) ?_);refine(b7.frame (VB N gO)) c w cT a _ _ ?_;rintro v i6 G w' ⟨E,rfl,aP⟩ qF;obtain⟨S7,J0,a9x⟩:=xE v E G aP;refine⟨qF.tI (S7.trans (XT _ _)) J0,?_⟩;refine aFA (YN:=dQ c cW G) (λx K=>K.tI hA J0) _ _ _ _ ?_;exact c6 f aD os _ _ gO _ E G _ w' Ci Od uW WU (c5.step (OH hE) TI) (Er hE) WL WI (frame hE v) qF S7 a9x
end
def MY(ops:List Oper):List Nat->List Oper
 |[]=>[]
 |i::l=>match ops[i]? with
  |some o=>o::MY ops l
  |none=>MY ops l
def a1x{P:Program}(N:oE P)(n:Nat)(ops:Array Oper)(iP:List Nat):Bool:=
 Region.noSelect ops && Dz N n ops && K8 ops (Array.replicate ops.size false) iP && ((List.range ops.size).all λi=>iP.contains i) && iP.all λi=>Nat.blt i ops.size
def Qf(ops:List Oper): ∀(iP:List Nat),(∀i∈iP,i<ops.length)->iP.map (ops.toArray[·]?)=(MY ops iP).map some
 |[],_=>rfl
 |i::l,h=>by
  have aE:=h i g2
  have c6:=Qf ops l λj a6=>h j (by simp[a6])
  simp only[wZ,MY,List.getElem?_toArray,DN aE]
  congr 1
  simpa using c6
def gZ{P:Program}(N:oE P){n id:Nat}{ops:List Oper}{t:Nat->Value}{L:List bN}{R:List fJ}{Q:gF}(iP:List Nat)(cW:List bN)(a3:P.follows .mixedOrders=true)(BV:a1x N n ops.toArray iP=true)(pV:cW.Sublist L)
 (h:dV P N n ops.toArray cW Q (MY ops iP) t L R):cQ P n (.region id ops.toArray true) t L R Q:=by
 simp only[a1x,nH]at BV;obtain⟨⟨⟨⟨O,X⟩,aU⟩,cK⟩,fY⟩:=BV;have i3:∀i∈iP,i<ops.length:=λi aE=>by simpa using List.all_eq_true.1 fY i aE
 intro c a w aF aH;refine wp_region_held (S:=dQ c cW R) a3 ?_;have vN:iP.length<=ops.toArray.size\/True:=.inr trivial;refine aKi (N:=N) (cW:=cW) O X (ops.toArray.size+iP.length) ops.toArray.size iP (MY ops iP) (Array.replicate ops.toArray.size false) _ [] t L R a _ (iK _) ?_ (Qf ops iP i3) aU ?_ (λe W=>by cases W) g2 ?_ aF ?_ pV h;·
  -- the plan lists each operation once: what is ready is not done
  have key:∀(c9:List Nat) (done:Array Bool),K8 ops.toArray done c9=true->c9.Nodup/\∀i∈c9,done.getD i true=false:=by
   intro c9;induction c9 with
   |nil=>intro _ _;exact⟨XQ,λi aE=>by cases aE⟩
   |cons i c9 c6=>exact aPg
  have:=Rq iP (List.range ops.length) (key iP _ aU).1 (λi aE=>List.mem_range.2 (i3 i aE));simpa using this
 ·exact⟨by simp,λi d=>by simp,by simp,by simp,XQ,XQ⟩
 ·exact aPN
 ·exact dQ.drew aH
section
variable{P:Program}{N:oE P}{n:Nat}{all:Array Oper}{cW:List bN}{fS:gF}{op:Op}{ty:TypeId}{pos:String}{after:Array Edge}{aD:List Oper}{t:Nat->Value}{L E:List bN}{R G:List fJ}{d:Tmp}{v:Value}{g:Option (Nat×Bool)}{T:TypeId}{x y:Operand}
def g5(h:fS .normal t L R):dV P N n all cW fS [] t L R:=h
def bE(cY:cP P ⟨some d,op,ty,pos,after,g⟩ (iT t) cW R v)(aG:lC op=0)(b7:oY all t g=true)(bM:Nat.blt d n=true)(h:dV P N n all cW fS aD (kR t d v) L R):dV P N n all cW fS (⟨some d,op,ty,pos,after,g⟩::aD) t L R:=
 ⟨bM,.inr (.inl ⟨b7,aG,v,cY,h⟩)⟩
def aZ9(aG:Nat.beq (lC op) 1=false)(b7:oY all t g=false)(bM:Nat.blt d n=true)(h:dV P N n all cW fS aD (kR t d undef) L R):dV P N n all cW fS (⟨some d,op,ty,pos,after,g⟩::aD) t L R:=
 ⟨bM,.inl ⟨b7,λe=>by simp[e]at aG,h⟩⟩
def aWp{k m aA g0 z}(dW:hW N.g1 T=some ⟨k,m,aA,g0,z⟩)(bM:Nat.blt d n=true)
 (h:∀b,dV P N n all cW fS aD (kR t d (.pointer (some ⟨b,0,none⟩))) (⟨b,z,T⟩::L) R):dV P N n all cW fS (⟨some d,.alloc T,ty,pos,after,none⟩::aD) t L R:=
 ⟨bM,.inr (.inr (.inl ⟨rfl,T,rfl,λb=>by
  have:=h b
  have e:UI N T=z:=by simp[UI,dW]
  rw[e]
  exact this⟩))⟩
def uN{Post:oK}(b7:eC P ⟨some d,op,ty,pos,after,g⟩ (iT t) L R Post)(aG:lC op=2)(dH:oY all t g=true)(bM:Nat.blt d n=true)
 (h:∀v E G,Post v E G->cW.Sublist E/\(∀r∈R,aL r G)/\dV P N n all cW fS aD (kR t d v) E G):dV P N n all cW fS (⟨some d,op,ty,pos,after,g⟩::aD) t L R:=
 ⟨bM,.inr (.inr (.inr ⟨dH,aG,Post,b7,h⟩))⟩
def HN{Post:oK}(b7:eC P ⟨none,op,ty,pos,after,g⟩ (iT t) L R Post)(aG:lC op=2)(dH:oY all t g=true)
 (h:∀v E G,Post v E G->cW.Sublist E/\(∀r∈R,aL r G)/\dV P N n all cW fS aD t E G):dV P N n all cW fS (⟨none,op,ty,pos,after,g⟩::aD) t L R:=
 ⟨rfl,.inr (.inr (.inr ⟨dH,aG,Post,b7,λv E G aP=>h v E G aP⟩))⟩
def tP{f:FuncId}{xs:List Operand}{qY:Array TypeId}{args:List Value}{Post:oK}(bT:xs.map (iT t)=args)(h:aM P f args.toArray L R Post)(dH:oY all t g=true)(bM:Nat.blt d n=true)
 (k:∀v E G,Post v E G->cW.Sublist E/\(∀r∈R,aL r G)/\dV P N n all cW fS aD (kR t d v) E G):dV P N n all cW fS (⟨some d,.call ⟨.value (.func f),xs.toArray,qY⟩,ty,pos,after,g⟩::aD) t L R:=
 uN (Rk a34 rfl h) rfl dH bM k
def U4{k m aA g0 z b o}{cs hR:List Value}{v:Value}{oD:TypeId}(dW:hW N.g1 T=some ⟨k,m,aA,g0,z⟩)(K:iT t x= .pointer (some ⟨b,o,none⟩))(aS:iT t y=v)(b1:m=1)
 (dL:s1 b cs oD hR L E) (qT:Nat.blt o cs.length=true) (rY:cs.set o v=hR) (O:v.oneCell'=true) (pV:cW.Sublist E)
 (h:dV P N n all cW fS aD t E R):dV P N n all cW fS (⟨none,.store T x y,ty,pos,after,none⟩::aD) t L R:=
 HN (aKL N dW K aS b1 dL qT rY O) rfl rfl λ_ i6 G ⟨eV,fN⟩=>by subst eV;subst fN;exact⟨pV,n1 _,h⟩
def Oz{k m aA g0 z b o}{cs vs hR:List Value}{oD:TypeId}(dW:hW N.g1 T=some ⟨k,m,aA,g0,z⟩)(K:iT t x= .pointer (some ⟨b,o,none⟩))(aS:iT t y= .agg vs.toArray)(b1:vs.length=m)
 (dL:s1 b cs oD hR L E) (qT:Nat.ble (o+vs.length) cs.length=true) (rY:cs.take o++vs++cs.drop (o+vs.length)=hR) (O:vs.all (·.oneCell')=true) (pV:cW.Sublist E)
 (h:dV P N n all cW fS aD t E R):dV P N n all cW fS (⟨none,.store T x y,ty,pos,after,none⟩::aD) t L R:=
 HN (aI7 N dW K aS b1 dL qT rY O) rfl rfl λ_ i6 G ⟨eV,fN⟩=>by subst eV;subst fN;exact⟨pV,n1 _,h⟩
def aY6{k m aA g0 z b}{cs vs:List Value}{oD:TypeId}(dW:hW N.g1 T=some ⟨k,m,aA,g0,z⟩)(K:iT t x= .pointer (some ⟨b,0,none⟩))(aS:iT t y= .agg vs.toArray)(b1:vs.length=m)
 (dL:s1 b cs oD vs L E) (qT:vs.length=cs.length) (O:vs.all (·.oneCell')=true) (pV:cW.Sublist E)
 (h:dV P N n all cW fS aD t E R):dV P N n all cW fS (⟨none,.store T x y,ty,pos,after,none⟩::aD) t L R:=
 Oz dW K aS b1 dL (by simp[qT]) (by simp[qT]) O pV h
def Jd{t:Nat->Value}{k:Nat}{v:Value}(h:t k=v):kR t k v=t:=by
 funext i;unfold kR;cases a5:Nat.beq i k with
 |false=>rfl
 |true=>rw[cond_true,aCC a5];exact h.symm
def lQ{os:List Oper}{k:Nat}{b:Bool}(a5:t k=.bool b)(O:b=true->dV P N n all cW fS os (kR t k (.bool true)) L R)(X:b=false->dV P N n all cW fS os (kR t k (.bool false)) L R):dV P N n all cW fS os t L R:=by
 cases b with
 |true=>have:=O rfl;rwa[Jd a5]at this
 |false=>have:=X rfl;rwa[Jd a5]at this
def HC{os:List Oper}{k:Nat}{b:Bool}{Q:gF}(a5:t k=.bool b)(O:b=true->dF P n all os (kR t k (.bool true)) L R Q)(X:b=false->dF P n all os (kR t k (.bool false)) L R Q):dF P n all os t L R Q:=by
 cases b with
 |true=>have:=O rfl;rwa[Jd a5]at this
 |false=>have:=X rfl;rwa[Jd a5]at this
end
def z3(z:List Value):Nat->List Value
 |0=>[]
 |n+1=>z++z3 z n
def aZk(z:List Value)(n:Nat):(z3 z n).length=n*z.length:=by
 induction n with
 |zero=>simp[z3]
 |succ n c6=>simp[z3,c6,MC,Nat.add_comm]
def aE0(z:List Value)(eW:0<z.length): ∀(n i:Nat),i<n*z.length->(z3 z n)[i]? =z[i%z.length]?
 |0,i,h=>by simp at h
 |n+1,i,h=>by
  simp only[z3]
  rcases hF i z.length with c4|c4
  ·rw[XU c4,Wm c4]
  ·rw[Nv c4,aE0 z eW n (i-z.length) (by rw[MC]at h;omega)]
   rw[Nat.mod_eq_sub_mod c4]
def aKl(z:Array Value)(n:Nat):((Array.range (n*z.size)).map (z[·%z.size]!)).toList=z3 z.toList n:=by
 apply UG;intro i;rcases hF i (n*z.size)with h|h;·
  have eW:0<z.size:=by
   rcases a3H z.size with b2|b2;·rw[b2]at h;simp at h
   ·exact b2
  have a3:i%z.size<z.size:=Nat.mod_lt _ eW;rw[aE0 z.toList (by simpa using eW) n i Oi];simp[h,a3]
 ·rw[uF Oi,uF (by rw[aZk];simpa using h)]
def Rb(size:Nat)(cs:List Value):List (Nat×List Value)->Option (List Value)
 |[]=>some cs
 |(i,vs)::aD=>bif Nat.beq vs.length size && Nat.ble (i*size+vs.length) cs.length then Rb size (UU cs (i*size) vs) aD else none
def aFw(size:Nat):∀(parts:List (Nat×Value)) (cs:List Value) (dD:List Value),
 Rb size cs (parts.map λp=>(p.1,p.2.cells.toList))=some dD->Instr.fill (λi=>some (i*size,size)) cs.toArray parts=some dD.toArray
 |[],cs,dD,h=>by simp only[XV,Rb,Np]at h;simp[Instr.fill,h]
 |(i,v)::aD,cs,dD,h=>by
  simp only[wZ,Rb]at h
  simp only[Instr.fill]
  cases a5:(Nat.beq v.cells.toList.length size && Nat.ble (i*size+v.cells.toList.length) cs.length)with
  |false=>rw[a5]at h;cases h
  |true=>
   rw[a5,cond_true]at h
   simp only[nH,Bt,Nat.ble_eq,aCs]at a5
   have:=aFw size aD _ dD h
   rw[if_neg (by simp[a5.1];omega)]
   have eW:(v.cells.zipIdx.foldl (λcs (c,j)=>cs.setIfInBounds (i*size+j) c) cs.toArray)=(UU cs (i*size) v.cells.toList).toArray:=by
    show v.cells.zipIdx.foldl (λcs (x:Value×Nat)=>cs.setIfInBounds (i*size+x.2) x.1) cs.toArray=_
    rw[<-Array.foldl_toList]
    have:=a6d v.cells.toList (i*size) 0 cs.toArray
    simpa using this
   rw[eW]
   exact this
inductive g6 where
 |nil
 |own (g cap:Nat) (spare:List Value)
def g6.val:g6->Nat->Value
 | .nil,_=>.slice none 0 0
 | .own g cap _,n=>.slice (some ⟨g,0,none⟩) n cap
def g6.L(e:TypeId)(xs:List Value):g6->List bN
 | .nil=>[]
 | .own g _ spare=>[⟨g,xs++spare,e⟩]
def g6.ok(size:Nat)(xs:List Value)(n:Nat):g6->Prop
 | .nil=>n=0/\xs=[]
 | .own _ cap spare=>xs.length=n*size/\n<=cap/\cap<=maxLen/\(xs++spare).length=cap*size
inductive HE(gC:List bN):List bN->(List bN->List bN)->Prop
 |lT {B}:HE gC (gC++B) (λx3=>x3++B)
 |cons {x L f} (h:HE gC L f):HE gC (x::L) (λx3=>x::f x3)
 |s7 {CV L f} (h:HE gC L f):HE gC (CV++L) (λx3=>CV++f x3)
def HE.split{gC L f}(h:HE gC L f):∃A B,L=A++gC++B/\∀x3,f x3=A++x3++B:=by
 induction h with
 | @lT B=>exact⟨[],B,by simp,λx3=>by simp⟩
 | @cons x L f _ c6=>obtain⟨A,B,O,X⟩:=c6;exact⟨x::A,B,by simp[O],λx3=>by simp[X]⟩
 | @s7 CV L f _ c6=>obtain⟨A,B,O,X⟩:=c6;exact⟨CV++A,B,by simp[O],λx3=>by simp[X]⟩
def Jm(L:List bN)(R:List fJ)(v:Value)(m size:Nat)(sQ:List Value):Prop:=
 ∃a cap,v=.slice (some a) m cap/\sQ.length=m*size/\∀c w,dQ c L R w->∀j u,sQ[j]?=some u->w.cell? (a.add j)=some u
def aVS{L:List bN}{R:List fJ}{b m cap size:Nat}{cs sQ:List Value}{T:TypeId}(kG:E6 ⟨b,cs,T⟩ L)(aX:sQ.length=m*size)(aP:cs.take (m*size)=sQ):Jm L R (.slice (some ⟨b,0,none⟩) m cap) m size sQ:=by
 refine⟨_,_,rfl,aX,λc w cT j u a6=>?_⟩;rw[YX,MD,VD cT kG.mem];rw[<-aP,XX]at a6;split at a6;·exact a6
 ·cases a6
def a6f{size:Nat}: ∀(rows:List (List Value)),(∀r∈rows,r.length=size)->∀j,0<size->(rows.flatten)[j]? =(rows[j/size]?).bind (·[j%size]?)
 |[],_,j,_=>by simp
 |r::rows,h,j,aH=>by
  have M:=h r g2
  rw[aCx]
  rcases hF j size with c4|c4
  ·rw[XU D,Nat.div_eq_of_lt c4,Wm c4]
   simp
  ·rw[Nv D,M,a6f rows (λx K=>h x (by simp[K])) _ aH]
   rw[Nat.mod_eq_sub_mod c4,Nat.div_eq_sub_div aH c4]
   simp
def aF5{L:List bN}{R:List fJ}{jQ:Option Addr}{size len cap:Nat}{rows:List (List Value)}{eU:List fJ}(bO:aL (.mk size jQ len cap rows eU) R)(aH:0<size)(a9h: ∀c w,dQ c L R w->∃b off,jQ=some ⟨b,off,none⟩)
 (aX:rows.flatten.length=len*size):(∃c w,dQ c L R w)->Jm L R (.slice jQ len cap) len size rows.flatten:=by
 rintro⟨aLw,gV,b2⟩;obtain⟨b,off,bT⟩:=a9h aLw gV b2;subst bT;refine⟨_,_,rfl,aX,λc w cT j u a6=>?_⟩;rw[YX];have qF:=cT;obtain⟨⟨Z,b4,b7⟩,dG,aG⟩:=cT;obtain⟨r,QX,lU⟩:=bO;have EQ:=(b4.o8 r QX).sub lU;cases EQ with
 |mk WP cG a3 dH B5 TT=>
  rw[a6f rows dH j aH]at a6;cases aAW:rows[j/size]? with
  |none=>rw[aAW]at a6;cases a6
  |some row=>rw[aAW]at a6;have:=a1p qF (aN:=size) (len:=len) (cap:=cap) (i:=j/size) (j:=j%size) (jQ:=some ⟨b,off,none⟩) (rows:=rows) (eU:=eU) ⟨r,QX,lU⟩ aAW a6;rw[<-this];simp only[w9,n6,Ky];congr 2;have:=Nat.div_add_mod j size;rw[a3D]at this;omega
section
variable{P:Program}{bF:Operand->Value}{L:List bN}{R:List fJ}{dst:Option Tmp}{ty:TypeId}{pos:String}{after:Array Edge}{guard:Option (Nat×Bool)}(N:oE P){T:TypeId}{x y:Operand}
def I5{e n aA g0 z fI fV rB nB iX len}{ps:List (Nat×Operand)}{iD:List (Nat×List Value)}{dD:List Value}(dW:hW N.g1 T=some ⟨.slice e,n,aA,g0,z⟩)(c5:hW N.g1 e=some ⟨fI,fV,rB,nB,iX⟩)
 (AU:iX.length=fV) (DD:Nat.ble (len*fV) 16777216=true) (WV:Nat.beq (len*fV) 0=false) (cJ:Sk bF ps=iD) (aF:Rb fV (z3 iX len) iD=some dD):
 eC P ⟨dst,.buildSlice T len ps.toArray,ty,pos,after,guard⟩ bF L R (λv E G=>∃b,v=.slice (some ⟨b,0,none⟩) len len/\E=⟨b,dD,e⟩::L/\G=R):=by
 intro c w aH a next Q iB
 have dL:=M1 (N.ok _ _ dW) rfl;have aM9:=run_sizeOf (N.ok _ _ c5) w;obtain⟨oT,xI,EU⟩:=Pr (N.ok _ _ c5) w;simp only at aM9 EU;subst cJ;rw[aIU]at aF;have zE:oT.cells.size=fV:=by rw[<-AU,<-EU];simp
 have LY:((Array.range (len*fV)).map (oT.cells[·%oT.cells.size]!))=(z3 iX len).toArray:=by have:=aKl oT.cells len;rw[EU,zE]at this;rw[<-this,zE]
 have a9D:=aFw fV (ps.map λp=>(p.1,bF p.2)) (z3 iX len) dD aF;have a90:(ps.toArray.map λ(p:Nat×Operand)=>(p.1,bF p.2)).toList=ps.map λp=>(p.1,bF p.2):=by simp
 have b1Q:¬(len*fV>2^24):=by have:=KO DD;omega
 have b2:¬(len*fV=0):=λh=>by rw[h]at WV;cases WV
 have a9J:(Instr.buildSlice T len (ps.toArray.map λ(p:Nat×Operand)=>(p.1,bF p.2))).run P w=.ok (.slice (some ⟨w.heap.size,0,none⟩) len len) (w.alloc (.cells dD.toArray e)):=by unfold Instr.buildSlice;simp only[w0,run_underlying dL,u2,aM9];rw[if_neg b1Q,if_neg b2];simp only[w0,xI,u2,KQ,a90];rw[LY,a9D];simp[newRow]
 refine P2 (w':=w.alloc (.cells dD.toArray e)) (v:=.slice (some ⟨w.heap.size,0,none⟩) len len) ?_ (iB _ _ _ _ ⟨w.heap.size,rfl,rfl,rfl⟩ (aH.alloc _ _));have eV:execOp bF ⟨dst,.buildSlice T len ps.toArray,ty,pos,after,guard⟩=(do pure (.value (<-Instr.buildSlice T len (ps.toArray.map λ(p:Nat×Operand)=>(p.1,bF p.2))))):=rfl;rw[eV];simp only[w0,a9J,u2,KQ]
def aTV{e n aA g0 z fI fV rB nB iX o5 fZ}{m:Nat}{i j:Int}(dW:hW N.g1 T=some ⟨.slice e,n,aA,g0,z⟩)(c5:hW N.g1 e=some ⟨fI,fV,rB,nB,iX⟩)(AU:iX.length=fV)
 (K:bF x=.int o5 i) (aS:bF y=.int fZ j) (aE:i=(m:Int)) (a6:j=(m:Int)) (a5:nB*m<=281474976710656) (a3:m<=9223372036854775807):
 eC P ⟨dst,.makeSlice T x y,ty,pos,after,guard⟩ bF L R (λv E G=>∃b,v=.slice (some ⟨b,0,none⟩) m m/\E=⟨b,z3 iX m,e⟩::L/\G=R):=by
 intro c w aH a next Q iB
 subst aE;subst a6;have dL:=M1 (N.ok _ _ dW) rfl;obtain⟨iW,u,oT,O,X,aU,cK⟩:=JI (N.ok _ _ c5);have DD:iW.size=fV:=by have:=congrArg jD.L7 cK;simpa[HU]using this.symm
 have C6:iW.bytes=nB:=by have:=congrArg jD.g0 cK;simpa[HU]using this.symm
 have eW:oT.cells.toList=iX:=by have:=congrArg jD.z cK;simpa[HU]using this.symm
 have zE:oT.cells.size=fV:=by rw[<-AU,<-eW];simp
 have WE:(iW.bytes:Int)*(m:Int)<=281474976710656:=by rw[C6,<-Int.natCast_mul];omega
 have M:=run_make (P:=P) w T e iW oT dL O aU o5 fZ (m:Int) (m:Int) D (pJ _) WE D;have LY:madeCells oT.cells ((m:Int).toNat*iW.size)=(z3 iX m).toArray:=by have:=aKl oT.cells m;rw[eW,zE]at this;rw[xP,DD,madeCells,<-this,zE]
 rw[LY,xP]at M;refine P2 (w':=w.alloc (.cells (z3 iX m).toArray e)) (v:=.slice (some ⟨w.heap.size,0,none⟩) m m) ?_ (iB _ _ _ _ ⟨w.heap.size,rfl,rfl,rfl⟩ (aH.alloc _ _));simp[execOp,K,aS,M]
def a4Q{e n aA g0 z fI fV rB nB iX}{s:g6}{xs sQ:List Value}{len m:Nat}{f:List bN->List bN}(dW:hW N.g1 T=some ⟨.slice e,n,aA,g0,z⟩)(c5:hW N.g1 e=some ⟨fI,fV,rB,nB,iX⟩)(AU:iX.length=fV)
 (K:bF x=s.val len) (bH:s.ok fV xs len) (xG:HE (s.L e xs) L f) (aH:Jm L R (bF y) m fV sQ) (a3:0<m) (O:sQ.all (·.oneCell')=true) (vN:len+m<=9223372036854775807) (QJ:(len+m)*nB<=140737488355328):
 eC P ⟨dst,.call ⟨.builtin .append,#[x,y],#[T,T]⟩,ty,pos,after,guard⟩ bF L R (λv E G=>∃g cap spare,v=(g6.own g cap spare).val (len+m)/\(g6.own g cap spare).ok fV (xs++sQ) (len+m)/\E=f ((g6.own g cap spare).L e (xs++sQ))/\G=R):=by
 intro c w cT a next Q iB
 have dL:=M1 (N.ok _ _ dW) rfl;obtain⟨iW,u,oT,Q2,Ve,XA,Mm⟩:=JI (N.ok _ _ c5);have DD:iW.size=fV:=by have:=congrArg jD.L7 Mm;simpa[HU]using this.symm
 have C6:iW.bytes=nB:=by have:=congrArg jD.g0 Mm;simpa[HU]using this.symm
 have eW:oT.cells.toList=iX:=by have:=congrArg jD.z Mm;simpa[HU]using this.symm
 have zE:oT.cells.size=fV:=by rw[<-AU,<-eW];simp
 obtain⟨qB,Sc,aS,WR,b21⟩:=aH;have Lr:=b21 c w cT;obtain⟨A,B,dI,aF⟩:=xG.split;have b4Q:∀u∈sQ,u.oneCell'=true:=List.all_eq_true.1 O;have eV:execOp bF ⟨dst,.call ⟨.builtin .append,#[x,y],#[T,T]⟩,ty,pos,after,guard⟩=(do pure (.value (<-Builtin.append_ #[T,T] ty #[bF x,bF y]))):=by exact a3g
 have Ik:∀k,(Builtin.zeroCells oT.cells k).toList.length=k*fV:=λk=>by rw[aCs,size_zeroCells,zE]
 -- the ends of both kinds
 have aNE:∀(pZ:Nat) (aGb:List bN),aGb=A++B->dQ c (A++B) R w->pZ<len+m->xs.length=len*fV->
  (∀aCl:World,aCl=w.drew.alloc (.cells (xs.toArray++sQ.toArray++Builtin.zeroCells oT.cells (grownCap w (len+m) pZ e-(len+m))) e)->
   next (a.put dst (.slice (some ⟨w.heap.size,0,none⟩) (len+m) (grownCap w (len+m) pZ e))) aCl):=by
  intro pZ aGb aLV Gv dG OA aCl b5O;have a9I:=grownCap_ge w (len+m) pZ e;have b27:grownCap w (len+m) pZ e<=maxLen:=grownCap_le_maxLen w (len+m) pZ e DP;have X:=(Gv.drew).alloc (xs.toArray++sQ.toArray++Builtin.zeroCells oT.cells (grownCap w (len+m) pZ e-(len+m))) e;rw[b5O];refine iB _ _ R _ ⟨w.heap.size,grownCap w (len+m) pZ e,(Builtin.zeroCells oT.cells (grownCap w (len+m) pZ e-(len+m))).toList,rfl,⟨?_,a9I,b27,?_⟩,rfl,rfl⟩ ?_;·rw[l9,OA,WR,Ia]
  ·rw[l9,l9,OA,WR,Ik,<-Ia,<-Ia];congr 1;omega
  ·rw[aF];refine X.CA ?_;simp only[g6.L,World.size_drew,Array.toList_append,oB,pK,nN];exact List.perm_middle.symm
 cases s with
 |nil=>
  obtain⟨rfl,rfl⟩:=bH;simp only[g6.L,GZ]at dI;have M:=run_append_nil (P:=P) w T ty e iW oT dL Q2 XA qB m Sc sQ (by rw[DD];exact WR) Lr a3 D (by rw[C6];simp only[MD]at QJ;omega);have Gv:dQ c (A++B) R w:=by rw[<-dI];exact cT
  refine P2 (w':=_) (v:=_) (h:=?_) (k:=aNE 0 _ rfl Gv D g2 _ rfl);rw[eV,K,aS];simp only[g6.val,w0,M,u2,KQ,MD];simp
 |own g cap spare=>
  obtain⟨Mp,aBA,b6w,Vn⟩:=bH;have B5:(⟨g,xs++spare,e⟩:bN)∈L:=by rw[dI];simp[g6.L]
  have a5:w.heap[g]?=some (.cells (xs++spare).toArray e (0,0)):=by obtain⟨⟨Z,b4,_⟩,_,_⟩:=cT;exact b4.own _ B5
  by_cases a2r:len+m<=cap;·
   (have qT:len*iW.size+sQ.length<=(xs++spare).toArray.size:=by rw[DD,WR,aCz,Vn,<-Ia];exact Wg _ a2r);have M:=run_append_room (P:=P) w T ty e iW dL Q2 g len cap (xs++spare).toArray a5 qB m Sc sQ (by rw[DD];exact WR) Lr b4Q a2r qT;(have rY:(List.take (len*iW.size) (xs++spare).toArray.toList++sQ++List.drop (len*iW.size+sQ.length) (xs++spare).toArray.toList)=(xs++sQ)++spare.drop sQ.length:=by rw[DD,<-Mp];simp only[List.take_left',oB];have b2:List.drop (xs.length+sQ.length) xs=[]:=a3C D;(have X:xs.length+sQ.length-xs.length=sQ.length:=by omega);rw[List.drop_append,b2,X,nN]);rw[rY]at M;(have b5G:s1 g (xs++spare) e ((xs++sQ)++spare.drop sQ.length) L (f ((g6.own g cap (spare.drop sQ.length)).L e (xs++sQ))):=by rw[dI,aF];simp only[g6.L,oB,pK,nN];exact .s7 .lT);refine P2 (w':=_) (v:=_) (h:=?_) (k:=iB (.slice (some ⟨g,0,none⟩) (len+m) cap) _ R _ ⟨g,cap,spare.drop sQ.length,rfl,⟨?_,a2r,b6w,?_⟩,rfl,rfl⟩ (cT.setRow b5G));·rw[eV,K,aS];simp only[g6.val,w0,M,u2,KQ]
   ·rw[l9,Mp,WR,Ia]
   ·rw[l9]at Vn;have fY:(len+m)*fV<=cap*fV:=Wg _ a2r;rw[Ia,<-Mp,<-WR]at fY;simp only[l9,DL];omega
  ·(have holds:∀j v,xs[j]?=some v->w.cell? ((⟨g,0,none⟩:Addr).add j)=some v:=λj v a6=>by rw[YX,MD,VD cT B5];rw[XU (List.getElem?_eq_some_iff.1 a6).1];exact a6);have M:=run_append_grow (P:=P) w T ty e iW oT dL Q2 XA ⟨g,0,none⟩ len cap xs (by rw[DD];exact Mp) holds qB m Sc sQ (by rw[DD];exact WR) Lr D D (growslice_fits D (by rw[C6];exact QJ));(have Gv:dQ c (A++B) R w:=by refine cT.tI ?_ (λr M=>⟨r,M,.lT⟩);rw[dI];exact a3t (aCF _ _) hA);refine P2 (w':=_) (v:=_) (h:=?_) (k:=aNE cap _ rfl Gv D Mp _ rfl);rw[eV,K,aS];simp only[g6.val,w0,M,u2,KQ]
end
def dQ.JY{c:w3}{L:List bN}{R:List fJ}{w:World}{b:Nat}{cs:List Value}{T:TypeId}{aN len cap:Nat}{rows:List (List Value)}{eU:List fJ}(h:dQ c (⟨b,cs,T⟩::L) R w)
 (aX:rows.length=len) (cG:len<=cap) (a3:cap<9223372036854775808) (dH:∀r∈rows,r.length=aN) (aP:0<aN) (rY:cs.take (len*aN)=rows.flatten) (lU:∀s∈eU,aL s R):
 dQ c L (.mk aN (some ⟨b,0,none⟩) len cap rows eU::R) w:=by
 obtain⟨⟨Z,b4,b7⟩,dG,aG⟩:=h;have a5:=b4.own ⟨b,cs,T⟩ g2;have tW:=b4.nM;simp only[wZ,UF]at tW;have up:∀s,sB w Z s->sB w (λx=>Z x\/x=b) s:=λs aH=>aH.mono (λ_ h=>.inl h) (λ_ _=>rfl);have i3:b<w.heap.size:=b4.lt (e:=⟨b,cs,T⟩) g2;refine⟨⟨λx=>Z x\/x=b,⟨tW.2,λe W=>b4.own e (by simp[W]),λe W K=>?_,λx K=>?_,λr M=>?_⟩,λx K=>?_⟩,λe W=>dG e (by simp[W]),aG⟩;·
  rcases K with K|K;·exact b4.tZ e (by simp[W]) K
  ·exact tW.1 (List.mem_map.2 ⟨e,W,K⟩)
 ·
  rcases K with K|rfl;·exact b4.sM x K
  ·exact i3
 ·
  rcases List.mem_cons.1 M with rfl|M;·
   refine .mk aX cG a3 dH ?_ (λs aH=> ?_);·refine .inr ⟨b,0,rfl,.inr rfl,λi j aE a6=> ?_⟩;(have O:w.cell? ⟨b,0+i*aN+j,none⟩=cs[i*aN+j]?:=by simp only[RK.Mr]at a5;simp[World.cell?,a5]);rw[O];(have X:i*aN+j<len*aN:=by have:(i+1)*aN<=len*aN:=Wg _ aE;rw[MC]at this;omega);(have aU:cs[i*aN+j]?=rows.flatten[i*aN+j]?:=by rw[<-rY,XX,if_pos X]);rw[aU,a6f rows dH _ aP];(have d1:(i*aN+j)/aN=i:=by rw[a3D,Nat.mul_add_div aP,Nat.div_eq_of_lt a6,Nat.add_zero]);(have d2:(i*aN+j)%aN=j:=by rw[a3D,Nat.mul_add_mod,Wm a6]);rw[d1,d2]
   ·obtain⟨r,M,TT⟩:=lU s aH;exact up _ ((b4.o8 r M).sub TT)
  ·exact up _ (b4.o8 r M)
 ·
  rcases K with K|rfl;·exact b7 x K
  ·
   rcases dG ⟨x,cs,T⟩ g2 with h|h;·exact .inr (.inr h)
   ·exact .inr (.inl h)
def FL{P:Program}{n:Nat}{all:Array Oper}{ops:List Oper}{t:Nat->Value}{L:List bN}{R:List fJ}{Q:gF}{b:Nat}{cs:List Value}{T:TypeId}{aN len cap:Nat}{rows:List (List Value)}{eU:List fJ}
 (aX:rows.length=len) (cG:len<=cap) (a3:cap<9223372036854775808) (dH:∀r∈rows,r.length=aN) (aP:0<aN) (rY:cs.take (len*aN)=rows.flatten) (lU:∀s∈eU,aL s R)
 (h:dF P n all ops t L (.mk aN (some ⟨b,0,none⟩) len cap rows eU::R) Q):dF P n all ops t (⟨b,cs,T⟩::L) R Q:=
 λc a w aF aH=>h c a w aF (aH.JY aX cG a3 dH aP rY lU)
def tO{P:Program}{n:Nat}{code:Code}{t:Nat->Value}{L E:List bN}{R G:List fJ}{Q:gF}(dI:E.Sublist L)(bO:∀r∈G,aL r R)(h:cQ P n code t E G Q):cQ P n code t L R Q:=
 λc a w aF aH=>h c a w aF (aH.tI dI bO)
def VH(bY:List Nat)(cW gG:List bN)(d:Option Tmp):List bN:=match d with
 |some d=>bif bY.contains d then gG else cW
 |none=>gG
def DY(bY:List Nat)(ops:Array Oper)(k:Nat):Bool:=match(ops[k]?).bind (·.dst)with
 |some d=>bY.contains d
 |none=>true
def aEw{bY:List Nat}{cW gG:List bN}{ops:Array Oper}{i:Nat}{o:Oper}(o3:ops[i]?=some o):VH bY cW gG o.dst=if DY bY ops i=true then gG else cW:=by
 have h:DY bY ops i=(match o.dst with|some d=>bY.contains d|none=>true):=by unfold DY;rw[o3];rfl
 rw[h];obtain⟨d,op,ty,pos,b8B,g⟩:=o;cases d with
 |none=>rfl
 |some d=>
  simp only[VH];by_cases cG:bY.contains d=true;·rw[if_pos cG,cG];rfl
  ·rw[if_neg cG,Bool.eq_false_iff.2 cG];rfl
def yI(P:Program)(N:oE P)(n:Nat)(all:Array Oper)(bY:List Nat)(cW gG:List bN)(fS:gF):List Oper->(Nat->Value)->List bN->List fJ->Prop
 |[],t,L,R=>fS .normal t L R
 |o::aD,t,L,R=>S2 n o.dst=true/\
  ((oY all t o.guard=false/\lC o.op≠1/\yI P N n all bY cW gG fS aD (xW t o.dst undef) L R)\/
   (oY all t o.guard=true/\lC o.op=0/\∃v,cP P o (iT t) (VH bY cW gG o.dst) R v/\yI P N n all bY cW gG fS aD (xW t o.dst v) L R)\/
   (lC o.op=1/\∃T,o.op=.alloc T/\∀b,yI P N n all bY cW gG fS aD (xW t o.dst (.pointer (some ⟨b,0,none⟩))) (⟨b,UI N T,T⟩::L) R)\/
   (oY all t o.guard=true/\lC o.op=2/\∃Post,eC P o (iT t) L R Post/\∀v E G,Post v E G->cW.Sublist E/\(∀r∈R,aL r G)/\yI P N n all bY cW gG fS aD (xW t o.dst v) E G))
def Zh(ops:Array Oper)(i:Nat)(lP:List Nat)(k:Nat):Bool:=Nat.beq k i||(match ops[k]? with
 |some o=>o.after.any λe=>Region.binds .any e && lP.contains e.on
 |none=>false)
def Rv(ops:Array Oper)(i:Nat)(iP:List Nat):List Nat:=iP.foldl (λlP k=>bif Zh ops i lP k then k::lP else lP) []
def Re(n:Nat)(gI:List Nat)(lP:List Nat):Array Bool:=(Array.range n).map λi=>gI.contains i && !lP.contains i
def I2(ops:Array Oper)(dJ:Array Bool):Prop:=∀j lL,ops[j]?=some lL->dJ.getD j true=true->∀e∈lL.after,Region.binds .any e=true->dJ.getD e.on false=true
def I2.set{ops:Array Oper}{dJ:Array Bool}(h:I2 ops dJ){j:Nat}(a6:j∈Region.ready .any ops dJ):I2 ops (dJ.setIfInBounds j true):=by
 intro k ok aG aX e W a5;by_cases EP:j=k;·subst EP;obtain⟨_,o,dG,qS⟩:=mem_ready.1 a6;obtain rfl:o=ok:=yF (dG.symm.trans aG);exact getD_set_true (qS e W a5)
 ·rw[getD_set_ne true EP]at aX;exact getD_set_true (h k ok aG aX e W a5)
def I2.zero{ops:Array Oper}:I2 ops (Array.replicate ops.size false):=by intro j lL a6 aX;have:j<ops.size:=(Array.getElem?_eq_some_iff.1 a6).1;simp[this]at aX
def aXO{ops:Array Oper}{i:Nat}{dJ:Array Bool}(cG:I2 ops dJ)(aE:dJ.getD i true=false)(iP:List Nat):∀k∈Rv ops i iP,dJ.getD k true=false:=by
 have key:∀(iP lP:List Nat),(∀k∈lP,dJ.getD k true=false)->∀k∈iP.foldl (λlP k=>bif Zh ops i lP k then k::lP else lP) lP,dJ.getD k true=false:=by
  intro iP;induction iP with
  |nil=>intro lP h;exact h
  |cons x iP c6=>
   intro lP h;rw[List.foldl_cons];refine c6 _ ?_;cases K:Zh ops i lP x with
   |false=>rw[cond_false];exact h
   |true=>
    rw[cond_true];intro k aG;rcases List.mem_cons.1 aG with rfl|aG;·
     simp only[Zh,Nq,Bt]at K;rcases K with rfl|K;·exact aE
     ·
      cases dG:ops[k]? with
      |none=>rw[dG]at K;cases K
      |some o=>
       rw[dG]at K;obtain⟨e,W,K⟩:=Array.any_eq_true'.1 K;simp only[nH]at K;cases aX:dJ.getD k true with
       |false=>rfl
       |true=>
        have O:=cG k o dG aX e W K.1;have X:=h e.on (by simpa using K.2);rcases hF e.on dJ.size with c4|c4;·simp[c4]at O X;rw[O]at X;cases X
        ·simp[IV c4]at O
    ·exact h k aG
 exact key iP [] (λk aG=>by cases aG)
def RH(bY:List Nat)(ops:Array Oper)(gI eF:List Nat):Bool:=
 (eF.all λk=>!Nat.beq (vE ops k) 1 && !gI.contains k) &&
 (gI.all λk=>Nat.blt k ops.size && (!Nat.beq (vE ops k) 0||DY bY ops k||(Region.ready .any ops (Re ops.size gI (Rv ops k gI))).all λj=>!eF.contains j)) &&
 ((List.range ops.size).all λk=>gI.contains k||eF.contains k)
section
variable{P:Program}{ops:Array Oper}{bY:List Nat}{Q:Exit->Act->World->Prop}{S e3:World->Prop}{gI eF:List Nat}
def aVd(h:RH bY ops gI eF=true){k:Nat}(aG:k∈eF):vE ops k≠1:=by simp only[RH,nH]at h;have:=List.all_eq_true.1 h.1.1 k aG;simp only[nH]at this;intro e;rw[e]at this;exact absurd this.1 aW
def Ks(h:RH bY ops gI eF=true){k:Nat}(aG:k∈eF):k∉gI:=by simp only[RH,nH]at h;have:=List.all_eq_true.1 h.1.1 k aG;simp only[nH,Wj]at this;intro a3;rw[List.contains_iff_mem.2 a3]at this;cases this.2
def aWw(h:RH bY ops gI eF=true){i:Nat}(aE:i∈gI)(aG:vE ops i=0)(aP:DY bY ops i=false){dJ:Array Bool}(kK:I2 ops dJ)(GH:dJ.size=ops.size)(EI: ∀k∈eF,dJ.getD k true=false)(aX:dJ.getD i true=false)
 {j:Nat} (a6:j∈Region.ready .any ops dJ):j∉eF:=by
 simp only[RH,nH]at h;obtain⟨⟨_,O⟩,C7⟩:=h;have X:=List.all_eq_true.1 O i aE;simp only[aG,aP,nH]at X;have aU:((Region.ready .any ops (Re ops.size gI (Rv ops i gI))).all λj=>!eF.contains j)=true:=by have cK:=X.2;rw[show Nat.beq 0 0=true from rfl]at cK;simpa using cK
 intro LX;obtain⟨b2,o,dG,qS⟩:=mem_ready.1 a6;have Gc:j<ops.size:=(Array.getElem?_eq_some_iff.1 dG).1;have a2g:j∉gI:=Ks (by simp only[RH,nH];exact⟨⟨by assumption,O⟩,C7⟩) LX;have:j∈Region.ready .any ops (Re ops.size gI (Rv ops i gI)):=by
  refine mem_ready.2 ⟨by simp[Re,Gc,a2g],o,dG,λe W a5=>?_⟩;have fY:=qS e W a5;have i3:e.on<ops.size:=by
   rcases hF e.on dJ.size with c4|c4;·rw[GH]at c4;exact c4
   ·simp[IV c4]at fY
  have i7:dJ.getD e.on true=true:=by(have:e.on<dJ.size:=by rw[GH];exact i3);simp[this]at fY|-;exact fY
  have kG:e.on∈gI:=by
   have nL:=List.all_eq_true.1 C7 e.on (List.mem_range.2 i3);simp only[Nq,List.contains_iff_mem]at nL;rcases nL with h|h;·exact h
   ·rw[EI _ h]at i7;cases i7
  have jF:e.on∉Rv ops i gI:=λW=>by rw[aXO kK aX gI _ W]at i7;cases i7
  simp[Re,i3,kG,jF]
 have:=List.all_eq_true.1 aU j this;rw[List.contains_iff_mem.2 LX]at this;cases this
def GX(P:Program)(ops:Array Oper)(Q:Exit->Act->World->Prop)(S e3:World->Prop)(eF:List Nat):Nat->Array Bool->Act->World->Prop
 |0,dJ,a,w=>Region.ready .any ops dJ=[]/\Q .normal a w
 |hY+1,dJ,a,w=>(Region.ready .any ops dJ=[]->Q .normal a w)/\
  ∀i∈Region.ready .any ops dJ,wpOp P ops Q i (λfA w'=>(e3 w'/\(eF.any (λk=>(dJ.setIfInBounds i true).getD k false)=true\/S w'))/\GX P ops Q S e3 eF hY (dJ.setIfInBounds i true) fA w') a w
def a7f: ∀(hY:Nat) (dJ:Array Bool) (a:Act) (w:World),GX P ops Q S e3 eF hY dJ a w->wpAny P .any ops Q hY dJ a w
 |0,_,_,_,h=>h
 |hY+1,_,_,_,h=>⟨h.1,λi aE=>wpOp_mono (λfA w' c4=>a7f hY _ fA w' c4.2) (h.2 i aE)⟩
def Po{hY:Nat}{dJ:Array Bool}{a:Act}{w:World}(jF:Region.ready .any ops dJ≠[])
 (h:∀i∈Region.ready .any ops dJ,wpOp P ops Q i (λfA w'=>(e3 w'/\(eF.any (λk=>(dJ.setIfInBounds i true).getD k false)=true\/S w'))/\GX P ops Q S e3 eF hY (dJ.setIfInBounds i true) fA w') a w):GX P ops Q S e3 eF (hY+1) dJ a w:=
 ⟨λb2=>absurd b2 jF,h⟩
def a4X{YN Zn:World->Prop}(eL: ∀w,YN w->S w)(tA: ∀w,Zn w->e3 w): ∀(f:Nat) (l:Array Bool) (a:Act) (w:World),GX P ops Q YN Zn eF f l a w->GX P ops Q S e3 eF f l a w
 |0,_,_,_,h=>h
 |f+1,_,_,_,h=>⟨h.1,λi aE=>wpOp_mono (λfA w' c4=>⟨⟨tA _ c4.1.1,c4.1.2.imp id (eL _)⟩,a4X eL tA f _ fA w' c4.2⟩) (h.2 i aE)⟩
def Zv{dJ:Array Bool}(h:∀k∈eF,dJ.getD k true=false):eF.any (λk=>dJ.getD k false)=false:=by
 cases a5:eF.any (λk=>dJ.getD k false)with
 |false=>rfl
 |true=>
  obtain⟨k,aG,aX⟩:=List.any_eq_true.1 a5;have:=h k aG;rcases hF k dJ.size with c4|c4;·simp[c4]at this aX;rw[this]at aX;cases aX
  ·simp[IV c4]at aX
def aFm{i:Nat}{KF:Oper}{v:Value}(eW:RH bY ops gI eF=true)(GG:i∈gI)(zA:vE ops i=0)(aE:ops[i]? =some KF)(II: ∀(j:Nat) (o:Oper) cs b,ops[j]? =some o->o.op≠ .select cs b)
 (QF: ∀c a w,Q (.panic c) (a.put KF.dst v) w->Q (.panic c) a w) (hY:Nat) (dJ:Array Bool) (a:Act) (w:World) (kK:I2 ops dJ) (GH:dJ.size=ops.size) (EI: ∀k∈eF,dJ.getD k true=false)
  (J3:∀j lL,ops[j]?=some lL->j≠i->dJ.getD j true=false->(∀e∈lL.after,Region.binds .any e=true->e.on≠i)->KF.apart ops lL=true)
  (M:i∈Region.ready .any ops dJ) (aS:YieldsIf P ops (if DY bY ops i=true then e3 else S) KF v a) (eL:S w) (TA:∀w,S w->e3 w)
  (H:GX P ops Q S e3 eF hY (dJ.setIfInBounds i true) (a.put KF.dst v) w):GX P ops Q S e3 eF (hY+1) dJ a w:=by
 -- what holds of it for as long as it has not come up
 let CV:World->Prop:=if DY bY ops i=true then e3 else S;have b5Y:YieldsIf P ops CV KF v a:=aS;have aL2:∀w,S w->CV w:=by
  intro w dH;show(if DY bY ops i=true then e3 else S) w;split;·exact TA w dH
  ·exact dH
 have b2z:DY bY ops i=true->∀w,e3 w->CV w:=by intro aP w dH;show(if DY bY ops i=true then e3 else S) w;rw[if_pos aP];exact dH
 have EU:DY bY ops i=false->∀dJ:Array Bool,I2 ops dJ->dJ.size=ops.size->(∀k∈eF,dJ.getD k true=false)->dJ.getD i true=false->∀j∈Region.ready .any ops dJ,j∉eF:=λaP dJ kK GH EI aX j a6=>
  aWw eW GG zA aP kK GH EI aX a6
 have WN:i∉eF:=λh=>Ks eW h GG;clear eW aS
 -- along all orders
 have b6m:∀(hY:Nat) (dJ:Array Bool) (a:Act) (w:World),I2 ops dJ->dJ.size=ops.size->(DY bY ops i=false->∀k∈eF,dJ.getD k true=false)->
  (∀j lL,ops[j]?=some lL->j≠i->dJ.getD j true=false->(∀e∈lL.after,Region.binds .any e=true->e.on≠i)->KF.apart ops lL=true)->
  i∈Region.ready .any ops dJ->YieldsIf P ops CV KF v a->CV w->e3 w->(eF.any (λk=>dJ.getD k false)=true\/S w)->
  GX P ops Q S e3 eF hY (dJ.setIfInBounds i true) (a.put KF.dst v) w->GX P ops Q S e3 eF (hY+1) dJ a w:=by
  intro hY;induction hY with
  |zero=>
   intro dJ a w _ GH EI _ M aS B1 tA eL H;refine Po (Nn M) λj a6=>?_;by_cases N5:j=i;·exact aOI
   ·have:=ready_mono a6 N5;rw[H.1]at this;cases this
  |succ hY c6=>
   intro dJ a w kK GH EI J3 M aS B1 tA eL H;refine Po (Nn M) λj a6=>?_;by_cases N5:j=i;·exact aOI
   ·
    have O:=H.2 j (ready_mono a6 N5);obtain⟨aMy,lL,J8,qS⟩:=mem_ready.1 a6;have b4k:∀e∈lL.after,Region.binds .any e=true->e.on≠i:=λe W a5 b3n=>by
     have O:=qS e W a5;have b2:=(mem_ready.1 M).1;rw[b3n]at O;rcases hF i dJ.size with c4|c4;·simp[c4]at b2 O;rw[b2]at O;cases O
     ·simp[IV c4]at O
    have b3C:∀k ok,ops[k]?=some ok->k≠i->(dJ.setIfInBounds j true).getD k true=false->(∀e∈ok.after,Region.binds .any e=true->e.on≠i)->KF.apart ops ok=true:=by
     intro k ok aG jF aX vO;refine J3 k ok aG jF ?_ vO;by_cases aMx:j=k;·subst aMx;exact aMy
     ·rwa[getD_set_ne true aMx]at aX
    (have b37:(dJ.setIfInBounds j true).size=ops.size:=by simp[GH]);(have aLU:DY bY ops i=false->∀k∈eF,(dJ.setIfInBounds j true).getD k true=false:=λaP k aG=>by have LX:=EU aP dJ kK GH (EI aP) (mem_ready.1 M).1 j a6;rw[getD_set_ne true (show¬j=k from λe=>LX (e▸aG))];exact EI aP k aG);have X:=wpOp_putIf J8 (J3 j lL J8 N5 aMy b4k) (λcs b=>II i KF cs b aE) (λcs b=>II j lL cs b J8) QF aS O;(have n4:∀{l:Array Bool},eF.any (λk=>(l.setIfInBounds i true).getD k false)=true->eF.any (λk=>l.getD k false)=true:=by intro l h;obtain⟨k,aG,aX⟩:=List.any_eq_true.1 h;refine List.any_eq_true.2 ⟨k,aG,?_⟩;rwa[getD_set_ne false (show¬i=k from λe=>WN (e▸aG))]at aX);refine wpOp_mono (λfA w' aU=>?_) X;obtain⟨Va,⟨cC,cG⟩,aM5⟩:=aU;have b3a:(dJ.setIfInBounds i true).setIfInBounds j true=(dJ.setIfInBounds j true).setIfInBounds i true:=by
     first
      |exact Array.setIfInBounds_comm _ _ N5
      |exact Array.setIfInBounds_comm _ _ (XW N5)
    rw[b3a]at aM5 cG;have ZY:eF.any (λk=>(dJ.setIfInBounds j true).getD k false)=true\/S w':=cG.imp (λh=>n4 h) id;have b2x:CV w':=by
     cases aP:DY bY ops i with
     |true=>exact b2z aP w' cC
     |false=>exact aL2 w' (ZY.resolve_left (by rw[Zv (aLU aP)];decide))
    exact⟨⟨cC,ZY⟩,c6 (dJ.setIfInBounds j true) fA w' (kK.set a6) b37 aLU b3C (ready_mono M (XW N5)) Va b2x cC ZY aM5⟩
 exact b6m hY dJ a w kK GH (λ_=>EI) J3 M b5Y (aL2 w eL) (TA w eL) (.inr eL) H
end
section
variable{P:Program}{N:oE P}{n:Nat}{ops:Array Oper}{c:w3}{cW:List bN}{fS:gF}
def aHv{Q:Exit->Act->World->Prop}{S e3:World->Prop}{eF:List Nat}:∀(hY:Nat) (dJ:Array Bool) (a:Act) (w:World),dJ.size=ops.size->(∀k,k<ops.size->k∉eF->dJ.getD k true=true)->
 wpAnyH P .any ops Q e3 hY dJ a w->GX P ops Q S e3 eF hY dJ a w
 |0,_,_,_,_,_,h=>h
 |hY+1,dJ,_,_,GH,qS,h=>⟨h.1,λi aE=>by
  obtain⟨b2,o,dG,_⟩:=mem_ready.1 aE
  have Ga:i<ops.size:=(Array.getElem?_eq_some_iff.1 dG).1
  have WN:i∈eF:=by
   rcases DM (i∈eF)with h|h
   ·exact h
   ·rw[qS i Ga h]at b2;cases b2
  refine wpOp_mono (λfA w' c4=>⟨⟨c4.1,.inl (List.any_eq_true.2 ⟨i,WN,VA (by rw[GH];exact Ga) false⟩)⟩,aHv hY _ fA w' (by simp[GH]) (λk aG b1=>?_) c4.2⟩) (h.2 i aE)
  by_cases To:i=k
  ·subst To;exact VA (by rw[GH];exact Ga) true
  ·rw[getD_set_ne true To];exact qS k aG b1⟩
def aJZ{YM:gF}{eF:List Nat}{gG:List bN}{S:World->Prop}(II:Region.noSelect ops=true)(hC:Dz N n ops=true){os:List Oper}{hY:Nat}{done dJ:Array Bool}{t:Nat->Value}{L:List bN}{R:List fJ}{a:Act}{w:World}
 (uW:eF.map (ops[·]?)=os.map some) (eI:K8 ops done eF=true) (c5:UO N n ops done dJ []) (nX:done.size=ops.size) (GF:eF.length<=hY) (C7:∀i,i<ops.size->done.getD i true=false->i∈eF) (kE:mS n (B8 t []) a) (cT:dQ c (VB N []++L) R w) (BX:gG.Sublist L)
 (x9:dV P N n ops gG YM os t L R):GX P ops (FF n c YM) S (dQ c gG R) eF hY dJ a w:=by
 refine aHv hY dJ a w (by rw[c5.size,nX]) (λk aG b1=>?_) ?_;·
  cases bM:done.getD k true with
  |true=>exact(c5.dJ k true).2 (.inl bM)
  |false=>exact absurd (C7 k aG bM) b1
 ·exact aKi II hC (hY+eF.length) hY eF os done dJ [] t L R a w (iK _) (by simpa using GF) uW eI c5 (λe W=>by cases W) nX C7 kE cT BX x9
def b00{YM:gF}{Ms:List Oper}{bY gI eF:List Nat}{gG:List bN}(BX:gG.Sublist cW)(eW:RH bY ops gI eF=true)(b4R:eF.map (ops[·]?)=Ms.map some)(fE:fS=λ_ t L R=>dV P N n ops gG YM Ms t L R)(II:Region.noSelect ops=true)(hC:Dz N n ops=true):∀(m hY:Nat) (iP:List Nat) (os:List Oper) (done dJ:Array Bool) (gO:List G8) (t:Nat->Value) (L:List bN) (R:List fJ) (a:Act) (w:World),
 hY+iP.length<=m->iP.length+eF.length<=hY+gO.length->iP.map (ops[·]?)=os.map some->K8 ops done (iP++eF)=true->(∀k∈iP,k∈gI)->(∀k∈eF,done.getD k true=false)->I2 ops dJ->UO N n ops done dJ gO->(∀e∈gO,e.i∈iP)->done.size=ops.size->
 (∀i,i<ops.size->done.getD i true=false->i∈iP\/i∈eF)->
 mS n (B8 t gO) a->dQ c (VB N gO++L) R w->cW.Sublist L->yI P N n ops bY cW gG fS os t L R->GX P ops (FF n c YM) (dQ c cW R) (dQ c gG R) eF hY dJ a w:=by
 intro m;induction m with
 |zero=>
  intro hY iP os done dJ gO t L R a w a3 GF uW eI jT a18 kK c5 QE nX C7 kE cT pV x9;obtain rfl:iP=[]:=by cases iP with|nil=>rfl|cons x l=>simp at a3
  exact aOT
 |succ m c6=>
  intro hY iP os done dJ gO t L R a w a3 GF uW eI jT a18 kK c5 QE nX C7 kE cT pV x9;have eL:dQ c cW R w:=cT.tI (pV.trans (XT _ _)) (λr M=>⟨r,M,.lT⟩);have GH:dJ.size=ops.size:=by rw[c5.size,nX]
  have EI:∀k∈eF,dJ.getD k true=false:=by
   intro k aG;cases aX:dJ.getD k true with
   |false=>rfl
   |true=>
    rcases(c5.dJ k true).1 aX with h|⟨e,W,aE⟩;·rw[a18 k aG]at h;cases h
    ·exact absurd (jT _ (QE e W)) (by rw[aE];exact Ks eW aG)
  -- a making of a variable that comes up early
  have early:∀(f:Nat),hY=f+1->∀j,j∈Region.ready .any ops dJ->vE ops j=1->
   wpOp P ops (FF n c YM) j (λfA w'=>(dQ c gG R w'/\(eF.any (λk=>(dJ.setIfInBounds j true).getD k false)=true\/dQ c cW R w'))/\GX P ops (FF n c YM) (dQ c cW R) (dQ c gG R) eF f (dJ.setIfInBounds j true) fA w') a w:=by
   intro f aF j a6 EP;obtain⟨b2,lL,J8,qS⟩:=mem_ready.1 a6;(have a9T:lC lL.op=1:=by simpa[vE,J8]using EP);obtain⟨T,dW⟩:=aEX a9T;obtain⟨b7,⟨iW,Ur⟩,⟨d,bM,LS,aMh⟩,J3⟩:=a61 hC J8 dW;obtain⟨oT,xI,EU⟩:=Pr (N.ok _ _ Ur) w;have a2f:done.getD j true=false:=by
    cases bM:done.getD j true with
    |false=>rfl
    |true=>rw[(c5.dJ j true).2 (.inl bM)]at b2;cases b2
   (have a9N:∀e∈gO,e.i≠j:=λe W aE=>by rw[(c5.dJ j true).2 (.inr ⟨e,W,aE⟩)]at b2;cases b2);(have aBo:oT.cells.toList=UI N T:=by rw[EU];simp[UI,Ur]);(have qF:dQ c (VB N (⟨j,d,w.heap.size,T⟩::gO)++L) R (w.alloc (.cells oT.cells T)):=by have:=cT.alloc oT.cells T;rw[aBo]at this;exact this);unfold wpOp;simp only[J8];rw[kE.wanted,b7];simp only[oY,if_true];refine .inl ?_;(have WZ:(execOp a.eval lL).run P w=.ok (.value (.pointer (some ⟨w.heap.size,0,none⟩))) (w.alloc (.cells oT.cells T)):=by exact aPx);unfold Oper.wp;rw[WZ];refine⟨⟨qF.tI ((BX.trans pV).trans (XT _ _)) (λr M=>⟨r,M,.lT⟩),.inr (qF.tI (pV.trans (XT _ _)) (λr M=>⟨r,M,.lT⟩))⟩,?_⟩;have Gc:j<ops.size:=(Array.getElem?_eq_some_iff.1 J8).1;(have a9O:j<dJ.size:=by rw[c5.size,nX];exact Gc);have a2g:j∈iP:=(C7 j Gc a2f).resolve_right λh=>aVd eW h EP;refine c6 f iP os done _ (⟨j,d,w.heap.size,T⟩::gO) t L R _ _ D (by simp only[wD];omega) uW eI jT a18 (kK.set a6) ?_ ?_ nX C7 ?_ qF pV x9;·exact aO9
   ·exact aPM
   ·exact aPV
  cases iP with
  |nil=>exact aOT
  |cons i aD=>
   cases os with
   |nil=>simp at uW
   |cons o os=>
    simp only[wZ,a3w]at uW;obtain⟨o3,uW⟩:=uW;simp only[pK,K8,nH]at eI;obtain⟨⟨TJ,N6⟩,WU⟩:=eI;(have TJ:i∈Region.ready .any ops done:=by simpa using TJ);obtain⟨Tn,o',Gg,Gp⟩:=mem_ready.1 TJ;obtain rfl:o'=o:=yF (Gg.symm.trans o3);have Ga:i<ops.size:=(Array.getElem?_eq_some_iff.1 o3).1;(have TI:i<done.size:=by rw[nX];exact Ga);(have TK:vE ops i=lC o'.op:=by simp[vE,o3]);have WI:∀k,k<ops.size->(done.setIfInBounds i true).getD k true=false->k∈aD\/k∈eF:=by
     intro k aG bM;by_cases Gd:i=k;·subst Gd;rw[VA TI]at bM;cases bM
     ·
      rw[getD_set_ne true Gd]at bM;rcases C7 k aG bM with h|h;·
       rcases List.mem_cons.1 h with h|h;·exact absurd h.symm Gd
       ·exact .inl h
      ·exact .inr h
    have a2n:∀k∈aD,k∈gI:=λk aG=>jT k (OV _ aG);have GG:i∈gI:=jT i g2;(have a19:∀k∈eF,(done.setIfInBounds i true).getD k true=false:=λk aG=>by rw[getD_set_ne true (show¬i=k from λe=>Ks eW aG (e▸GG))];exact a18 k aG);(have WL:(done.setIfInBounds i true).size=ops.size:=by simp[nX]);(have b3g:∀k,done.getD k true=true->∀d,dJ.getD k d=true\/k>=done.size:=by exact aPW);obtain⟨bM,x9⟩:=x9
    -- if the operation is no making of a variable, it has not come up, and is apart from the early ones
    (have OH:lC o'.op≠1->∀e∈gO,e.i≠i:=by exact aP2);(have Se:lC o'.op≠1->gO.length<=aD.length:=by exact aO1);have TS:lC o'.op≠1->i∈Region.ready .any ops dJ:=by
     intro aG;refine mem_ready.2 ⟨?_,o',o3,λe W a5=>(c5.dJ _ _).2 (.inl (Gp e W a5))⟩;cases aX:dJ.getD i true with
     |false=>rfl
     |true=>exact aP5
    have apart:lC o'.op≠1->∀e∈gO,e.d∉o'.looksAt ops/\o'.dst≠some e.d:=λaG=>aG0 hC c5 o3 (OH aG) Gp;(have Er:lC o'.op≠1->∀e∈gO,e.i∈aD:=λaG e W=>by exact aPC);(have frame:lC o'.op≠1->∀v,mS n (B8 (xW t o'.dst v) gO) (a.put o'.dst v):=λaG v=>by rw[<-a1s (λe W=>(apart aG e W).2)];exact kE.put bM v);(have Gz:lC o'.op≠1->Region.wanted o' (yielded ops a.tmps)=oY ops t o'.guard:=λaG=>by rw[kE.wanted,aFI (λe W=>(apart aG e W).1)]);(have TG:lC o'.op≠1->execOp a.eval o'=execOp (iT t) o':=λaG=>by exact aPy);rcases aFB o'.op with aG|aG|aG;·
     -- it leaves the world alone
     (have hE:lC o'.op≠1:=by rw[aG];decide);have vN:=Se hE;obtain⟨f,rfl⟩:∃f,hY=f+1:=⟨hY-1,by simp only[wD]at GF;omega⟩;rw[TK,aG]at N6;have J3:∀j lL,ops[j]?=some lL->j≠i->dJ.getD j true=false->(∀e∈lL.after,Region.binds .any e=true->e.on≠i)->o'.apart ops lL=true:=by
      intro j lL a6 jF aX vO;refine a3p o3 N6 j lL a6 jF ?_ vO;cases bM:done.getD j true with
      |false=>rfl
      |true=>rw[(c5.dJ j true).2 (.inl bM)]at aX;cases aX
     have aMB:=aEw (bY:=bY) (cW:=cW) (gG:=gG) o3;(have a9a:∀w',(if DY bY ops i=true then dQ c gG R else dQ c cW R) w'->dQ c (VH bY cW gG o'.dst) R w':=by exact aP8);(have go:∀v,YieldsIf P ops (if DY bY ops i=true then dQ c gG R else dQ c cW R) o' v a->yI P N n ops bY cW gG fS os (xW t o'.dst v) L R->GX P ops (FF n c YM) (dQ c cW R) (dQ c gG R) eF (f+1) dJ a w:=by intro v aS xE;refine aFm eW GG (by rw[TK];exact aG) o3 (a3x II) (λ_ _ _ h=>h.1.elim) f dJ a w kK GH EI J3 (TS hE) aS eL (λw dH=>dH.tI BX (λr M=>⟨r,M,.lT⟩)) ?_;exact c6 f aD os _ _ gO _ L R _ w Ci Od uW WU a2n a19 (kK.set (TS hE)) (c5.step (OH hE) TI) (Er hE) WL WI (frame hE v) cT pV xE);rcases x9 with⟨dH,_,xE⟩|⟨dH,_,v,cY,xE⟩|⟨O,_⟩|⟨_,X,_⟩;·exact go undef (.inr ⟨by rw[Gz hE];exact dH,rfl⟩) xE
     ·exact go v (.inl ⟨by rw[Gz hE];exact dH,λw' W4=>by rw[TG hE];exact cY c w' (a9a w' W4)⟩) xE
     ·exact absurd O hE
     ·rw[aG]at X;cases X
    ·
     -- it makes a variable
     rw[TK,aG]at N6;rcases x9 with⟨_,O,_⟩|⟨_,X,_⟩|⟨_,T,dW,xE⟩|⟨_,X,_⟩;·exact absurd aG O
     ·rw[aG]at X;cases X
     ·
      by_cases kG: ∃e∈gO,e.i=i;·
       -- it has come up early
       obtain⟨e,W,Fv⟩:=kG;obtain⟨Bb,O,X,aU,cK⟩:=c5.op e W;rw[Fv]at O;obtain rfl:Bb=o':=yF (O.symm.trans o3);(obtain rfl:e.T=T:=by rw[X]at dW;exact Op.alloc.inj dW);obtain⟨I3,G7,rfl⟩:=List.append_of_mem W;(have B5:∀x∈I3++G7,x∈I3++e::G7:=λx K=>by exact aQb);(have a98:∀x∈I3++G7,x.i≠i:=by exact aOX);refine c6 hY aD os _ dJ (I3++G7) _ _ R a w Ci aTj uW WU a2n a19 kK ?_ ?_ WL WI ?_ ?_ (pV.cons _) (xE e.b);·exact aO7
       ·exact aQa
       ·rw[aU];have:=a4P (t:=t) c5.Vk;rw[this]at kE;exact kE
       ·exact aPZ
      ·
       -- it has not: whatever comes up now makes a variable
       have a2e:∀e∈gO,e.i≠i:=λe W aE=>kG ⟨e,W,aE⟩;have Aj:i∈Region.ready .any ops dJ:=by
        refine mem_ready.2 ⟨?_,o',o3,λe W a5=>(c5.dJ _ _).2 (.inl (Gp e W a5))⟩;cases aX:dJ.getD i true with
        |false=>rfl
        |true=>exact aP7
       (have vN:gO.length+1<=(i::aD).length:=by exact aOS);obtain⟨f,rfl⟩:∃f,hY=f+1:=⟨hY-1,by omega⟩;refine Po (Nn Aj) λj a6=>early f rfl j a6 ?_;exact aOB
     ·rw[aG]at X;cases X
    ·
     -- it turns the world
     (have hE:lC o'.op≠1:=by rw[aG];decide);have vN:=Se hE;obtain⟨f,rfl⟩:∃f,hY=f+1:=⟨hY-1,by simp only[wD]at GF;omega⟩;rw[TK,aG]at N6;refine Po (Nn (TS hE)) λj a6=>?_;by_cases EP:vE ops j=1;·exact early f rfl j a6 EP
     ·
      have N5:=a64 (p:=λ_=>true) c5 (λ_ _=>rfl) nX a6 EP;have:=List.all_eq_true.1 N6 j N5;(obtain rfl:j=i:=by simpa using this);unfold wpOp;simp only[o3];rw[Gz hE];rcases x9 with⟨dH,_,xE⟩|⟨_,X,_⟩|⟨O,_⟩|⟨dH,_,Post,b7,xE⟩;·rw[dH,if_neg g2];exact⟨⟨eL.tI BX (λr M=>⟨r,M,.lT⟩),.inr eL⟩,c6 f aD os _ _ gO _ L R _ w Ci Od uW WU a2n a19 (kK.set (TS hE)) (c5.step (OH hE) TI) (Er hE) WL WI (frame hE undef) cT pV xE⟩
      ·rw[aG]at X;cases X
      ·exact absurd O hE
      ·rw[dH,if_pos rfl];refine .inl (aKI (TG hE) ?_);refine(b7.frame (VB N gO)) c w cT a _ _ ?_;rintro v i6 G w' ⟨E,rfl,aP⟩ qF;obtain⟨S7,J0,a9x⟩:=xE v E G aP;refine⟨⟨qF.tI ((BX.trans S7).trans (XT _ _)) J0,.inr (qF.tI (S7.trans (XT _ _)) J0)⟩,?_⟩;refine a4X (YN:=dQ c cW G) (Zn:=dQ c gG G) (λx K=>K.tI hA J0) (λx K=>K.tI hA J0) _ _ _ _ ?_;exact c6 f aD os _ _ gO _ E G _ w' Ci Od uW WU a2n a19 (kK.set (TS hE)) (c5.step (OH hE) TI) (Er hE) WL WI (frame hE v) qF S7 a9x
end
def iS{P:Program}(N:oE P){n id:Nat}{ops:List Oper}{t:Nat->Value}{L:List bN}{R:List fJ}{Q:gF}(bY iP eF:List Nat)(cW gG:List bN)(a3:P.follows .mixedOrders=true)(BV:(a1x N n ops.toArray (iP++eF) && RH bY ops.toArray iP eF)=true)(pV:cW.Sublist L)(BX:gG.Sublist cW)
 (h:yI P N n ops.toArray bY cW gG (λ_ t L R=>dV P N n ops.toArray gG Q (MY ops eF) t L R) (MY ops iP) t L R):cQ P n (.region id ops.toArray true) t L R Q:=by
 simp only[nH]at BV;obtain⟨BV,eW⟩:=BV;simp only[a1x,nH]at BV;obtain⟨⟨⟨⟨O,X⟩,aU⟩,cK⟩,fY⟩:=BV;have i3:∀i∈iP++eF,i<ops.length:=λi aE=>by simpa using List.all_eq_true.1 fY i aE
 intro c a w aF aH;refine wp_region_any a3 (a7f (S:=dQ c cW R) (e3:=dQ c gG R) (eF:=eF) _ _ _ _ ?_);refine b00 (N:=N) (cW:=cW) (eF:=eF) (Ms:=MY ops eF) BX eW (Qf ops eF λi aE=>i3 i (lZ _ aE)) rfl O X (ops.toArray.size+iP.length) ops.toArray.size iP (MY ops iP) (Array.replicate ops.toArray.size false) _ [] t L R a _ (iK _) ?_ (Qf ops iP λi aE=>i3 i (r7 _ aE)) aU (λ_ h=>h) (λk aG=>by have:=i3 k (lZ _ aG);simp[this]) I2.zero ?_ (λe W=>by cases W) g2 ?_ aF ?_ pV h;·
  have key:∀(c9:List Nat) (done:Array Bool),K8 ops.toArray done c9=true->c9.Nodup/\∀i∈c9,done.getD i true=false:=by
   intro c9;induction c9 with
   |nil=>intro _ _;exact⟨XQ,λi aE=>by cases aE⟩
   |cons i c9 c6=>exact aPg
  have:=Rq (iP++eF) (List.range ops.length) (key _ _ aU).1 (λi aE=>List.mem_range.2 (i3 i aE));simpa using this
 ·exact⟨by simp,λi d=>by simp,by simp,by simp,XQ,XQ⟩
 ·exact aPN
 ·exact dQ.drew aH
section
variable{P:Program}{N:oE P}{n:Nat}{all:Array Oper}{bY:List Nat}{cW gG:List bN}{fS:gF}{op:Op}{ty:TypeId}{pos:String}{after:Array Edge}{aD:List Oper}{t:Nat->Value}{L E:List bN}{R G:List fJ}{d:Tmp}{v:Value}{g:Option (Nat×Bool)}{T:TypeId}{x y:Operand}
def aZS{Q:gF}{Ms:List Oper}(h:dV P N n all gG Q Ms t L R):yI P N n all bY cW gG (λ_ t L R=>dV P N n all gG Q Ms t L R) [] t L R:=h
def fP(cY:cP P ⟨some d,op,ty,pos,after,g⟩ (iT t) cW R v)(aX:bY.contains d=false)(aG:lC op=0)(b7:oY all t g=true)(bM:Nat.blt d n=true)(h:yI P N n all bY cW gG fS aD (kR t d v) L R):yI P N n all bY cW gG fS (⟨some d,op,ty,pos,after,g⟩::aD) t L R:=
 ⟨bM,.inr (.inl ⟨b7,aG,v,by simp only[VH];rw[aX];exact cY,h⟩)⟩
def m2(cY:cP P ⟨some d,op,ty,pos,after,g⟩ (iT t) gG R v)(aX:bY.contains d=true)(aG:lC op=0)(b7:oY all t g=true)(bM:Nat.blt d n=true)(h:yI P N n all bY cW gG fS aD (kR t d v) L R):yI P N n all bY cW gG fS (⟨some d,op,ty,pos,after,g⟩::aD) t L R:=
 ⟨bM,.inr (.inl ⟨b7,aG,v,by simp only[VH];rw[aX];exact cY,h⟩)⟩
def a4U(aG:Nat.beq (lC op) 1=false)(b7:oY all t g=false)(bM:Nat.blt d n=true)(h:yI P N n all bY cW gG fS aD (kR t d undef) L R):yI P N n all bY cW gG fS (⟨some d,op,ty,pos,after,g⟩::aD) t L R:=
 ⟨bM,.inl ⟨b7,λe=>by simp[e]at aG,h⟩⟩
def Eb{Post:oK}(b7:eC P ⟨some d,op,ty,pos,after,g⟩ (iT t) L R Post)(aG:lC op=2)(dH:oY all t g=true)(bM:Nat.blt d n=true)
 (h:∀v E G,Post v E G->cW.Sublist E/\(∀r∈R,aL r G)/\yI P N n all bY cW gG fS aD (kR t d v) E G):yI P N n all bY cW gG fS (⟨some d,op,ty,pos,after,g⟩::aD) t L R:=
 ⟨bM,.inr (.inr (.inr ⟨dH,aG,Post,b7,h⟩))⟩
def rQ{f:FuncId}{xs:List Operand}{qY:Array TypeId}{args:List Value}{Post:oK}(bT:xs.map (iT t)=args)(h:aM P f args.toArray L R Post)(dH:oY all t g=true)(bM:Nat.blt d n=true)
 (k:∀v E G,Post v E G->cW.Sublist E/\(∀r∈R,aL r G)/\yI P N n all bY cW gG fS aD (kR t d v) E G):yI P N n all bY cW gG fS (⟨some d,.call ⟨.value (.func f),xs.toArray,qY⟩,ty,pos,after,g⟩::aD) t L R:=
 Eb (Rk a34 rfl h) rfl dH bM k
def aGM{os:List Oper}{k:Nat}{b:Bool}(a5:t k=.bool b)(O:b=true->yI P N n all bY cW gG fS os (kR t k (.bool true)) L R)(X:b=false->yI P N n all bY cW gG fS os (kR t k (.bool false)) L R):yI P N n all bY cW gG fS os t L R:=by
 cases b with
 |true=>have:=O rfl;rwa[Jd a5]at this
 |false=>have:=X rfl;rwa[Jd a5]at this
end
def aM.at{P f args gC L R F}{Post:oK}(xG:HE gC L F)(h:aM P f args gC R Post):aM P f args L R (λv i6 G=>∃E,i6=F E/\Post v E G):=by
 obtain⟨A,B,dI,kN⟩:=xG.split;refine⟨h.1,λw Z b4=>?_⟩;subst dI;have aP:(A++gC++B).Perm ((A++B)++gC):=by rw[oB,oB];exact aCE _ Bz
 have qE:sZ ((A++B)++gC) Z R w:=⟨(aP.map _).nodup_iff.1 b4.nM,λe W=>b4.own e (aP.mem_iff.2 W),λe W=>b4.tZ e (aP.mem_iff.2 W),b4.sM,b4.o8⟩;have QI:sZ gC Z R w:=⟨(List.nodup_append.1 (by have:=qE.nM;rwa[u1]at this)).2.1,λe W=>qE.own e (lZ _ W),λe W=>qE.tZ e (lZ _ W),qE.sM,qE.o8⟩;refine(h.2 w Z QI).mono λe w' ⟨v,E,G,W,Gn,cT⟩=>⟨v,F E,G,W,⟨E,rfl,Gn⟩,?_⟩;have O:=dQ.frame qE cT;rw[kN];have zC:((A++B)++E).Perm (A++E++B):=by rw[oB,oB];exact aCE _ Bz
 have X:=O.CA zC;exact aPh
def a6M{P n code t L R}{Q:gF}{s:fJ}(aH:∀w Z,(∀r∈R,sB w Z r)->sB w Z s)(h:cQ P n code t L (s::R) Q):cQ P n code t L R Q:=by
 intro c a w aF cT;refine h c a w aF ?_;obtain⟨⟨Z,b4,b7⟩,dG,aG⟩:=cT;refine⟨⟨Z,⟨b4.nM,b4.own,b4.tZ,b4.sM,λr M=>?_⟩,b7⟩,dG,aG⟩;rcases List.mem_cons.1 M with rfl|M;·exact aH w Z b4.o8
 ·exact b4.o8 r M
inductive HI(b:Nat)(cs:List Value)(T:TypeId):List bN->(List Value->List bN)->Prop
 |lT {L}:HI b cs T (⟨b,cs,T⟩::L) (λhR=>⟨b,hR,T⟩::L)
 |cons {x L f} (h:HI b cs T L f):HI b cs T (x::L) (λhR=>x::f hR)
 |s7 {gC L f} (h:HI b cs T L f):HI b cs T (gC++L) (λhR=>gC++f hR)
def HI.split{b cs T L f}(h:HI b cs T L f):∃A B,L=A++([⟨b,cs,T⟩]++B)/\∀hR,f hR=A++([⟨b,hR,T⟩]++B):=by
 induction h with
 | @lT L=>exact⟨[],L,rfl,λ_=>rfl⟩
 | @cons x L f _ c6=>obtain⟨A,B,O,X⟩:=c6;exact⟨x::A,B,by simp[O],λhR=>by simp[X]⟩
 | @s7 gC L f _ c6=>obtain⟨A,B,O,X⟩:=c6;exact⟨gC++A,B,by simp[O],λhR=>by simp[X]⟩
def aM.a1C{P f args b cs T L F R}{Post:oK}{CM:Value->List Value->List fJ->Prop}(xG:HI b cs T L F)(h:aM P f args [⟨b,cs,T⟩] R Post)(aP:∀v E G,Post v E G->∃hR,[⟨b,hR,T⟩]=E/\CM v hR G):
 aM P f args L R (λv i6 G=>∃hR,F hR=i6/\CM v hR G):=by obtain⟨A,B,dI,kN⟩:=xG.split;subst dI;refine(aM.at (.s7 .lT) h).mono ?_;rintro v i6 G ⟨E,rfl,Gn⟩;obtain⟨hR,rfl,c4⟩:=aP v E G Gn;exact⟨hR,kN hR,c4⟩
section
variable{P:Program}{bF:Operand->Value}{L:List bN}{R:List fJ}{dst:Option Tmp}{ty:TypeId}{pos:String}{after:Array Edge}{guard:Option (Nat×Bool)}{T iZ:TypeId}{x y z:Operand}{a b c:Int}{k:IntKind}
def Qq{n:Int}(O:0<=n)(X:n<=18446744073709551615):IntKind.u64.wrap n=n:=by rw[IntKind.wrap_u64];omega
def aU9(K:bF x=.int .u64 a)(aS:bF y=.int .u64 b)(O:0<=a+b)(X:a+b<=18446744073709551615):
 cP P ⟨dst,.binOp .add T x y iZ,ty,pos,after,guard⟩ bF L R (.int .u64 (a+b)):=by have:=a4H (P:=P) (L:=L) (R:=R) (dst:=dst) (ty:=ty) (pos:=pos) (after:=after) (guard:=guard) (T:=T) (iZ:=iZ) K aS;rwa[Qq O X]at this
def aZG(K:bF x=.int .u64 a)(aS:bF y=.int .u64 b)(O:0<=a*b)(X:a*b<=18446744073709551615):
 cP P ⟨dst,.binOp .mul T x y iZ,ty,pos,after,guard⟩ bF L R (.int .u64 (a*b)):=by have:=a6m (P:=P) (L:=L) (R:=R) (dst:=dst) (ty:=ty) (pos:=pos) (after:=after) (guard:=guard) (T:=T) (iZ:=iZ) K aS;rwa[Qq O X]at this
def aUL(K:bF x=.int .u64 a)(aS:bF y=.int .u64 b)(bT:0<=a)(b9p:a<=18446744073709551615)(a5:0<b):cP P ⟨dst,.binOp .quo T x y iZ,ty,pos,after,guard⟩ bF L R (.int .u64 (a/b)):=by have:=a5u (P:=P) (L:=L) (R:=R) (dst:=dst) (ty:=ty) (pos:=pos) (after:=after) (guard:=guard) (T:=T) (iZ:=iZ) K aS D;rw[GY bT]at this;have O:0<=a/b:=Nu bT D;have X:a/b<=a:=Nt _ bT;rwa[Qq O D]at this
def aJr(K:bF x=.int .u64 a)(aS:bF y=.int .u64 b)(bT:0<=a)(a5:0<b):cP P ⟨dst,.binOp .rem T x y iZ,ty,pos,after,guard⟩ bF L R (.int .u64 (a%b)):=by have:=a4K (P:=P) (L:=L) (R:=R) (dst:=dst) (ty:=ty) (pos:=pos) (after:=after) (guard:=guard) (T:=T) (iZ:=iZ) K aS D;rwa[Int.tmod_eq_emod_of_nonneg bT]at this
def a4T(K:bF x=.int .u64 a)(aS:bF y=.int .u64 4294967295)(O:0<=a)(X:a<=18446744073709551615):
 cP P ⟨dst,.binOp .and T x y iZ,ty,pos,after,guard⟩ bF L R (.int .u64 (a%4294967296)):=λ_ _ _=>by
 obtain⟨n,rfl⟩:∃n:Nat,a=(n:Int):=⟨a.toNat,by omega⟩
 have e:(BitVec.ofInt IntKind.u64.bits ((n:Nat):Int) &&& BitVec.ofInt IntKind.u64.bits 4294967295).toNat=n%4294967296:=by
  show(BitVec.ofInt 64 ((n:Nat):Int) &&& BitVec.ofInt 64 4294967295).toNat=n%4294967296
  rw[BitVec.ofInt_natCast,a3s,BitVec.toNat_ofNat,Wm D]
  exact a3q n 32
 have fN:IntKind.u64.wrap ((n%4294967296:Nat):Int)=((n:Int)%4294967296):=by rw[Qq D D];omega
 have a5:Op.intBits .and .u64 ((n:Nat):Int) 4294967295=(pure (.int .u64 ((n:Int)%4294967296)):Sem Value):=by
  unfold Op.intBits
  dsimp only
  rw[e,fN]
 simp[execOp,K,aS,eqGuard,binOp,a5]
def Qs(K:bF x=.int .u64 a)(aS:bF y=.int k 32):cP P ⟨dst,.binOp .shr T x y iZ,ty,pos,after,guard⟩ bF L R (.int .u64 (a/4294967296)):=λ_ _ _=>by
 have e:a.fdiv (2^32)=a/4294967296:=by rw[a3u _ aW];rfl
 have Si:min (32:Int).toNat IntKind.u64.bits=32:=by decide
 have a5:Op.shift .shr .u64 a k 32=(pure (.int .u64 (a/4294967296)):Sem Value):=by
  unfold Op.shift
  rw[if_neg aW]
  dsimp only
  rw[Si,e]
 simp[execOp,K,aS,eqGuard,binOp,a5]
def aEh{qY:Array TypeId}(K:bF x=.int k a)(aS:bF y=.int k b)(eW:bF z=.int k c):cP P ⟨dst,.call ⟨.builtin .min,#[x,y,z],qY⟩,ty,pos,after,guard⟩ bF L R (.int k (min (min a b) c)):=λ_ w _=>by
 simp only[execOp,resolve,invoke,builtin,Builtin.min_,Wl,wZ,XV,K,aS,eW]
 have O:(if b<a then b else a)=min a b:=by rw[Int.min_def];split<;>split<;>omega
 have X:(if c<min a b then c else min a b)=min (min a b) c:=by rw[Int.min_def (min a b) c];split<;>split<;>omega
 simp[Builtin.min2,O,X]
def aDR{qY:Array TypeId}(K:bF x=.int k a)(aS:bF y=.int k b)(eW:bF z=.int k c):cP P ⟨dst,.call ⟨.builtin .max,#[x,y,z],qY⟩,ty,pos,after,guard⟩ bF L R (.int k (max (max a b) c)):=λ_ w _=>by
 simp only[execOp,resolve,invoke,builtin,Builtin.max_,Wl,wZ,XV,K,aS,eW]
 have O:(if b>a then b else a)=max a b:=by rw[Int.max_def];split<;>split<;>omega
 have X:(if c>max a b then c else max a b)=max (max a b) c:=by rw[Int.max_def (max a b) c];split<;>split<;>omega
 simp[Builtin.max2,O,X]
variable(N:oE P)
def b0z{g3:IntKind}{r3 fV jY iE gL eH k6 iX}(O:hW N.g1 T=some ⟨.int g3,r3,jY,gL,k6⟩)(X:hW N.g1 iZ=some ⟨.int .u64,fV,iE,eH,iX⟩)(K:bF x= .int g3 a)
 (aU:0<=a) (cK:a<=18446744073709551615):cP P ⟨dst,.convert T iZ x,ty,pos,after,guard⟩ bF L R (.int .u64 a):=by have:=a6j (P:=P) (L:=L) (R:=R) (dst:=dst) (ty:=ty) (pos:=pos) (after:=after) (guard:=guard) N O X K;rwa[Qq aU cK]at this
def aKa(P:Program)(T f:Nat):Option TypeId:=match P.underlying T with
 |some (.struct sL)=>(sL[f]?).map (·.type)
 |_=>none
def aIl{e f off n fV L7:Nat}{aA rB:List (Nat×Nat)}{g0 z nB iX fI}{cs:List Value}{v:Value}(dW:hW N.g1 T=some ⟨.struct,n,aA,g0,z⟩)(b3D:aKa P T f=some e)(c5:hW N.g1 e=some ⟨fI,fV,rB,nB,iX⟩)(aG:fI.isAgg=false)
 (K:bF x=.agg cs.toArray) (aF:aA[f]?=some (off,L7)) (cY:cs[off]?=some v):
 cP P ⟨dst,.field T x f,ty,pos,after,guard⟩ bF L R v:=λ_ w _=>by
 obtain⟨sL,dL,gA⟩:=a4w (N.ok _ _ dW) rfl
 simp only at gA
 subst gA
 rw[pA]at aF
 obtain⟨Lj,a9C,W⟩:=Option.map_eq_some_iff.1 aF
 obtain⟨O,X⟩:=Prod.mk.inj W
 have a2b:sL[f]?=some Lj:=by rw[<-Array.getElem?_toList];exact a9C
 have b5A:Lj.type=e:=by simpa[aKa,dL,a2b]using b3D
 have GA:=a5d (N.ok _ _ c5) w
 rw[show(jD.mk fI fV rB nB iX).k.isAgg=false from aG,<-b5A]at GA
 subst O
 simp[execOp,K,Instr.field,run_underlying dL,a2b,asAgg,part,GA,cY]
end
def SF(P:Program)(n:Nat)(ops:Array Oper)(cW gG:List bN)(Q:gF)(eF:List Nat)(m:Nat)(done:Array Bool)(t:Nat->Value)(L:List bN)(R:List fJ):Prop:=
 ∀c a w,I2 ops done->done.size=ops.size->(∀k∈eF,done.getD k true=false)->mS n t a->dQ c L R w->cW.Sublist L->∀hY,m+eF.length<=hY->GX P ops (FF n c Q) (dQ c cW R) (dQ c gG R) eF hY done a w
def a6G(ops:Array Oper)(gI:List Nat)(done:Array Bool)(i:Nat):Bool:=gI.contains i && ((Region.ready .any ops done).contains i && Region.free .any ops done i)
def aDQ(ops:Array Oper)(gI:List Nat)(done:Array Bool)(l:List Nat):Bool:=!l.isEmpty && ((Region.ready .any ops done==l) && l.all λj=>gI.contains j)
def a5B(ops:Array Oper)(done:Array Bool)(eF:List Nat):Bool:=K8 ops done eF && (List.range ops.size).all λi=>done.getD i true||eF.contains i
def RP{P:Program}(N:oE P)(n:Nat)(ops:Array Oper)(bY gI eF:List Nat):Bool:=Region.noSelect ops && (Dz N n ops && RH bY ops gI eF)
section
variable{P:Program}{N:oE P}{n m:Nat}{ops:Array Oper}{bY gI eF:List Nat}{cW gG:List bN}{Q:gF}{done:Array Bool}{t:Nat->Value}{L:List bN}{R:List fJ}
def aYM{i:Nat}{o:Oper}{v:Value}(dW:RP N n ops bY gI eF=true)(BX:gG.Sublist cW)(bH:a6G ops gI done i=true)(o3:ops[i]? =some o)(aG:lC o.op=0)(dH:oY ops t o.guard=true)(bM:S2 n o.dst=true)
 (cY:cP P o (iT t) (VH bY cW gG o.dst) R v) (h:SF P n ops cW gG Q eF m (done.setIfInBounds i true) (xW t o.dst v) L R):SF P n ops cW gG Q eF (m+1) done t L R:=by
 intro c a w kK nX EI kE cT pV hY GF;simp only[RP,nH]at dW;simp only[a6G,nH]at bH;obtain⟨II,_,eW⟩:=dW;obtain⟨GG,M,J3⟩:=bH;have GG:i∈gI:=by simpa using GG
 have M:i∈Region.ready .any ops done:=by simpa using M
 obtain⟨f,rfl⟩:∃f,hY=f+1:=⟨hY-1,by omega⟩;have TK:vE ops i=0:=by simp[vE,o3,aG]
 have eL:dQ c cW R w:=cT.tI pV (λr M=>⟨r,M,.lT⟩);have aMB:=aEw (bY:=bY) (cW:=cW) (gG:=gG) o3;have a9a:∀w',(if DY bY ops i=true then dQ c gG R else dQ c cW R) w'->dQ c (VH bY cW gG o.dst) R w':=by exact aP8
 have TG:execOp a.eval o=execOp (iT t) o:=by rw[kE.eval]
 refine aFm (bY:=bY) eW GG TK o3 (a3x II) (λ_ _ _ h=>h.1.elim) f done a w kK nX EI (λj lL a6 jF aX vO=>a3p o3 J3 j lL a6 jF aX vO) M
  (v:=v) (.inl ⟨by rw[kE.wanted];exact dH,λw' W4=>by rw[TG];exact cY c w' (a9a w' W4)⟩) eL (λw dH=>dH.tI BX (λr M=>⟨r,M,.lT⟩)) ?_
 refine h c _ w (kK.set M) (by simp[nX]) (λk l5=>?_) (kE.put bM v) cT pV f D;have jF:i≠k:=λe=>Ks eW l5 (e▸GG);rw[getD_set_ne true jF];exact EI k l5
def Zy(P:Program)(n:Nat)(ops:Array Oper)(cW gG:List bN)(Q:gF)(eF:List Nat)(m:Nat)(done:Array Bool)(t:Nat->Value)(L:List bN)(R:List fJ)(j:Nat):Prop:=
 ∃o,ops[j]?=some o/\oY ops t o.guard=true/\S2 n o.dst=true/\∃Post,eC P o (iT t) L R Post/\∀v E G,Post v E G->cW.Sublist E/\(∀r∈R,aL r G)/\SF P n ops cW gG Q eF m (done.setIfInBounds j true) (xW t o.dst v) E G
def Dn(P:Program)(n:Nat)(ops:Array Oper)(cW gG:List bN)(Q:gF)(eF:List Nat)(m:Nat)(done:Array Bool)(t:Nat->Value)(L:List bN)(R:List fJ):List Nat->Prop
 |[]=>True
 |j::l=>Zy P n ops cW gG Q eF m done t L R j/\Dn P n ops cW gG Q eF m done t L R l
def Dn.mem{l:List Nat}(h:Dn P n ops cW gG Q eF m done t L R l){j:Nat}(a6:j∈l):Zy P n ops cW gG Q eF m done t L R j:=by
 induction l with
 |nil=>cases a6
 |cons x l c6=>
  rcases List.mem_cons.1 a6 with rfl|a6;·exact h.1
  ·exact c6 h.2 a6
def mC(l:List Nat)(dW:RP N n ops bY gI eF=true)(BX:gG.Sublist cW)(bH:aDQ ops gI done l=true)(h:Dn P n ops cW gG Q eF m done t L R l):SF P n ops cW gG Q eF (m+1) done t L R:=by
 intro c a w kK nX EI kE cT pV hY GF;simp only[RP,nH]at dW;simp only[aDQ,nH]at bH;obtain⟨II,_,eW⟩:=dW;obtain⟨jF,rD,qS⟩:=bH;have rD:Region.ready .any ops done=l:=by simpa using rD
 obtain⟨f,rfl⟩:∃f,hY=f+1:=⟨hY-1,by omega⟩;refine Po (by rw[rD];intro e;rw[e]at jF;cases jF) λj a6=>?_;have Lu:j∈l:=by rw[<-rD];exact a6
 obtain⟨o,o3,dH,bM,Post,b7,b4j⟩:=h.mem Lu;have a9M:j∈gI:=by simpa using List.all_eq_true.1 qS j Lu
 unfold wpOp;simp only[o3];rw[kE.wanted,dH,if_pos rfl];refine .inl ?_;unfold Oper.wp;rw[kE.eval];refine b7 c w cT a _ _ ?_;intro v E G w' aP qF;obtain⟨S7,J0,qC⟩:=b4j v E G aP;refine⟨⟨(qF.tI S7 J0).tI BX (λr M=>⟨r,M,.lT⟩),.inr (qF.tI S7 J0)⟩,?_⟩;refine a4X (YN:=dQ c cW G) (Zn:=dQ c gG G) (λx K=>K.tI hA J0) (λx K=>K.tI hA J0) _ _ _ _ ?_;refine qC c _ w' (kK.set a6) (by simp[nX]) (λk l5=>?_) (kE.put bM v) qF S7 f D;have jF:j≠k:=λe=>Ks eW l5 (e▸a9M);rw[getD_set_ne true jF];exact EI k l5
def aVb(os:List Oper)(dW:RP N n ops bY gI eF=true)(BX:gG.Sublist cW)(bH:a5B ops done eF=true)(uW:eF.map (ops[·]?)=os.map some)(h:dV P N n ops gG Q os t L R):SF P n ops cW gG Q eF m done t L R:=by
 intro c a w kK nX EI kE cT pV hY GF;simp only[RP,nH]at dW;simp only[a5B,nH]at bH;obtain⟨II,hC,eW⟩:=dW;obtain⟨eI,C7⟩:=bH;refine aJZ (N:=N) II hC uW eI ⟨rfl,λi d=>?_,(λe W=>by cases W),(λe W=>by cases W),XQ,XQ⟩ nX D (λi aE bM=>?_) kE cT (BX.trans pV) h;·simp
 ·have:=List.all_eq_true.1 C7 i (List.mem_range.2 aE);rw[bM]at this;simpa using this
end
def Je{P:Program}{N:oE P}{n m:Nat}{Bc:List Oper}{bY gI eF:List Nat}{cW gG:List bN}{Q:gF}{done:Array Bool}{t:Nat->Value}{L:List bN}{R:List fJ}(dW:RP N n Bc.toArray bY gI eF=true)(BX:gG.Sublist cW)(bH:a5B Bc.toArray done eF=true)(zC:eF.all (λk=>Nat.blt k Bc.length)=true)
 (h:dV P N n Bc.toArray gG Q (MY Bc eF) t L R):SF P n Bc.toArray cW gG Q eF m done t L R:=
 aVb (MY Bc eF) dW BX bH (Qf Bc eF λi aE=>by simpa using List.all_eq_true.1 zC i aE) h
def Kn{P:Program}(N:oE P){n id:Nat}{ops:List Oper}{t:Nat->Value}{L:List bN}{R:List fJ}{Q:gF}(bY gI eF:List Nat)(cW gG:List bN)(m:Nat)(a3:P.follows .mixedOrders=true)(dW:RP N n ops.toArray bY gI eF=true)(Tw:Nat.ble (m+eF.length) ops.length=true)
 (zC:eF.all (λk=>Nat.blt k ops.length)=true) (pV:cW.Sublist L) (h:RP N n ops.toArray bY gI eF=true->SF P n ops.toArray cW gG Q eF m (Array.replicate ops.length false) t L R):cQ P n (.region id ops.toArray true) t L R Q:=by
 intro c a w aF aH;refine wp_region_any a3 (a7f (S:=dQ c cW R) (e3:=dQ c gG R) (eF:=eF) _ _ _ _ ?_);have e:ops.toArray.size=ops.length:=by simp
 have kK:=I2.zero (ops:=ops.toArray);rw[e]at kK;refine h dW c a _ kK g2 (λk aG=>?_) aF (dQ.drew aH) pV _ ?_;·have:=List.all_eq_true.1 zC k aG;simp at this;simp[this]
 ·have:=KO Tw;simpa using this
section
variable{P:Program}{N:oE P}{n m:Nat}{ops:Array Oper}{bY gI eF:List Nat}{cW gG:List bN}{Q:gF}{done:Array Bool}{t:Nat->Value}{L:List bN}{R:List fJ}{op:Op}{ty:TypeId}{pos:String}{after:Array Edge}{d:Tmp}{v:Value}{g:Option (Nat×Bool)}
def nS(i:Nat)(dW:RP N n ops bY gI eF=true)(BX:gG.Sublist cW)(bH:a6G ops gI done i=true)(o3:ops[i]? =some ⟨some d,op,ty,pos,after,g⟩)(aG:lC op=0)(dH:oY ops t g=true)(bM:Nat.blt d n=true)(aX:bY.contains d=false)
 (cY:cP P ⟨some d,op,ty,pos,after,g⟩ (iT t) cW R v) (h:SF P n ops cW gG Q eF m (done.setIfInBounds i true) (kR t d v) L R):SF P n ops cW gG Q eF (m+1) done t L R:=
 aYM dW BX bH o3 aG dH bM (by simp only[VH,aX,cond_false];exact cY) h
def qJ{j:Nat}{Post:oK}(o3:ops[j]? =some ⟨some d,op,ty,pos,after,g⟩)(b7:eC P ⟨some d,op,ty,pos,after,g⟩ (iT t) L R Post)(dH:oY ops t g=true)(bM:Nat.blt d n=true)
 (h:∀v E G,Post v E G->cW.Sublist E/\(∀r∈R,aL r G)/\SF P n ops cW gG Q eF m (done.setIfInBounds j true) (kR t d v) E G):Zy P n ops cW gG Q eF m done t L R j:=
 ⟨_,o3,dH,bM,Post,b7,h⟩
def pB{j:Nat}{l:List Nat}(h:Zy P n ops cW gG Q eF m done t L R j)(k:Dn P n ops cW gG Q eF m done t L R l):Dn P n ops cW gG Q eF m done t L R (j::l):=⟨h,k⟩
def aWK:Dn P n ops cW gG Q eF m done t L R []:=trivial
end
section
variable{P:Program}{bF:Operand->Value}{L E:List bN}{R:List fJ}{dst:Option Tmp}{ty:TypeId}{pos:String}{after:Array Edge}{guard:Option (Nat×Bool)}{T k e:TypeId}{z:Value}{x y u:Operand}
end
section
variable{b:Nat}{l TZ:List (Int×Value)}{L E:List bN}
end
section
open ChangeMaps
variable{P:Program}{bF:Operand->Value}{L E:List bN}{R:List fJ}{dst:Option Tmp}{ty:TypeId}{pos:String}{after:Array Edge}{guard:Option (Nat×Bool)}{T k e:TypeId}{z:Value}{x y u:Operand}
end
end Go.Aw
abbrev Go.Aw.aR:=List Go.Aw.bN
abbrev Go.Aw.aO:=List Go.Aw.fJ
