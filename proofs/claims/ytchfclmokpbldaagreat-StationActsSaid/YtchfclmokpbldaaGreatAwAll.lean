--By an AI agent.
import Derived.WalkKit
import Derived.Orders
import Derived.OrdersHeld
set_option linter.all false
set_option maxHeartbeats 0
namespace Go.Aw
open Go
abbrev b4:Nat->Nat->List Nat
 |_,0=>[]
 |a,n+1=>a::b4 (a+1) n
variable{p:Prop}
def a8l(h:p:=by
 apply(W)<;>intro dZ;·
  apply cO∘r8;apply cB (aC:=[_,_,_,_,_,_]) (j:=3) (a7:=15) rfl rfl aE rfl aW rfl;·exact aZS
  intro iG;apply(c9);apply cB (aC:=[_,_,_,_,_,_,_,_,_,_,_,_,_]) (j:=11) (a7:=23) rfl rfl aE rfl aW rfl;·
   intro xP;replace xP:=a8 xP;(have bEZ:0<=c.target/\c.target<s.cD.l.length:=by omega);apply fH∘tC;apply iZ (aC:=[_,_,_,_,_,_,_,_]) (j:=15) (a7:=27) rfl rfl aE rfl aW rfl;·exact bH8
   intro a7H;exact hL
  intro a2k;apply(b3);apply(W)<;>intro dX;·exact Qb
  exact aVu
 apply(oX);apply(W)<;>intro h3;·
  apply cO∘r8;apply cB (aC:=[_,_,_,_,_,_,_,_]) (j:=3) (a7:=43) rfl rfl aE rfl aW rfl;·exact bHc
  intro iG;apply(b3);apply(W)<;>intro hW;·exact Qb
  exact aVu
 exact Qb):=h
def aHI(h:p:=by
 apply(W)<;>intro b2;·
  apply N9∘lM;refine cC rfl aZd ?_;apply(oW);apply(W)<;>intro dZ;·exact Qb
  exact aHK
 apply(oX);apply(W)<;>intro dX;·
  apply N9∘lM;refine cC rfl aZd ?_;apply(MF);apply cB (aC:=[_,_,_,_,_,_,_,_]) (j:=7) (a7:=27) rfl rfl aE rfl aW rfl;·exact bHY
  intro RP;apply(b3);apply(W)<;>intro h3;·exact Qb
  exact aHK
 apply(oX);apply(W)<;>intro hW;·
  apply(N9);iterate 3 apply(eP)
  apply(N8);refine cC rfl bIc ?_;apply(oW);apply(W)<;>intro oO;·exact Qb
  exact aHK
 exact Qb):=h
def aVO(h:p:=by
 apply(W)<;>intro hW;·
  have qC:=aJj (n:=n) bQ K bF dZ (by first|exact .inl h3|exact .inr hW);apply s2∘fH∘rO;apply cB (aC:=[_,_,_,_,_]) (j:=3) (a7:=81) rfl rfl aE rfl aW rfl;·intro eN;replace eN:=a8 eN;exact(a0l) hL
  intro iG;apply(b3);apply(W)<;>intro oO;·
   apply rN∘dE;refine eI (aZ (iT (gD (iS (gD ?_)))));refine bN L R DQ ?_;refine⟨-1,0,rfl,Z2 D ?_,rfl,rfl⟩;rw[qC];cases k3 l.l n (i-1)with
   |none=>rfl
   |some z=>obtain⟨a,b⟩:=z;exact if_neg D
  apply QN∘kP∘aKu;rintro v E G ⟨m,r,rfl,i0,rfl,rfl⟩;have aDO:=i0.vK;have a1L:-1<=m/\m<=i-1:=by
   cases hq:k3 l.l n (i-1)with
   |none=>rw[i0.no hq];omega
   |some z=>obtain⟨a,b⟩:=z;have:=(i0.DO _ _ hq).1;have:=(VU _ _ _ _ hq).1;omega
  refine aG iR ?_;apply Fc∘WL;apply cB (aC:=[_,_,_,_,_]) (j:=2) (a7:=97) rfl rfl aE rfl aW rfl;·intro fD;replace fD:=a8 fD;exact(a0l) hL
  intro mY;apply(b3);apply(W)<;>intro FV;·
   apply rN∘dE;refine eI (aZ (iT (gD (iS (gD ?_)))));refine bN L R DQ ?_;refine⟨-1,0,rfl,Z2 D ?_,rfl,rfl⟩;rw[qC];cases hq:k3 l.l n (i-1)with
   |none=>rfl
   |some z=>
    obtain⟨a,b⟩:=z;obtain⟨rfl,rfl⟩:=i0.DO _ _ hq;dsimp only;split;·rw[a0m D]
    ·rfl
  have hq:k3 l.l n (i-1)=some (m,r):=by
   cases hq:k3 l.l n (i-1)with
   |none=>have:=i0.no hq;omega
   |some z=>obtain⟨a,b⟩:=z;obtain⟨rfl,rfl⟩:=i0.DO _ _ hq;rfl
  rw[hq]at qC;dsimp only at qC;rw[if_pos D]at qC;apply QN∘kP;refine cK (cM (m-1) _ D D D) ?_;rintro v E G ⟨f,q,rfl,Ma,rfl,rfl⟩;have bBq:=Ma.vK;refine aG iR ?_;apply Fc∘mL;iterate 3 apply(b1)
  refine aG B9 ?_;apply l8∘dE∘Ld;refine bN L R DQ ?_;refine⟨f,max q r+1,rfl,?_,rfl,rfl⟩;cases a1Y:k3 l.l n (m-1)with
  |none=>rw[Ma.no a1Y];exact Z2 D (by rw[qC,a1Y])
  |some z=>obtain⟨a,b⟩:=z;obtain⟨rfl,rfl⟩:=Ma.DO _ _ a1Y;exact a95 (by rw[qC,a1Y])
 exact bHu):=h
def aHJ(h:p:=by
 apply LH∘a0k∘aPI;refine gS (aZ (iT (iS (gD ?_))));refine bN L R Qo ?_;have qC:=aPo (n:=n) aO K bF b2;refine⟨f,d+1,_,rfl,⟨by omega,λh=>?_,λh=>?_⟩,rfl,rfl⟩;·
  cases b with
  |false=>first|(cases h;done)|(simp at eN;done)
  |true=>rw[qC,i0.DO rfl];dsimp only;rw[if_pos a87]
 ·
  cases b with
  |false=>rw[qC,i0.no rfl]
  |true=>first|(simp at eN;done)|(rw[qC,i0.DO rfl];dsimp only;rw[if_neg a87])):=h
def aVP(h:p:=by
 apply(W)<;>intro dX;·
  apply TC∘kP∘aOg;rintro v E G ⟨m,r,b,rfl,i0,rfl,rfl⟩;have aDO:=i0.vK;have qC:=aJj (n:=n) aO K bF b2 (by first|exact .inl dZ|exact .inr dX);refine aG iR ?_;iterate 3 apply(EJ)
  apply dE∘Lg∘c9∘MF;apply cB (aC:=[_,_,_]) (j:=2) (a7:=89) rfl rfl aE rfl aW rfl;·intro fD;replace fD:=a8 fD;exact(a5j) hL
  intro mY;apply(c9);apply cB (aC:=[_,_,_,_,_]) (j:=7) (a7:=94) rfl rfl aE rfl aW rfl;·intro hX;replace hX:=a8 hX;exact(a0l) hL
  intro RP;apply(c9);apply cB (aC:=[_,_,_,_,_]) (j:=14) (a7:=101) rfl rfl aE rfl aW rfl;·exact bG7
  intro UX;apply(b3);apply(W)<;>intro h3;·
   apply rN∘GX;refine eI (aZ (iT (gD (iS (gD ?_)))));refine bN L R Qo ?_;refine⟨0,0,false,rfl,⟨by omega,(λh=>by cases h),λ_=>?_⟩,rfl,rfl⟩;cases b with
   |false=>rw[qC,i0.no rfl]
   |true=>rw[qC,i0.DO rfl];dsimp only;rw[if_neg (by simp at h3;omega)]
  exact bHU
 exact bIa):=h
def aVQ(h:p:=by
 refine c7 [(2,.int _ _),(3,.int _ _),(4,.pointer _),(5,.pointer _),(8,.pointer _),(13,.pointer _),(14,.int _ _)] bP λnS=>?_;refine mC ([14,15]++b4 98 39) ((⟨λg=>[(14,.int .i64 ((g.1:Nat):Int))],λg=>⟨FM,[.int .i64 (oP a s r q g.1).bG,.int .i64 (oP a s r q g.1).bO],90⟩::⟨gL,[.int .i64 0,.int .i64 0],90⟩::⟨eH,s.cells,80⟩::⟨cT,a.cells,32⟩::L,λ_=>R,λg=>a.a3.l.length-g.1⟩:dV {k:Nat//k<=a.a3.l.length})) (⟨0,by omega⟩) bP bG9 fF ?_;rintro⟨k,hk⟩ bZ;try dsimp only
 apply(oJ);apply(W)<;>intro dZ;·
  have K:=bJ a.a3.l k default;have aN:=bJ s.a3.l k 0;have bJz:=aO5 (s:=s) ha M hq k D;have rT:=(ha.nD _ _ K).1;have ED:=a4c rT (s.a3.l.getD k 0) q;apply CK∘B2∘TE∘mT;apply(W)<;>intro dX;·exact bH0
  have e:oP a s r q (k+1)=_:=if_neg dX;exact(mD) aIN
 obtain rfl:k=a.a3.l.length:=by omega
 exact(Si) a9t):=h
def aHK(h:p:=by
 refine dK (gV (aZ (a6 (a6 (cR ?_)))));apply(r8);apply cB (aC:=[_,_,_]) (j:=3) (a7:=51) rfl rfl aE rfl aW rfl;·exact GF
 intro iG;apply(b3);apply(W)<;>intro FV;·apply(m1);exact Pz
 apply(aCo);apply(W)<;>intro aEK;·apply aCp∘b3w;refine cC rfl bH7 ?_;apply(z1);exact Pz
 apply(S3);exact Pz):=h
def aVR(h:p:=by
 iterate 3 apply(eP)
 apply kZ∘kP∘G3∘fH;iterate 3 apply(eP)
 apply kZ∘kP∘r7∘r1∘r9;refine c7 [(1,.int _ _),(4,.pointer _),(6,.pointer _),(60,.slice _ _ _),(61,.int _ _),(62,.int _ _)] bP λeZ=>?_;refine mC ([8,9]++b4 62 23) ((⟨λg=>[(62,.int .i64 ((g.1:Nat):Int))],λg=>⟨hP,[.int .i64 (IE p q g.1).bG,.int .i64 (IE p q g.1).bO],90⟩::⟨cT,[.int .i64 0,.int .i64 0],90⟩::⟨cS,p.cells,225⟩::L,λ_=>R,λg=>p.a3.l.length-g.1⟩:dV {k:Nat//k<=p.a3.l.length})) (⟨0,by omega⟩) bP bIf fF ?_;rintro⟨k,hk⟩ bZ;try dsimp only
 apply(h2);apply(W)<;>intro bF;·exact bH1
 obtain rfl:k=p.a3.l.length:=by omega
 exact(Si) a9t):=h
def aVS(h:p:=by
 refine⟨by rw[c1.size];simp,λk d=> ?_,λx K=>c1.op x (DC x K),λx K=> ?_, ?_, ?_⟩;·
  rw[c1.dF k d];by_cases hk:i=k;·subst hk;rw[ZP XS];simp only[true_or,iff_true];exact .inr ⟨e,X,Nr⟩
  ·
   rw[getD_set_ne d hk];refine or_congr Iff.rfl ⟨λ⟨x,K,a2e⟩=>?_,λ⟨x,K,a2e⟩=>⟨x,DC x K,a2e⟩⟩;rcases List.mem_append.1 K with h|h;·exact⟨x,sI _ h,a2e⟩
   ·
    rcases List.mem_cons.1 h with rfl|h;·exact absurd (Nr.symm.trans a2e) hk
    ·exact⟨x,mA _ h,a2e⟩
 ·rw[getD_set_ne true (Cz (aFw x K))];exact c1.tG x (DC x K)
 ·exact c1.nR.sublist (aX8 _ (a8G g3 (a8A _ _)))
 ·exact c1.a7M.sublist (aX8 _ (a8G g3 (a8A _ _)))):=h
def aVT(h:p:=by
 refine⟨by simp[c1.size],λk aRY=> ?_,λe X=> ?_,λe X=> ?_, ?_, ?_⟩;·
  by_cases hk:j=k;·subst hk;rw[ZP a66];simp
  ·rw[getD_set_ne aRY hk,c1.dF k aRY];simp[hk]
 ·
  rcases List.mem_cons.1 X with rfl|X;·exact⟨mN,M1,dN,hd,hg⟩
  ·exact c1.op e X
 ·
  rcases List.mem_cons.1 X with rfl|X;·exact a65
  ·exact c1.tG e X
 ·simp only[y3,YO];exact⟨λhm=>by obtain⟨e,X,aA⟩:=List.mem_map.1 hm;exact aE9 e X aA,c1.nR⟩
 ·simp only[y3,YO];refine⟨λhm=>?_,c1.a7M⟩;obtain⟨e,X,aA⟩:=List.mem_map.1 hm;obtain⟨Ii,N,V,aQ,b7⟩:=c1.op e X;exact aSP e.i Ii N (aE9 e X) (by rw[aQ,aA])):=h
def aVU(h:p:=by
 refine aG VJ ?_;apply aPf∘b9g;rintro v E G ⟨rfl,rfl⟩;apply(GV);have key:∀x:Bool,x=(!(A.getD k false)||(m.places.l.getD k default).r3)->∀i:Nat,(l.set k x)[i]?=if i<k+1 then(ZR m A)[i]? else A[i]?:=λx K i=>by
  rw[EU];split;·rename_i e;subst e;rw[if_pos D,if_pos D,MU,K]
  ·
   rename_i e;rw[kF i];by_cases h:i<k;·rw[if_pos h,if_pos D]
   ·rw[if_neg h,if_neg D]
 first
  |(have K:true=(!(A.getD k false)||(m.places.l.getD k default).r3):=by rw[hX];rfl);exact bHk
  |(have K:(m.places.l.getD k default).r3=(!(A.getD k false)||(m.places.l.getD k default).r3):=by rw[hX];rfl);exact bHQ):=h
def aVV(h:p:=by
 refine kI [8,11,13] mE dT bE ?_;refine o1 ?_ ?_;·
  skip
  apply(Fi);rintro v E G ⟨TV,rfl,rfl,tI⟩;replace tI:=tI.symm;subst tI;exact aWv
 refine o1 ?_ ?_;·
  skip
  apply(P4);rintro v E G ⟨yM,rfl,rfl,k4⟩;replace k4:=k4.symm;subst k4;apply(fS);exact aHO
 apply(kU);refine pO rfl R5 rfl rfl ?_;rintro v E G ⟨eH,rfl,rfl,jY⟩;replace jY:=jY.symm;subst jY;apply(fS);exact aHP):=h
def aVW(h:p:=by
 refine kI [3,8,13] mE dT bE ?_;refine o1 ?_ ?_;·
  skip
  apply(P3);rintro v E G ⟨yL,rfl,rfl,l3⟩;replace l3:=l3.symm;subst l3;apply(fS);exact aHO
 refine o1 ?_ ?_;·
  skip
  apply(Fi);rintro v E G ⟨TV,rfl,rfl,tI⟩;replace tI:=tI.symm;subst tI;exact aWw
 apply(kU);refine pO rfl R5 rfl rfl ?_;rintro v E G ⟨eH,rfl,rfl,jY⟩;replace jY:=jY.symm;subst jY;apply(fS);exact aHQ):=h
def aVX(h:p:=by
 refine kI [3,8,11] mE dT bE ?_;refine o1 ?_ ?_;·
  skip
  apply(P3);rintro v E G ⟨yL,rfl,rfl,l3⟩;replace l3:=l3.symm;subst l3;apply(fS);exact aHP
 refine o1 ?_ ?_;·
  skip
  apply(Fi);rintro v E G ⟨TV,rfl,rfl,tI⟩;replace tI:=tI.symm;subst tI;exact aWx
 apply kU∘P4;rintro v E G ⟨yM,rfl,rfl,k4⟩;replace k4:=k4.symm;subst k4;apply(fS);exact aHQ):=h
def aVY(h:p:=by
 first
  |exact dU ⟨(k+1,P,aC),by dsimp only;omega,i0.EQ dX,nW.EQ dX⟩
  |have rW:m8 a s (k:Int) a.aX.l.length=⟨(a.Y.aD.l.getD k default).aB.bG+y.bG,(a.Y.aD.l.getD k default).aB.bO+y.bO⟩:=by
    cases hc:m8 a s (k:Int) a.aX.l.length with
    |mk b6 aA=>rw[hc]at a7B RN;dsimp only at a7B RN;rw[a7B,RN]
   (have Ul:¬(a.Y.aD.l.getD k default).dM=true:=by simpa using dX);exact dU ⟨(k+1,_,_),by dsimp only;omega,i0.next Ul ⟨by rw[vY,rW],rfl,bCE.2⟩ (dW aR2 (gU MU)) bDL,nW.next Ul D D iO hp hq D bDE bDG⟩):=h
def aVZ(h:p:=by
 refine kI [5] XO dT bE ?_;apply kU∘b5H;rintro v E G ⟨JJ,rfl,Oj,rfl,rfl⟩;apply(fS);refine Dz XO dT bE rfl ?_;apply(a5k);refine gS ?_;first
  |exact Y7 ⟨(Pp,JJ),a1Q,Oj⟩ kG bP (YN _) g3 fF
  |exact Y7 ⟨(Pp,JJ),a1Q,Oj⟩ kG bP (a8U _ _ _) g3 fF):=h
def aV0(h:p:=by
 apply(a0j);exact oQ ⟨(z-1,(⟨aUE,BX.l++[z]⟩,op),e2),by dsimp only;omega,by
 dsimp only;have a7a:¬(0<=x.bB/\((aF.set z.toNat ⟨x.bB,x.cQ,x.cY,x.dM,true⟩).getD x.bB.toNat default).dM=true):=by rintro⟨N,V⟩;first|omega|exact dX V|(rw[V]at dX;cases dX)
 have eY:e2=(aF.set z.toNat ⟨x.bB,x.cQ,x.cY,x.dM,true⟩):=by
  rcases GA (0<=x.bB)with N|N;·rw[uI,if_pos N,rM,if_neg (λV=>a7a ⟨N,V⟩)]
  ·rw[uI,if_neg N]
 rw[pY,if_neg a7a,eY,VF D],aTv,n9⟩):=h
def aV1(h:p:=by
 intro done hp;simp only[N6,oS]at hp;obtain⟨hn,hd⟩:=cM _ hp.2;have M:i∈Region.ready .any ops.toArray done:=by simpa using hp.1.1
 obtain⟨bQ,_⟩:=mem_ready.1 M;refine⟨List.nodup_cons.2 ⟨λhm=>?_,hn⟩,λk hk=>?_⟩;·
  have:=hd i hm;rcases gY i done.size with cN|cN;·rw[ZP cN]at this;cases this
  ·simp[LL cN]at bQ
 ·
  rcases List.mem_cons.1 hk with rfl|hk;·exact bQ
  ·
   by_cases a1C:i=k;·subst a1C;exact bQ
   ·have:=hd k hk;rwa[getD_set_ne true a1C]at this):=h
def aV2(h:p:=by
 refine⟨?_,?_,?_⟩;·
  obtain⟨H1,bBf,hg⟩:=V.aC;refine⟨H1,bBf,λb hb=>?_⟩;rcases hg b hb with h|h|⟨e,X,An⟩;·exact .inl h
  ·exact .inr (.inl h)
  ·exact .inr (.inr ⟨e,hp.mem_iff.2 X,An⟩)
 ·
  intro e X;rcases V.own e X with⟨vM,wG,An⟩|h;·exact .inl ⟨vM,hp.mem_iff.2 wG,An⟩
  ·exact .inr h
 ·have k:=V.JI;refine⟨k.os,k.tape,k.output,k.size,λb hb hn=>k.block b hb λ⟨e,X,An⟩=>hn ⟨e,hp.mem_iff.2 X,An⟩,k.KV⟩):=h
def aV3(h:p:=by
 apply(kB);apply(W)<;>intro aO;·apply(S8);refine dC L R ?_;exact⟨by rw[uO,if_pos aO],rfl,rfl⟩
 apply Z0∘lM∘rO;apply cB (aC:=[_,_,_,_,_,_,_,_]) (j:=6) (a7:=21) rfl rfl aE rfl aW rfl;·intro kC;replace kC:=a8 kC;exact aI6
 intro JG;apply(b3);apply(W)<;>intro bF;·exact bHO
 apply(OB);apply cB (aC:=[_,_]) (j:=2) (a7:=33) rfl rfl aE rfl aW rfl;·exact GG
 intro mY;apply(b3);apply(W)<;>intro b2;·exact bHe
 exact bHf):=h
def aV4(h:p:=by
 apply(a0j);exact oQ ⟨(z-1,(⟨aHd,BX.l++[z]⟩,op),(aF.set z.toNat ⟨x.bB,x.cQ,x.cY,x.dM,true⟩)),by dsimp only;omega,by
 dsimp only;have a7a:¬(0<=x.bB/\((aF.set z.toNat ⟨x.bB,x.cQ,x.cY,x.dM,true⟩).getD x.bB.toNat default).dM=true):=by rintro⟨N,V⟩;first|omega|(rw[<-aN]at V;exact dX V)|(rw[<-aN,dX]at V;cases V)
 rw[pY,if_neg a7a,VF D],a7f,n9⟩):=h
def aV5(h:p:=by apply(mD);first|(rw[if_neg dZ,a8x]at cI;exact oT ⟨k+1,by omega⟩ kG a84 a2 fF k1)|exact oT ⟨k+1,by omega⟩ kG a84 a2 fF k1):=h
def aV6(h:p:=by
 intro eN;replace eN:=a8 eN;apply fH∘DL∘c9;apply iZ (aC:=[_,_,_,_,_]) (j:=7) (a7:=12) rfl rfl aE rfl aW rfl;·intro hX;replace hX:=a8 hX;exact(fH∘nO) GD
 intro RP;apply(c9);apply iZ (aC:=[_,_,_,_,_,_]) (j:=14) (a7:=19) rfl rfl aE rfl aW rfl;·exact bHJ
 intro UX;apply(c9);apply iZ (aC:=[_,_,_,_,_,_,_]) (j:=22) (a7:=27) rfl rfl aE rfl aW rfl;·exact bHL
 intro bKo;exact hL):=h
def aV7(h:p:=by
 apply(mD);have I8:r.dM=false->l.getD r.bK.toNat false=l.getD r.to.toNat false:=by
  intro Ul;first
   |(simpa using b2)
   |(simp[Ul]at fD)
 exact oQ ⟨(i+1,Tr,l),by dsimp only;omega,fT,mZ,NK,λh=>⟨(ES h).1,λj lH aY OW aS4=>by
  rcases gY j i with N|N;·exact(ES h).2 j lH N OW aS4
  ·(obtain rfl:j=i:=by omega);rw[M3]at OW;cases OW;rw[<-(ES h).1];exact I8 aS4⟩⟩):=h
def aV8(h:p:=by
 refine aG iR ?_;apply S1∘Lg∘WK;apply(W)<;>intro h3;·exact bHd
 obtain⟨u,Vi⟩:=Option.isSome_iff_exists.1 h3;have hv:DV a s up m i=some u:=by rw[EE];exact Vi
 have fW:=fB.aR4 (k:=i) D u;apply(x2);rw[Vi];apply eK∘c9∘c9;apply cB (aC:=[_,_,_,_,_,_]) (j:=1) (a7:=64) rfl rfl aE rfl aW rfl;·intro jM;replace jM:=a8 jM;exact(b1∘h7∘aPv∘b6I) HW
 exact bHi):=h
def a2B(h:p:=by
 (have BQ:DY s m t:= .inr (.inr (.inr (.inr D)))
  exact⟨by rw[xL,if_pos BQ];try rfl,rfl,rfl⟩)):=h
def aVu(h:p:=by
 refine dK (gV (aZ (a6 (a6 (cR ?_)))));apply(r8);apply cB (aC:=[_,_,_]) (j:=3) (a7:=56) rfl rfl aE rfl aW rfl;·exact GF
 intro iG;apply(b3);apply(W)<;>intro oO;·apply(m1);exact Pz
 apply(aCo);apply(W)<;>intro FV;·apply aCp∘b54;refine cC rfl bHa ?_;apply(z1);exact Pz
 apply(S3);exact Pz):=h
def a8j(h:p:=by
 exact oQ (⟨k+1,by omega,λj aY=>by
 rcases gY j k with h|h;·exact hD j h
 ·
  obtain rfl:j=k:=by omega
  omega⟩)):=h
def aVv(h:p:=by apply yZ∘qD∘z4;first|(exfalso;omega)|(rw[if_pos dZ,<-a8D]at cI;exact oT ⟨k+1,by omega⟩ kG a84 a2 fF k1)):=h
def a8k(h:p:=by
 exact oQ ⟨k+1,by omega,λj aY=>by
 rcases gY j k with h|h;·exact hD j h
 ·
  obtain rfl:j=k:=by omega
  omega⟩):=h
def aHF(h:p:=by
 refine hB _ _ _ w' ⟨.own g cap spare,?_,?_,?_,rfl⟩ rA;·rw[J.val];dsimp only;rw[hl];rfl
 ·rw[J.ok];dsimp only;rw[hl];exact FZ
 ·rw[h1,J.L];dsimp only;rw[<-e]):=h
def aVw(h:p:=by
 apply(fS);refine kI [3,5] mE dT bE ?_;refine o1 ?_ ?_;·
  skip
  apply(P3);rintro v E G ⟨yL,rfl,rfl,l3⟩;replace l3:=l3.symm;subst l3;exact aIs
 apply kU∘Ek;rintro v E G ⟨lH,eE,rfl,q7,u2,hK,HG,rfl,rfl⟩;refine⟨a2,gN,?_⟩;apply Em∘En;exact aHQ):=h
def aVx(h:p:=by
 apply(fS);refine kI [10] OQ dT bE ?_;apply kU∘b5D;rintro v E G ⟨aUw,rfl,aTs,rfl,rfl⟩;apply(fS);refine Dz OQ dT bE rfl ?_;apply(aO1);refine gS ?_;first
  |exact Y7 ⟨⟨aUw,_⟩,aTs,rfl⟩ kG bP (YN _) (.cons _ (.refl _)) fF
  |exact Y7 ⟨⟨aUw,_⟩,aTs,rfl⟩ kG bP (YN _) ((oR _).append (.cons _ (.refl _))) fF):=h
def aVy(h:p:=by
 apply(c9);apply cB (aC:=[_,_,_]) (j:=15) (a7:=18) rfl rfl aE rfl aW rfl;·intro w5;replace w5:=a8 w5;exact R4
 intro a7H;apply(c9);apply cB (aC:=[_,_,_]) (j:=20) (a7:=23) rfl rfl aE rfl aW rfl;·intro MW;replace MW:=a8 MW;exact a9o
 intro a2l;apply(b3);apply(W)<;>intro aO;·exact bIb
 exact bId):=h
def aVz(h:p:=by apply gE∘zU;rintro v E G ⟨aDh,rfl,rfl,T8⟩;replace T8:=T8.symm;subst T8;apply(b2g);rintro v E G ⟨bF7,rfl,a7e,rfl,rfl⟩;apply uY∘GV;first|exact dU ⟨(eE,j+1,_),hK,by dsimp only;omega,a7e,OP.next (.inl rfl)⟩|exact dU ⟨(eE,j+1,_),hK,by dsimp only;omega,a7e,OP.next (.inr bEO)⟩):=h
def aVA(h:p:=by apply gE∘zU;rintro v E G ⟨yM,rfl,rfl,k4⟩;replace k4:=k4.symm;subst k4;apply(b4g);rintro v E G ⟨JJ,rfl,Oj,rfl,rfl⟩;apply uY∘GV;first|exact dU ⟨(eU,i+1,_),e6,by dsimp only;omega,Oj,hR.next (.inl rfl)⟩|exact dU ⟨(eU,i+1,_),e6,by dsimp only;omega,Oj,hR.next (.inr UR)⟩):=h
def aVB(h:p:=by
 apply(c8);intro dG;apply QU∘IW∘Cl∘c9;apply iZ (aC:=[_,_,_,_,_]) (j:=4) (a7:=11) rfl rfl aE rfl aW rfl;·intro gW;replace gW:=a8 gW;exact(kJ) VP
 intro yU;apply(c9);apply iZ (aC:=[_,_,_,_]) (j:=11) (a7:=18) rfl rfl aE rfl aW rfl;·intro xP;replace xP:=a8 xP;exact(gE) VP
 exact bHq):=h
def aVC(h:p:=by
 apply(rO);apply cB (aC:=[_,_,_]) (j:=3) (a7:=8) rfl rfl aE rfl aW rfl;·exact Ya
 intro iG;apply(b3);apply(W)<;>intro aO;·apply(m1);refine dC L R ?_;exact⟨by rw[Km,if_pos D],rfl,rfl⟩
 have hl:FI l:=by
  have h:KN l=0:=by omega
  rw[KN]at h;exact a8m
 exact bHs):=h
def aVD(h:p:=by
 have hg:=bJ S.l z.toNat default;refine dK (aZ (a6 (e3 (a6 ?_))));refine gJ O [0,1,2,3,4,5,6,7] _ cX bE g3 ?_;refine a4 oG ?_;apply g1∘b7m∘CJ∘iI;refine a4 B7 ?_;apply(vW);apply(W)<;>intro b2;·exact bHS
 apply(a0j);exact dU ⟨(z-1,a),by dsimp only;omega,ha.bFP D b2⟩):=h
def aVE(h:p:=by
 have:=a0D (i::gQ.map (·.i)) (i::aB) (List.nodup_cons.2 ⟨λhm=>by obtain⟨e,X,aA⟩:=List.mem_map.1 hm;exact a63 e X aA,c1.nR⟩) (λx K=>by
  rcases List.mem_cons.1 K with rfl|K;·simp
  ·obtain⟨e,X,rfl⟩:=List.mem_map.1 K;exact T1 e X)
 exact NI):=h
def aVF(h:p:=by
 obtain rfl:gQ=[]:=by cases gQ with|nil=>rfl|cons e gQ=>exact absurd (T1 e fX) fX
 obtain rfl:os=[]:=by cases os with|nil=>rfl|cons x l=>simp at wH
 exact aJh LB hD bEa eB c1 pB (by simpa using JC) (by simpa using FW) kS cI (AF.trans q8) (by rw[fJ]at AL;exact AL)):=h
def aVG(h:p:=by
 apply rN∘uN;refine eI (aZ (iT (a4t ?_)));refine bN (P9 _) R VL ?_;refine⟨0,false,_,rfl,⟨(λh=>by cases h),λ_=>⟨rfl,λj N V=>?_⟩⟩,rfl,rfl⟩;by_cases aY:j=0;·rw[aY,aDD];exact aO
 ·
  first
   |(exfalso;omega)
   |exact hm.no N V (oE _) Qp):=h
def aHG(h:p:=by
 exact oQ (⟨k+1,by omega,λj aY=>by
 rcases gY j k with h|h;·exact hD j h
 ·
  obtain rfl:j=k:=by omega
  rw[AB];omega⟩)):=h
def Wk(h:p:=by
 apply(vW);apply(W)<;>intro b2;·exact bHh
 exact a8Z):=h
def aVH(h:p:=by first|exact dU ⟨(BW+1,a2z+(v1 (a.aX.l.getD BW default) (s.aX.l.getD BW 0)).bG),by dsimp only;omega,by dsimp only;rw[A4,if_pos b2,a7r,Int.add_assoc]⟩|exact dU ⟨(BW+1,a2z),by dsimp only;omega,by dsimp only;rw[A4,if_neg b2,a7r]⟩):=h
def aVI(h:p:=by first|exact dU ⟨(O1+1,X8-(o3 (a.a3.l.getD O1 default) (s.a3.l.getD O1 0) q).bG),by dsimp only;omega,by dsimp only;rw[FQ,if_pos dX,Hg,Int.sub_sub]⟩|exact dU ⟨(O1+1,X8),by dsimp only;omega,by dsimp only;rw[FQ,if_neg dX,Hg]⟩):=h
def aVJ(h:p:=by
 apply(fS);refine kI [5,13] mE dT bE ?_;refine o1 ?_ ?_;·
  skip
  apply(Ek);rintro v E G ⟨lH,eE,rfl,q7,u2,hK,HG,rfl,rfl⟩;refine⟨a2,gN,?_⟩;apply Em∘En;exact aHO
 exact bHN):=h
def aVK(h:p:=by
 apply(fS);refine kI [5,11] mE dT bE ?_;refine o1 ?_ ?_;·
  skip
  apply(Ek);rintro v E G ⟨lH,eE,rfl,q7,u2,hK,HG,rfl,rfl⟩;refine⟨a2,gN,?_⟩;apply Em∘En;exact aHP
 exact bHP):=h
def aVL(h:p:=by
 intro x K a2d;have hn:=c1.nR;rw[wP,y3,Wv,YO]at hn;rcases List.mem_append.1 K with h|h;·exact hn.2.2 x.i (List.mem_map.2 ⟨x,h,rfl⟩) e.i fX (by rw[a2d,Nr])
 ·exact hn.2.1.1 (List.mem_map.2 ⟨x,h,by rw[a2d,Nr]⟩)):=h
def aVM(h:p:=by
 have hd:TP (f.aT.l.getD (q.l.getD k 0).toNat default)=true:=by
  rw[TP,Qj];first
   |exact .inr (decide_eq_true bF)
   |exact .inl (by simpa using nY)
 exact⟨by rw[<-gB,List.any_eq_true.2 ⟨_,gU DE,hd⟩],rfl,rfl⟩):=h
def aVN(h:p:=by
 apply cO∘aCI∘q4;refine bN L R tR ?_;have c1:A5 l w t=10:=by rw[A5,if_neg (λh=>h hl),if_neg dS,if_pos];rw[L2];cases ho:w.over<;>simp[ho]at b2|- <;>omega
 exact⟨by rw[c1,aAd c1 bH];rfl,rfl,rfl⟩):=h
def aHH(h:p:=by
 refine⟨by simp,λr p hp=>?_⟩;rw[R1]at hp;split at hp;·cases hp;exact⟨J.g6,rfl⟩
 ·cases hp):=h
def aVn(h:p:=by
 apply(wA);refine bN L R (pG rfl a3p) ?_;exact⟨by
 rw[o6,if_neg];rw[Ss];rintro(h|⟨N,V,aQ⟩);·exact aO.1 h
 ·
  rcases aO.2 with(h|h)|h;·omega
  ·rw[h]at V;cases V
  ·exact h aQ,rfl,rfl⟩):=h
def Wj(h:p:=by exact⟨by rw[xL,if_pos BQ];try rfl,rfl,rfl⟩):=h
def Pz(h:p:=by refine dC L R ?_;exact bG0):=h
def aVo(h:p:=by
 intro hk;have:=a0D (gQ.map (·.i)) aB c1.nR (λx K=>by
  obtain⟨e,X,rfl⟩:=List.mem_map.1 K;rcases List.mem_cons.1 (T1 e X)with h|h;·exact absurd h (RS hk e X)
  ·exact h)
 exact NI):=h
def aVp(h:p:=by apply(WF);refine lG L R ?_;refine⟨by rw[decide_eq_true (p:=J6 f.aT.l t)];refine⟨by omega,λx K=>?_⟩;obtain⟨j,aY,rfl⟩:=Qm K;have:=hD j D;rwa[iW,ET aY]at this,rfl,rfl⟩):=h
def aVq(h:p:=by
 by_cases HI:wZ ops j=1;·exact HI
 ·have:=aCN (p:=λk=> !Nat.beq k i) c1 (λe X=>by simp[VX (a63 e X)]) pB aY HI;exact absurd (aIh (List.all_eq_true.1 RE j this)) HI):=h
def aVr(h:p:=by
 obtain rfl:gQ=[]:=by cases gQ with|nil=>rfl|cons e gQ=>exact absurd (T1 e fX) fX
 obtain rfl:os=[]:=by cases os with|nil=>rfl|cons x l=>simp at wH
 exact b4f eB c1 AL kS cI h0):=h
def aHE(h:p:=by
 rw[iW,EU,iW];split;·rename_i h;subst h;simp[hk]
 ·rename_i h;rw[if_neg (λe=>h e.symm)]):=h
def aVs(h:p:=by
 have hl:=h.len;refine⟨by simp[hl],λj aY=>?_,λj N V=>?_⟩;·exact aXi
 ·rw[JR D];exact h.YE j D V):=h
def aVt(h:p:=by
 apply fS∘b8G∘b5u;refine Dz Al dT bE rfl ?_;refine gS ?_;first
  |exact Y7 ⟨(Fy,aHc),Uz⟩ kG bP (YN _) aZp fF
  |exact Y7 ⟨(Fy,aHc),Uz⟩ kG bP a8P aZp fF):=h
def aWy(h:p:=by rw[Bm];obtain⟨⟨aC,bX,hg⟩,ho,hk⟩:=hs;refine(h.2 w aC bX).mono ?_;rintro e w' ⟨v,E,G,rfl,hp,cI⟩;exact k v E G w' hp (dL.trans ⟨⟨aC,bX,hg⟩,ho,hk⟩ hg cI)):=h
def Qa(h:p:=by
 split at this;·cases this
 ·omega):=h
def aWz(h:p:=by apply kU∘a4U;rintro v E G ⟨rfl,rfl,rfl⟩;apply(fS);refine kI [2] XO dT bE ?_;apply kU∘aPE;rintro v E G ⟨Pp,rfl,a1Q,rfl,rfl⟩;apply fS∘aM7;exact aVZ):=h
def aWA(h:p:=by subst RC;refine aN.wpOp aA AG ⟨⟨uI,dW.imp (λh=>?_) id⟩,H⟩;obtain⟨k,hk,hl⟩:=List.any_eq_true.1 h;exact List.any_eq_true.2 ⟨k,hk,getD_set_true hl⟩):=h
def aWB(h:p:=by
 refine⟨h.len,λj aY=>?_,λj N V=>h.YE j D V⟩;rcases gY j i with N|N;·exact h.TX j N
 ·
  obtain rfl:j=i:=by omega
  rw[h.YE j (g4 _) aA,K]):=h
def aWC(h:p:=by
 apply(W)<;>intro dZ;·apply a6h∘g1∘ND∘YF∘g1∘QI∘iI∘a5n∘lW∘QI∘iI∘a56∘Lf;refine k6 rfl aYw ?_;exact aVv
 exact aV5):=h
def aWD(h:p:=by
 apply(W)<;>intro dZ;·apply a6h∘g1∘ND∘YF∘g1∘QI∘iI∘a5n∘lW∘QI∘iI∘a56∘Lf;refine k6 rfl aYp ?_;exact aVv
 exact aV5):=h
def aWE(h:p:=by
 apply aU8∘b1∘S9;apply(W)<;>intro bF;·have e:=b7.trans (aKO aO bF);exact(p8) a9d
 have e:=b7.trans (aK4 aO bF);exact(p8∘kP) a9d):=h
def aWF(h:p:=by
 apply aU8∘b1∘GY;apply(W)<;>intro bF;·have e:=b7.trans (aMm aO bF);exact(p8) a9d
 have e:=b7.trans (aLA aO bF);exact(eK∘z2) a9d):=h
def a2D(h:p:=by
 split at hp;·cases hp;cases h
 ·cases hp):=h
def aWG(h:p:=by have:=kS.put (d:=mN.dst) (by rw[hd];simpa[XD]using JA) (.pointer (some ⟨w.heap.size,0,none⟩));rw[hd]at this|-;exact this):=h
def aWH(h:p:=by
 intro k hk d;rcases gY k done.size with cN|cN;·exact .inl ((c1.dF k d).2 (.inl (by simp[cN]at hk|-;exact hk)))
 ·exact .inr cN):=h
def aHO(h:p:=by
 refine kI [8,13] mE dT bE ?_;refine o1 ?_ ?_;·
  skip
  exact bHv
 exact bHo):=h
def aHP(h:p:=by
 refine kI [8,11] mE dT bE ?_;refine o1 ?_ ?_;·
  skip
  exact bHw
 exact bHp):=h
def aWI(h:p:=by first|exact dU ⟨(k+1,_),by dsimp only;omega,h1.next b2 D hp aFO⟩|exact dU ⟨(k+1,F),by dsimp only;omega,h1.EQ PN⟩):=h
def aHQ(h:p:=by
 refine kI [3,8] mE dT bE ?_;refine o1 ?_ ?_;·
  skip
  exact bHr
 exact bHt):=h
def aWJ(h:p:=by refine aNC (w':=w.setRow b _) ?_ (hB undef E R _ ⟨rfl,rfl⟩ (hs.setRow c4));simp[execOp,K,aN,Instr.storeAt,Instr.sureAddr,this]):=h
def aHR(h:p:=by refine nZ ⟨_,?_⟩;rw[J7];(repeat' split)<;>first|rfl|omega):=h
def aWK(h:p:=by
 exact oQ (⟨j+1,by omega,λm hm=>by
 rcases gY m j with h|h;·exact hD m h
 ·
  obtain rfl:m=j:=by omega
  exact hW⟩)):=h
def aWL(h:p:=by refine cI.DJ ?_;simp only[Z4,wP,y3,mQ,oF];refine aIj _ ?_;exact(a8P (l₁:=JW.map λe=>(⟨e.b,YQ O e.T,e.T⟩:a5))).symm):=h
def aWM(h:p:=by have:=a0y (aF:=f.aT.l) (cG:=f.aU.l) (bT:=f.cA) (s:=f.aU.l.getD z.toNat 0) (x:=y) (by rw[<-gB];exact aN);omega):=h
def aWN(h:p:=by refine nZ ⟨_,?_⟩;rw[J7];(repeat' split)<;>first|rfl|omega|(rw[aTn,if_pos D];done)|(rw[aTn,if_neg D];done)):=h
def It(h:p:=by refine dC L R ?_;exact bG1):=h
def aWO(h:p:=by intro hk e X aA;obtain⟨Ii,N,V,_,_⟩:=c1.op e X;rw[aA]at N;obtain rfl:Ii=o':=y2 (N.symm.trans pC);exact hk (aNH V)):=h
def aWP(h:p:=by have:=aMs (s:=a1.aK) (v:=o5 a1 ({p with time:=t}:b0)) (c:=p.aS) p.aS.length;rw[rV,AD,if_neg aIx];omega):=h
def a8q(h:p:=by rw[List.mem_singleton.1 h];dsimp only;omega):=h
def aWg(h:p:=by
 rcases(c1.dF i true).1 hl with h|⟨e,X,aA⟩;·rw[h]at a1B;cases a1B
 ·exact absurd aA (RS hk e X)):=h
def aWh(h:p:=by
 apply(W)<;>intro b2;·apply(p8);refine aG (aLr rfl rfl (b2S D)) ?_;exact(dE∘ZZ) b2z
 exact(a0j) b7q):=h
def aHN(h:p:=by unfold IntKind.wrap;simp[IntKind.bits,IntKind.signed];omega):=h
def aWi(h:p:=by apply(FC);refine lG L R ?_;exact⟨by rw[decide_eq_false (λh=>by have:=h.2 _ (gU hg);omega)],rfl,rfl⟩):=h
def aWj(h:p:=by
 rcases(c1.dF i true).1 hl with h|⟨e,X,aA⟩;·rw[h]at a1B;cases a1B
 ·exact absurd aA (a63 e X)):=h
def aWk(h:p:=by
 intro w' Bs;rw[aTc];split at Bs;·rename_i h;rw[if_pos h];exact Bs
 ·rename_i h;rw[if_neg h];exact Bs):=h
def NI(h:p:=by simpa using this):=h
def aWl(h:p:=by
 rcases List.mem_append.1 aN with aN|aN;·exact aS0.1 y (by rw[<-He];exact aN)
 ·exact a6S y aN):=h
def aWm(h:p:=by
 intro x K;rcases List.mem_cons.1 (T1 x (DC x K))with h|h;·exact absurd h (aFw x K)
 ·exact h):=h
def aWn(h:p:=by obtain⟨tM,bGl,bGm,op,bGh,bGi⟩:=mN;simp only at dN;subst dN;simp[execOp,Instr.alloc,zO,newVar,newRow]):=h
def NJ(h:p:=by dsimp only;omega):=h
def Is(h:p:=by rw[hk]at V;cases V):=h
def aWo(h:p:=by rw[kS.eval];exact b6H (ops:=ops) (λcs b=>a8K LB i o' cs b pC) (λe X=>(apart hk e X).1)):=h
def aWp(h:p:=by
 apply(W)<;>intro aO;·exact bHZ
 apply(oX);apply(W)<;>intro bF;·exact bHT
 exact bHb):=h
def a8n(h:p:=by apply(v9);refine lG L R ?_;exact bGY):=h
def aWq(h:p:=by exact⟨u,by rw[dY],by rw[dY];exact c4,xV,rfl,λr M=>((nF r M).mono HE).mono jR⟩):=h
def aWr(h:p:=by
 apply(W)<;>intro oO;·exact bHX
 apply eR∘QJ∘pI;refine bN L R tR ?_;exact b19):=h
def a8o(h:p:=by simp[execOp,resolve,invoke,builtin]):=h
def a8p(h:p:=by exact dU ⟨fM+1,KH g0 D bHz⟩):=h
def a2C(h:p:=by rename_i N;exact absurd h N):=h
def aWs(h:p:=by
 exact λr M=>by
  rcases List.mem_append.1 M with h|h;·exact aM h
  ·exact Nh r h):=h
def aWt(h:p:=by
 rcases List.mem_cons.1 (T1 e X)with h|h;·exact absurd h (RS hk e X)
 ·exact h):=h
def aWu(h:p:=by exact⟨.nil,by rw[X];rfl,J.g6,by rw[X];rfl,by rw[lT];rfl,λr M=>aM M⟩):=h
def aWv(h:p:=by
 apply(fS);refine kI [11,13] mE dT bE ?_;refine o1 ?_ ?_;·
  skip
  exact bHE
 exact bHy):=h
def aWw(h:p:=by
 apply(fS);refine kI [3,13] mE dT bE ?_;refine o1 ?_ ?_;·
  skip
  exact bHK
 exact bHB):=h
def aWx(h:p:=by
 apply(fS);refine kI [3,11] mE dT bE ?_;refine o1 ?_ ?_;·
  skip
  exact bHM
 exact bHC):=h
def aV9(h:p:=by apply(OA);refine lG L R ?_;exact⟨by rw[CA,decide_eq_false D];rfl,rfl,rfl⟩):=h
def aWa(h:p:=by apply(GZ);refine dC L R ?_;exact⟨by rw[E3,b5X λj aY=>hD j D],rfl,rfl⟩):=h
def aWb(h:p:=by
 split at aQ;·exact⟨by omega,by omega,b7,by omega,by omega,by omega⟩
 ·omega):=h
def aWc(h:p:=by exact⟨⟨a,t,kY⟩,by rw[X],λ_=>by rw[Se,XP,if_neg D],rfl,rfl⟩):=h
def a8m(h:p:=by
 split at h;·assumption
 ·omega):=h
def aWd(h:p:=by apply(xE);refine dC L R ?_;exact⟨by rw[b1V M k D b2.1 b2.2],rfl,rfl⟩):=h
def aWe(h:p:=by apply(m1);refine dC L R ?_;exact⟨by rw[v5,if_neg D,if_pos D],rfl,rfl⟩):=h
def aHL(h:p:=by rw[if_neg D]at dS;rw[if_pos D,if_pos D]):=h
def aHM(h:p:=by show(w.heap.push _)[b]?=_;rw[bGZ,if_neg D]):=h
def aWf(h:p:=by
 intro e X;rcases List.mem_cons.1 X with rfl|X;·exact a67
 ·exact T1 e X):=h
def aXp(h:p:=by exact dU ⟨(k+1,l.set P.rC.toNat _),by dsimp only;omega,fT.next i0 D Ho⟩):=h
def aXq(h:p:=by apply(m1);refine dC L R ?_;exact⟨by rw[N4,if_neg D,if_pos D],rfl,rfl⟩):=h
def Qb(h:p:=by apply(A8);exact Pz):=h
def aXr(h:p:=by apply(m1);refine dC L R ?_;exact⟨by rw[CR,if_neg D,if_pos D],rfl,rfl⟩):=h
def aXs(h:p:=by apply(m1);refine dC L R ?_;exact⟨by rw[oI,if_neg D,if_pos D],rfl,rfl⟩):=h
def aXt(h:p:=by refine dC L R ?_;exact⟨by rw[IZ,if_neg D,if_neg D,if_pos b2],rfl,rfl⟩):=h
def aXu(h:p:=by apply(m1);refine dC L R ?_;exact⟨by rw[hO,if_neg D,if_pos D],rfl,rfl⟩):=h
def aHS(h:p:=by split<;>first|omega|(dsimp only;omega)):=h
def aXv(h:p:=by refine dC L R ?_;exact⟨by rw[IZ,if_neg D,if_neg D,if_neg D],rfl,rfl⟩):=h
def aXw(h:p:=by refine dC L R ?_;exact⟨by rw[xG,if_neg D,if_neg D,if_pos b2],rfl,rfl⟩):=h
def aXx(h:p:=by
 rw[r6]at C5;split at C5;·omega
 ·rename_i KX;exact Decidable.not_not.1 KX):=h
def a8r(h:p:=by exact .pT (q:=r) (a5O X bH) bH):=h
def aXy(h:p:=by rw[aTy];show qA x.aK pE.l x.aS.l t=_;rw[fZ.qA K.aK,X1,i1]):=h
def aXz(h:p:=by rw[aTG];show AD x.aK pE.l x.aS.l t=_;rw[fZ.AD K.aK,X1,i1]):=h
def aXA(h:p:=by refine dC L R ?_;exact⟨by rw[xG,if_neg D,if_neg D,if_neg D],rfl,rfl⟩):=h
def aXB(h:p:=by rw[Et,PJ,ZK cI DC];rw[HU (List.getElem?_eq_some_iff.1 aY).1];exact aY):=h
def aXC(h:p:=by
 rcases List.mem_append.1 K with h|h;·exact sI _ h
 ·exact mA _ (PL _ h)):=h
def aXD(h:p:=by apply(m1);refine dC L R ?_;exact⟨by rw[sF,if_pos D],rfl,rfl⟩):=h
def aXE(h:p:=by apply(m1);refine dC L R ?_;exact⟨by rw[X,TO,if_pos PO],rfl,rfl⟩):=h
def aXF(h:p:=by
 intro c w hs a next Q k
 rw[h c w hs];exact k v L R w ⟨rfl,rfl,rfl⟩ hs):=h
def aXG(h:p:=by apply(FB);refine bN L R mR ?_;exact⟨by rw[rL,if_neg D],rfl,rfl⟩):=h
def aXH(h:p:=by intro i aA _;have:=List.all_eq_true.1 b7 i (List.mem_range.2 aA);exact NI):=h
def aHT(h:p:=by
 split;·exact .inr rfl
 ·exact .inl rfl):=h
def aXI(h:p:=by apply(m1);refine dC L R ?_;exact⟨by rw[i6,if_pos D],rfl,rfl⟩):=h
def aXJ(h:p:=by refine bN L R mR ?_;exact⟨by rw[v1,if_neg D,if_pos D],rfl,rfl⟩):=h
def aXK(h:p:=by refine bN L R mR ?_;exact⟨by rw[v1,if_neg D,if_neg D],rfl,rfl⟩):=h
def aWZ(h:p:=by apply(S8);refine dC L R ?_;exact⟨by rw[v5,if_pos aO],rfl,rfl⟩):=h
def aW0(h:p:=by apply(m1);refine dC L R ?_;exact⟨by rw[Ew,if_pos aO],rfl,rfl⟩):=h
def aW1(h:p:=by
 intro a7G;apply(b3);apply(W)<;>intro b2;·exact bHR
 exact bH9):=h
def aW2(h:p:=by
 iterate 4 apply(kQ)
 apply(mU);iterate 3 apply(kQ)
 exact(mU) aIV):=h
def aW3(h:p:=by rw[a5l,List.flatMap_map,HV (by rw[L9 (aR:=1) (λ_=>rfl)];simp)];rfl):=h
def aW4(h:p:=by
 iterate 4 apply(kQ)
 apply(mU);iterate 3 apply(kQ)
 exact(mU) aIX):=h
def aW5(h:p:=by apply(m1);refine dC L R ?_;exact⟨by rw[H8,if_pos EY],rfl,rfl⟩):=h
def aW6(h:p:=by apply(S8);refine dC L R ?_;exact⟨by rw[CR,if_pos aO],rfl,rfl⟩):=h
def aW7(h:p:=by apply(S8);refine dC L R ?_;exact⟨by rw[oI,if_pos aO],rfl,rfl⟩):=h
def aW8(h:p:=by apply(m1);refine dC L R ?_;exact⟨by rw[N4,if_pos D],rfl,rfl⟩):=h
def aW9(h:p:=by apply(S8);refine dC L R ?_;exact⟨by rw[hO,if_pos aO],rfl,rfl⟩):=h
def aXa(h:p:=by apply(S8);refine dC L R ?_;exact⟨by rw[M,if_pos h3],rfl,rfl⟩):=h
def aXb(h:p:=by apply(m1);refine dC L R ?_;exact⟨by rw[v0,if_neg EY],rfl,rfl⟩):=h
def aXc(h:p:=by refine dC L R ?_;exact⟨by rw[IZ,if_neg D,if_pos bF],rfl,rfl⟩):=h
def aXd(h:p:=by apply(m1);refine dC L R ?_;exact⟨by rw[FH,if_pos D],rfl,rfl⟩):=h
def aXe(h:p:=by refine dC L R ?_;exact⟨by rw[xG,if_neg D,if_pos bF],rfl,rfl⟩):=h
def aXf(h:p:=by refine bN L R mR ?_;exact⟨by simp[CF,a9.val,aO],rfl,rfl⟩):=h
def aXg(h:p:=by apply(n6);exact dU ⟨eE+1,KH EC D (DD.trans (if_neg D))⟩):=h
def aXh(h:p:=by apply(m1);refine dC L R ?_;exact⟨by simp[q0];omega,rfl,rfl⟩):=h
def aXi(h:p:=by
 rw[EU];split;·rename_i e;rw[if_pos D,K,e]
 ·exact h.TX j D):=h
def aXj(h:p:=by obtain⟨x,_,K⟩:=PI X;unfold MJ at K;split at K<;>cases K):=h
def aXk(h:p:=by obtain⟨j,aY,rfl⟩:=Qm K;have:=hD j D;rwa[iW,ET aY]at this):=h
def aXl(h:p:=by exact⟨by have:=h.time;have:=wT hl;dsimp only;omega,hs.aB.2⟩):=h
def aXm(h:p:=by refine bN L R tR ?_;exact⟨by rw[c1,yI,if_pos dZ],rfl,rfl⟩):=h
def aXn(h:p:=by exact dU ⟨fM+1,CO g0 hf ((if_neg dZ).trans (if_neg dX))⟩):=h
def aXo(h:p:=by
 iterate 3 apply(kQ)
 apply(mU);iterate 3 apply(kQ)
 exact aIK):=h
def aWQ(h:p:=by
 iterate 3 apply(kQ)
 apply(mU);iterate 5 apply(kQ)
 exact aHJ):=h
def aWR(h:p:=by exact dU ⟨eE+1,CO EC hp (show Ks p=none from if_neg D)⟩):=h
def Wl(h:p:=by rw[h];exact .head _):=h
def aWS(h:p:=by refine bN L R VK ?_;exact⟨by rw[a4v X dZ,X],rfl,rfl⟩):=h
def aWT(h:p:=by exact go undef (.inr ⟨by rw[Vl e6];exact cV,rfl⟩) AM):=h
def aWU(h:p:=by apply i3∘uN∘AU;refine bN L R aID ?_;exact absurd aO D):=h
def aWV(h:p:=by refine bN L R mR ?_;exact⟨by rw[v1,if_pos D],rfl,rfl⟩):=h
def aWW(h:p:=by refine bN L R VK ?_;exact⟨by rw[a4P X dX,X],rfl,rfl⟩):=h
def aWX(h:p:=by refine bN L R mR ?_;exact⟨by simp[yJ,aO,Sd],rfl,rfl⟩):=h
def aWY(h:p:=by refine nZ ⟨_,?_⟩;(repeat' split)<;>first|rfl|omega):=h
def aXL(h:p:=by rw[<-a9A (λe X=>(apart hk e X).2)];exact kS.put hd v):=h
def aXM(h:p:=by
 obtain rfl:k=a.Y.aD.l.length:=by omega
 exact(WH) a2U):=h
def aXN(h:p:=by exact dU ⟨(i+1,m),by dsimp only;omega,fB.skip Q9,kF⟩):=h
def aXO(h:p:=by exact⟨by simp,λi d=>by simp,by simp,by simp,Qh,Qh⟩):=h
def aXP(h:p:=by refine dC L R ?_;exact⟨by rw[IZ,if_pos aO],rfl,rfl⟩):=h
def aXQ(h:p:=by
 apply(oW);apply(W)<;>intro b2;·exact bHm
 exact bHn):=h
def aXR(h:p:=by refine dC L R ?_;exact⟨by rw[xG,if_pos aO],rfl,rfl⟩):=h
def aXS(h:p:=by refine bN L R mR ?_;exact⟨by simp[yJ,aO],rfl,rfl⟩):=h
def aXT(h:p:=by rw[aQ];have:=aOr (t:=t) c1.a7M;rw[this]at kS;exact kS):=h
def aXU(h:p:=by have:=hf.own e X;rw[hb,ho]at this;exact hn.g5 (y2 this)):=h
def a8s(h:p:=by split<;>split<;>omega):=h
def aXV(h:p:=by have h:=Decidable.not_not.1 dZ;rw[aCG]at h;rw[h];rfl):=h
def aXW(h:p:=by exact dU ⟨fM+1,KH g0 D (FX.trans (if_neg D))⟩):=h
def aXX(h:p:=by exact dU ⟨fM+1,KH g0 D (DD.trans (if_neg D))⟩):=h
def aXY(h:p:=by exact k e fE CH t' iM yD hq AN (h.step bX hd hl uK)):=h
def aXZ(h:p:=by exact dU ⟨eU+1,KH kE D (X.trans (if_neg D))⟩):=h
def aX0(h:p:=by have:=cI.alloc qJ.cells T;rw[aT9]at this;exact this):=h
def aX1(h:p:=by refine lG (Ad gL eH dG n o ps u L x) R ?_;exact VN):=h
def aX2(h:p:=by apply yF∘jS∘z1;refine bN L R B8 ?_;exact b4n):=h
def aHU(h:p:=by
 split at h;·cases h
 ·omega):=h
def a8t(h:p:=by rwa[aCX N V]at this):=h
def aX3(h:p:=by apply(c8);intro gK;apply(dA);intro cS;exact bH6):=h
def aX4(h:p:=by exact dU ⟨fM+1,KH g0 D (aAR K D D bG3)⟩):=h
def aX5(h:p:=by intro hX;replace hX:=a8 hX;exact(fH∘Fa) hL):=h
def iW:=@List.getD_eq_getElem?_getD
def gU:=@List.mem_of_getElem?
def iD:=@List.length_append
def mA:=@List.mem_append_right
def gY:=@Nat.lt_or_ge
def g4:=@Nat.le_refl
def pN:=@List.length_singleton
def mQ:=@List.append_assoc
def oR:=@List.Sublist.refl
def sI:=@List.mem_append_left
def sJ:=@List.getElem?_eq_none
def tQ:=@List.getElem?_set_self
def m0:=@List.nil_append
def oF:=@List.cons_append
def pF:=@List.getElem?_map
def oS:=@Bool.and_eq_true
def p6:=@List.length_set
def sK:=@List.length_cons
def ET:=@List.getElem?_eq_getElem
def vY:=@Int.toNat_natCast
def PI:=@List.exists_of_findSome?_eq_some
def HU:=@List.getElem?_append_left
def wO:=@Result.andThen_ok
def JQ:=@Int.tdiv_eq_ediv_of_nonneg
def uQ:=@List.length_map
def oE:=@Int.le_refl
def wP:=@List.map_append
def HV:=@List.take_of_length_le
def EU:=@List.getElem?_set
def x7:=@List.not_mem_nil
def NM:=@List.getElem?_append_right
def NN:=@List.findSome?_eq_none_iff
def y2:=@Option.some.inj
def LL:=@Array.getElem?_eq_none
def vC:=@List.mem_cons
def JR:=@List.getElem?_set_ne
def R1:=@List.getElem?_replicate
def y3:=@List.map_cons
def EV:=@List.length_nil
def LM:=@Nat.le_of_ble_eq_true
def EW:=@List.flatMap_cons
def y4:=@Int.mul_nonneg
def LN:=@List.getElem?_range
def PL:=@List.mem_cons_of_mem
def F9:=@List.length_drop
def EX:=@List.append_nil
def YL:=@List.sublist_append_right
def y5:=@Sem.run_bind
def y6:=@List.set_set
def VF:=@Int.toNat_of_nonneg
def VG:=@List.length_replicate
def Ql:=@List.eq_nil_of_length_eq_zero
def PM:=@List.take_add_one
def LO:=@List.range_succ
def YM:=@List.perm_append_comm
def AY:=@Nat.zero_le
def JS:=@Int.mul_le_mul
def GA:=@Classical.em
def R2:=@List.ext_getElem?
def YN:=@List.Perm.refl
def GB:=@Nat.le_trans
def Je:=@List.getElem?_singleton
def YO:=@List.nodup_cons
def Da:=@List.getElem?_append
def Qm:=@List.getElem_of_mem
def JT:=@Int.lt_or_le
def a8U:=@List.perm_append_comm_assoc
def a2O:=@Array.getElem?_setIfInBounds_ne
def Jf:=@List.mem_of_mem_drop
def a2Q:=@Int.mul_le_mul_of_nonneg_right
def Cw:=@List.getElem?_take
def a2I:=@Int.mul_le_mul_of_nonneg_left
def NL:=@Sem.run_pure
def PJ:=@Nat.zero_add
def VD:=@List.mem_range
def Qc:=@List.mem_of_mem_take
def Cx:=@List.length_take
def PK:=@Nat.succ_mul
def a8A:=@List.sublist_cons_self
def Iy:=@List.foldl_append
def VE:=@Int.mul_assoc
def a8C:=@Nat.and_two_pow_sub_one_eq_mod
def a8D:=@Int.sub_eq_add_neg
def Qg:=@List.mem_cons_self
def Wt:=@List.replicate_succ'
def a2J:=@Option.bind_eq_some_iff
def Qh:=@List.nodup_nil
def Wv:=@List.nodup_append
def Qi:=@Option.some.injEq
def Ja:=@List.mem_append
def Jb:=@Bool.eq_iff_iff
def Jc:=@Option.map_some
def Qj:=@Bool.or_eq_true
def a8G:=@List.Sublist.append
def a8H:=@Int.fdiv_eq_ediv_of_nonneg
def Qk:=@List.take_length
def Ww:=@Nat.lt_or_eq_of_le
def Wx:=@List.ne_nil_of_mem
def Jd:=@List.drop_zero
def a8K:=@Region.noSelect_spec
def a2L:=@Nat.mul_le_mul_right
def a8L:=@List.find?_range_eq_some
def Wy:=@Nat.le_of_lt_succ
def Cy:=@List.map_nil
def a8M:=@Nat.le_mul_of_pos_right
def a8O:=@List.getElem?_cons_zero
def a8P:=@List.perm_middle
def Wz:=@List.length_tail
def Xa:=@Option.bind_some
def Xb:=@Int.ediv_le_self
def a8Q:=@List.drop_eq_nil_of_le
def a2M:=@Nat.lt_of_lt_of_le
def Xc:=@Int.ediv_nonneg
def aIh:=@Nat.eq_of_beq_eq_true
def aIi:=@Array.getD_eq_getD_getElem?
def aIj:=@List.Perm.append_left
def a2N:=@Bool.not_eq_true'
def aIk:=@Int.tmod_eq_emod_of_nonneg
def a8V:=@Int.ediv_emod_unique
def aIl:=@List.mem_or_eq_of_mem_set
def a2P:=@List.map_toArray
def a2R:=@Nat.mod_eq_of_lt
def a8v:=@Nat.mul_le_mul_left
def a8w:=@List.replicate_succ
def a8x:=@Int.add_zero
def aHZ:=@List.sublist_append_left
def a8y:=@Nat.eq_zero_or_pos
def a8z:=@Int.tmod_lt_of_pos
def aX7:=@Int.ediv_nonpos_of_nonpos_of_neg
def aH0:=@World.frozen?_of_block
def Qd:=@Nat.add_mul
def a8B:=@Decidable.not_not
def Qe:=@Int.mul_neg
def Qf:=@Int.neg_mul
def Iz:=@Nat.beq_eq
def Ws:=@Nat.sub_self
def Wu:=@Bool.or_true
def aH1:=@Array.getElem?_append
def a8E:=@Region.free_spec
def aX8:=@List.Sublist.map
def a8F:=@BitVec.toNat_and
def aX9:=@List.take_append_of_le_length
def aYa:=@List.drop_append_of_le_length
def aH2:=@List.mem_of_mem_tail
def a2K:=@Nat.add_assoc
def aH3:=@List.flatMap_append
def a8I:=@Int.tmod_nonneg
def aH4:=@List.findSome?_cons
def bGZ:=@Array.getElem?_push
def aH5:=@Array.length_toList
def a8J:=@List.cons.injEq
def aH6:=@Option.toList_some
def aH7:=@List.findSome?_map
def aH8:=@List.mem_singleton
def aH9:=@List.set_cons_succ
def aIa:=@List.set_cons_zero
def a8N:=@List.drop_drop
def aIb:=@Int.emod_eq_of_lt
def aIc:=@List.flatten_cons
def aId:=@List.length_range
def aIe:=@List.size_toArray
def Cz:=@Ne.symm
def aIf:=@List.getElem_mem
def aIg:=@Option.getD_some
def a8R:=@Nat.succ_pos
def a8S:=@Int.mul_zero
def a8T:=@Nat.mul_comm
def lQ(h:p:=by exact λs hs=>by cases hs):=h
def bI(h:p:=by exact λ_=>rfl):=h
def g3{aV:Type}{l:List aV}:l.Sublist l:=oR l
def dT{aV:Type}{l:List aV}:[].Sublist l:=List.nil_sublist l
def bGY(h:p:=by exact⟨by refine congrArg Value.bool ?_;rw[Jb];simp,rfl,rfl⟩):=h
def bG0(h:p:=by exact⟨by refine congrArg (Value.int .i64) ?_;rw[H9,Y8];(repeat' split)<;>omega,rfl,rfl⟩):=h
def bG1(h:p:=by exact⟨by refine congrArg (Value.int .i64) ?_;rw[Jz];(repeat' split)<;>omega,rfl,rfl⟩):=h
def a9h(h:p:=by refine Dz mE dT bE rfl ?_;apply(sE);refine gS ?_;exact Y7 (⟨yL,TV,yM,eH⟩,⟨(lH,eE),⟨q7,u2⟩,hK,HG⟩) kG bP bG2 g3 fF):=h
def Xf(h:p:=by apply(q4);refine bN L R VK ?_;(have X:tD s c.l Z.l r p t=19:=by rw[tD,if_neg aO,if_neg D,if_pos bHl]);exact⟨by rw[a4P X D,X],rfl,rfl⟩):=h
def GF(h:p:=by intro eN;replace eN:=a8 eN;exact(Lc) hL):=h
def GG(h:p:=by intro fD;replace fD:=a8 fD;exact(a5g) hL):=h
def b0r(h:p:=by apply(fS);refine kI [10] I7 dT bE ?_;apply kU∘b5y;rintro v E G ⟨bF4,rfl,bDK,rfl,rfl⟩;apply fS∘b5r∘b6S;refine Dz I7 dT bE rfl ?_;apply a5k∘z4;exact dU ⟨(aUe,j+1,⟨aUv,_⟩,⟨bF4,_⟩),bCX,⟨by dsimp only;omega,by dsimp only;omega⟩,⟨aTr,bDK⟩,dW.next a64 nW hq i1 Nt⟩):=h
def aIK(h:p:=by apply LH∘a0k∘aPI;refine gS (aZ (iT (iS (gD ?_))));refine bN L R Qo ?_;(have qC:k3 l.l (n+1) i=if x.left=0/\x.right=0/\0<=x.cond/\x.cond<64 then some (i,1)else none:=by rw[k3,if_neg aO,<-K,if_pos bF]);exact b9J):=h
def aIM(h:p:=by apply hM∘oC∘b5T;rintro v E G ⟨bAn,rfl,rfl,Nc⟩;(replace Nc:=Nc.symm;subst Nc);apply(b4L);rintro v E G ⟨aHi,rfl,aFM,rfl,rfl⟩;apply(TB);exact dU ⟨(k+1,(⟨aHi,_⟩:J a9)),by dsimp only;omega,aFM,by dsimp only;rw[LO,wP,mZ];simp only[y3,Cy,Ho];try rfl⟩):=h
def b0x(h:p:=by apply(fS);refine kI [7] OR dT bE ?_;apply kU∘b59;rintro v E G ⟨aHj,rfl,a1T,rfl,rfl⟩;apply fS∘b44∘b3n;refine Dz OR dT bE rfl ?_;apply(z4);exact dU ⟨(k+1,(⟨Pq,_⟩:J Int),(⟨aHj,_⟩:J fR)),M2,⟨Hk,a1T⟩,Hq.symm,aTI.symm⟩):=h
def a9o(h:p:=by exact(Lc) hL):=h
def a3q(h:p:=by rintro v E G ⟨y,S,rfl,aN,jZ,rfl,rfl⟩;apply(aOK);refine bN L (S++R) nL ?_;exact⟨y,S,by rw[pU],by rw[pU];exact aN,jZ,rfl,rfl⟩):=h
def b0E(h:p:=by apply(fS);refine kI [10] I6 dT bE ?_;apply kU∘b8s;rintro v E G ⟨aG6,rfl,a7c,rfl,rfl⟩;apply fS∘b75∘b62;refine Dz I6 dT bE rfl ?_;apply(a5k);refine gS ?_;exact nZ ⟨(a7R,aG6),a1N,a7c⟩):=h
def a3r(h:p:=by rintro v E G ⟨y,rfl,aN,jZ,rfl,nF⟩;apply(aOK);refine bN L _ nL ?_;exact⟨y,by rw[pU],by rw[pU];exact aN,jZ,rfl,nF⟩):=h
def bHW(h:p:=by apply k7∘b2I;rintro v E G ⟨rfl,rfl⟩;refine aG iQ ?_;apply k7∘b6W;rintro v E G ⟨rfl,rfl⟩;apply lP∘a4Q∘pI;refine bN (q.L 3 aL++((⟨p.o,(((p.l.set s.toNat ⟨x.bB,x.cQ,x.cY,true,x.bV⟩).set s.toNat ⟨x.bB,t,x.cY,true,x.bV⟩).set s.toNat ⟨x.bB,t,0,true,x.bV⟩).set s.toNat ⟨x.bB,t,0,true,false⟩⟩:J bL).L 76 bL.cells++L)) R tR ?_;(have X:BK f.aT.l f.aU.l f.cA s t=0:=by rw[BK,if_neg D,aGJ,if_neg D]);exact b4y):=h
def bHY(h:p:=by intro hX;replace hX:=a8 hX;(have xS:=iL (l:=s.cD.l) (k:=c.target.toNat) default (by(try simp at hX);omega));apply(kJ);(have bEZ:0<=c.target/\c.target<s.cD.l.length:=by(try simp at hX);omega);exact(b7X∘Sh) hL):=h
def b0N(h:p:=by exact⟨by rw[a4P X D,X],rfl,rfl⟩):=h
def VN(h:p:=by exact⟨rfl,rfl,rfl⟩):=h
def bH6(h:p:=by apply lP∘fH∘b6g;rintro v E G ⟨a7S,rfl,bDR,rfl,rfl⟩;apply QT∘fH∘b11;rintro v E G ⟨aUH,rfl,bDZ,rfl,rfl⟩;apply QT∘Rn∘wA;refine bN ((⟨aUH,f.aU.l⟩:J Int).L 3 aL++((⟨a7S,f.aT.l⟩:J bL).L 76 bL.cells++L)) R (pG rfl VM) ?_;exact⟨⟨a7S,f.aT.l⟩,⟨aUH,f.aU.l⟩,rfl,⟨bDR,bDZ⟩,rfl,rfl,rfl,rfl⟩):=h
def bH8(h:p:=by intro w5;replace w5:=a8 w5;have xS:=bJ s.cD.l c.target.toNat default;exact(kJ∘b7F∘Sh) hL):=h
def b01(h:p:=by refine lC (lB (lA (aZ (cR ?_))));apply(ZU);exact dU ⟨(z-1,(BX,op),aF),by dsimp only;omega,by dsimp only;rw[pY,if_neg bHj],UH,n9⟩):=h
def YT(h:p:=by intro gW;replace gW:=a8 gW;exact(S7) hL):=h
def b09(h:p:=by refine eO VJ ?_;apply aLO∘EM∘x1∘b9K;rintro v E G ⟨rfl,rfl⟩;apply(fS);refine gS (aZ (a6 (cR ?_)));apply TR∘pI;refine bN (q.L 3 aL++((⟨p.o,(p.l.set s.toNat ⟨x.bB,x.cQ,t,x.dM,x.bV⟩).set s.toNat ⟨x.bB,x.cQ,t,x.dM,lt⟩⟩:J bL).L 76 bL.cells++L)) R tR ?_;exact b5m):=h
def b1d(h:p:=by(obtain rfl:j=x.aK.bU.aX.l.length:=by omega);(refine hG 3 aL 1 iH [] MU ?_);refine fU ?_;(refine hG 3 aL 1 lO [] C8 ?_);refine fU ?_;apply(Si);refine bN L (cZ lO.U::cZ iH.U::R) mR ?_;exact⟨iH.U,lO.U,rfl,fW,K4,rfl,rfl⟩):=h
def aYd(h:p:=by apply hM∘oC∘b8B;rintro v E G ⟨bAk,rfl,rfl,Mv⟩;(replace Mv:=Mv.symm;subst Mv);apply(b6U);rintro v E G ⟨aHa,rfl,aFK,rfl,rfl⟩;apply(TB);exact dU ⟨(k+1,(⟨aHa,_⟩:J a9)),by dsimp only;omega,aFK,by dsimp only;rw[LO,wP,mZ];simp only[y3,Cy,I9];try rfl⟩):=h
def R4(h:p:=by exact(aOG) hL):=h
def aYm(h:p:=by(obtain rfl:k=c.l.length:=by omega);apply S5∘hM∘yG∘q3;refine bN (q.L 3 aL++((⟨yC,cs⟩:J b8).L 71 b8.cells++L)) R HX ?_;exact⟨(⟨yC,cs⟩:J b8),q,by rw[X,J.val,J.val,vR];try rfl,⟨AK,gG⟩,by rw[qA,if_neg D];exact pA.done,by rw[AD,if_neg D];exact gB,rfl,rfl⟩):=h
def aYs(h:p:=by(obtain rfl:z= -1:=by omega);(have aEz:oL f.aT.l f.cA t=⟨aF,BX.l,op.l⟩:=by rw[oL,<-dN];congr 1;omega);apply oD∘TR∘Fb∘i3∘yG∘q3;refine bN (op.L 3 aL++(BX.L 3 aL++(q.L 3 aL++((⟨p.o,aF⟩:J bL).L 76 bL.cells++L)))) R aIA ?_;exact b6T):=h
def Jg(h:p:=by intro fD;replace fD:=a8 fD;exact(a0i) hL):=h
def Jh(h:p:=by intro eN;replace eN:=a8 eN;exact(a5j) hL):=h
def a8Z(h:p:=by apply(mD);exact dU (⟨k+1,by omega⟩)):=h
def HW(h:p:=by exact(U8) hL):=h
def bHc(h:p:=by intro eN;replace eN:=a8 eN;apply(fH);(iterate 3 apply(eP));exact(N8∘DL) hL):=h
def bHd(h:p:=by(have hv:DV a s up m i=none:=by rw[EE];simpa using h3);(have HL:i5 a s A up ps.l=(2,[]):=by rw[Ov,fT,aNL (fB.fail Q9 hv _ D)]);apply TD∘dE;refine eI (aZ (iT (gD (iS (gD (wS (iS (gD (iS (gD (wS (iS (gD ?_)))))))))))));refine bN L R B8 ?_;exact aPz):=h
def a83(h:p:=by rw[<-mQ,<-mQ];exact List.Perm.append_right _ YM):=h
def bHh(h:p:=by apply(FC);refine lG L R ?_;exact absurd b2 b0k):=h
def PP(h:p:=by exact(DL) hL):=h
def GD(h:p:=by exact(JN) hL):=h
def aZe(h:p:=by apply yF∘WI;refine dC L R ?_;(have e:KM s=CR s.dD.l.length s.bU.Y.aD.l.length z:=by rw[KM,A6 (f:=a9O s) kE eC (a4C hW)];rfl);exact⟨by rw[oI,if_neg D,if_neg D,if_neg D,if_neg D,if_pos (by rw[e];exact hW),e],rfl,rfl⟩):=h
def aZl(h:p:=by exact dU ⟨(eU+1,⟨r0.U,x4.U,iA.cA⟩,uT r0.U::cZ x4.U::r5),by dsimp only;omega,⟨by show r0.l=_;rw[Vd,vP];rfl,Ou.trans HH,kS⟩,⟨aM (.head _),aM (.tail _ (.head _))⟩,λr M=>(Gw r M).mono λr M=>aM (.tail _ (.tail _ M))⟩):=h
def LP(h:p:=by exact(Ck) hL):=h
def LQ(h:p:=by exact(Cj) hL):=h
def aZB(h:p:=by apply yF∘WI;refine dC L R ?_;(have e:SH s=H9 s.cD.l s.bU.Y.aD.l.length c:=by rw[SH,A6 (f:=a9R s) g0 hc (a4C dX)];rfl);exact⟨by rw[oI,if_neg D,if_neg D,if_neg D,if_pos (by rw[e];exact dX),e],rfl,rfl⟩):=h
def aIv(h:p:=by refine bN L R Dd ?_;(have X:v3 S.l f.lI t=6:=by rw[v3,if_neg Lx,XP,if_neg Uf,if_neg D,if_pos D]);exact Zx):=h
def aZG(h:p:=by apply(aNc);rintro v E G ⟨a7P,rfl,aFy,rfl,rfl⟩;apply b1∘b6s∘hM∘i3∘S4;refine bN ((⟨a7P,l.l⟩:J Int).L 5 m3++(cU.L 118 lE.cells++L)) S (J0 rfl Df LS) ?_;exact b69):=h
def aZL(h:p:=by apply(aNc);rintro v E G ⟨aUt,rfl,bDz,rfl,rfl⟩;apply QT∘oC∘hM∘i3∘S4;refine bN ((⟨aUt,l.l⟩:J Int).L 5 m3++(cU.L 118 lE.cells++L)) S (J0 rfl Df LS) ?_;exact b2N):=h
def a3f(h:p:=by intro fD;replace fD:=a8 fD;exact(b1∘Fa) hL):=h
def aZS(h:p:=by intro eN;replace eN:=a8 eN;exact(fH∘aOH) hL):=h
def a9d(h:p:=by apply(dE);refine eI (gV ?_);exact bGv):=h
def aZ0(h:p:=by apply cO∘aCI∘tZ;refine bN L R tR ?_;(have hl:¬FI l:=λh=>by rw[aCl.2 h]at aO;omega);(have c1:A5 l w t=1:=by rw[A5,if_pos hl]);exact⟨by rw[c1,aAd c1 bH,KN,if_neg hl];rfl,rfl,rfl⟩):=h
def bHA(h:p:=by(iterate 3 apply(EJ));apply dE∘GX∘lP;(iterate 3 apply(b1));refine aG B9 ?_;apply l8∘c9∘dE∘GX∘NF;refine bN L R Qo ?_;exact b9M):=h
def aZ7(h:p:=by apply cO∘Yw∘b1∘i3∘ME;refine bN L R aIA ?_;(have X:IX f.aT.l f.aU.l f.cA t=i6 f.aT.l f.aU.l f.cA:=by rw[IX,if_pos aO]);exact aNk):=h
def bHD(h:p:=by apply sE∘vW∘b7H∘QV∘NE∘l1∘IM∘aHs∘TA∘kT∘Ik∘z4;exact oT ⟨k+1,by omega⟩ kG bP b0M fF k1):=h
def bHI(h:p:=by refine cC rfl bG4 ?_;apply(dA);intro h8;apply rP∘kJ∘kP∘r7;refine eI (aZ (cR ?_));apply kJ∘kP∘r7∘wB;exact dU ⟨k+1,by omega⟩):=h
def b0f(h:p:=by apply cO∘aCI∘q4;refine bN L R tR ?_;(have c1:A5 l w t=8:=by rw[A5,if_neg (λh=>h hl),if_pos (by(try simp at bF);omega)]);exact⟨by rw[c1,aAd c1 bH];rfl,rfl,rfl⟩):=h
def Xg(h:p:=by exact⟨0,by rw[X],λh=>by omega,rfl,mB _⟩):=h
def b0m(h:p:=by(have xU:sX a s A=(0,z.2,y.2):=by rw[sX];dsimp only;rw[<-K,if_neg aO,<-UT,if_neg bF,<-X6,if_neg b2]);exact⟨u,q,by rw[xU];rfl,aTW,gG,by rw[xU];exact Vh,by rw[xU];exact gB,rfl,rfl⟩):=h
def a9j(h:p:=by apply dE∘wB;exact oT ⟨k+1,by omega⟩ kG bHx a2 fF k1):=h
def b0s(h:p:=by rw[Hl];exact{Ug with D5:=by show(List.set _ _ _).length=_;rw[p6];exact Ug.D5,aB:=by show _/\(_\/(_/\_<((List.set _ _ _).length:Int)));rw[p6];exact Ug.aB}):=h
def b0u(h:p:=by apply QN∘a9M∘aC4∘dE;refine eI (aZ (cR ?_));apply OC∘dE;refine eI (gV ?_);exact dU ⟨(w,step*2,w),by dsimp only;omega,a1x,by dsimp only;omega⟩):=h
def aIN(h:p:=by exact oT ⟨k+1,by omega⟩ kG bP b0M fF k1):=h
def b0y(h:p:=by apply(eR);(iterate 3 apply(b1));refine aG bHg ?_;apply(pI);refine bN L R VK ?_;exact⟨by rw[u0,if_pos D,X,show sF s c.l Z.l k t=0 by omega],rfl,rfl⟩):=h
def PQ(h:p:=by exact(F6) hL):=h
def b0C(h:p:=by apply(tZ);refine bN L R VK ?_;(have X:tD s c.l Z.l r p t=uO s c.l.length Z.l.length t:=by rw[tD,if_pos aO]);exact⟨by rw[a4P X aO,X],rfl,rfl⟩):=h
def b0F(h:p:=by apply(tZ);refine bN L R VK ?_;(have X:p9 s c.l Z.l r p k t=uO s c.l.length Z.l.length t:=by rw[p9,if_pos aO]);exact⟨by rw[a4v X aO,X],rfl,rfl⟩):=h
def a9r(h:p:=by intro kC;replace kC:=a8 kC;exact(nO∘aOI) hL):=h
def b0J(h:p:=by apply cO∘Yw∘i3∘ME;refine bN L R aIA ?_;(have X:IX f.aT.l f.aU.l f.cA t=8:=by rw[IX,if_neg aO,if_neg PO]);exact aNk):=h
def b0L(h:p:=by refine lC (lB (tT (lA ?_)));exact VV ⟨(C2,T0,_),by dsimp only;omega,I9,a6U,λh=>by first|(exfalso;have cN:T0<tY up start:=h;omega)|simpa using b2⟩ aZh bP a2 fF):=h
def b0O(h:p:=by apply(cO);refine aG Ra ?_;apply(tZ);refine bN L R tR ?_;exact⟨.nil,.nil,0,rfl,⟨J.g6,J.g6⟩,λh=>absurd h aO,by rw[lT,lT];rfl,rfl⟩):=h
def b0R(h:p:=by(obtain rfl:k=f.aT.l.length:=by omega);apply(WH);refine dC L R ?_;exact⟨by rw[Ew,if_neg aO,QY,Li,HV (g4 _)],rfl,rfl⟩):=h
def VP(h:p:=by exact(Cl) hL):=h
def b0X(h:p:=by exact dU ⟨(k+1,cs.set k ⟨iE.off,-1,iE.jJ⟩,q),by dsimp only;omega,MQ _ bG8,gG,by dsimp only;rw[Hj,if_neg (λh=>by have:=h.2;simp[this]at hW)];exact gB⟩):=h
def b02(h:p:=by exact aI.turn V λv iM G ⟨E,e,⟨p,j5,kK,lV,q5⟩,AC⟩=>⟨_,G,by rw[<-e,<-q5,EX];exact YM,λr M=>aM M,p,j5,kK,lV,rfl,AC⟩):=h
def b06(h:p:=by apply cO∘aPk∘q4;refine bN L R tR ?_;(have X:BK f.aT.l f.aU.l f.cA s t=10:=by rw[BK,if_neg D,aGJ,if_pos D]);exact aMR):=h
def b1a(h:p:=by apply(q4);refine bN L R VK ?_;(have X:p9 s c.l Z.l r p k t=19:=by rw[p9,if_neg aO,if_neg bF,if_pos D]);exact⟨by rw[a4v X D,X],rfl,rfl⟩):=h
def aI5(h:p:=by apply LH∘b9j∘z4;exact dU ⟨(i+1,_),by dsimp only;omega,hv⟩):=h
def a8X(h:p:=by apply(OA);refine lG L R ?_;exact absurd HJ D):=h
def aYh(h:p:=by exact dU ⟨(k+1,cs.set k ⟨iE.off,t,iE.jJ⟩,q),by dsimp only;omega,MQ _ (by rw[WY,if_pos dX,if_pos h3]),gG,by dsimp only;rw[Hj,if_neg D];exact gB⟩):=h
def aIo(h:p:=by apply(xE);refine dC L (sQ n.mO::rI n.kW::(S++R)) ?_;exact b5M):=h
def aYt(h:p:=by rintro v E G ⟨rfl,rfl,rfl⟩;refine⟨a2,gN,?_⟩;apply(p7);refine gS (aZ (iT ?_));refine bN L R mR ?_;exact⟨by rw[rL,if_pos D],rfl,rfl⟩):=h
def bG7(h:p:=by intro qT;replace qT:=a8 qT;(have FU:b=true:=by cases b with|true=>rfl|false=>simp at qT);have a1L:=(VU _ _ _ _ (i0.DO FU)).1;exact(a0l) hL):=h
def aYD(h:p:=by apply cO∘b8t∘FB;refine bN L R (pG rfl a3p) ?_;exact⟨by rw[o6,if_pos (by rw[Ss];simpa[and_assoc]using aO)],rfl,rfl⟩):=h
def Ji(h:p:=by exact(aOI) hL):=h
def aYK(h:p:=by(have ha:tA a s A=(0,GR a s (ZG a s A) A):=by rw[tA,if_neg aO,if_neg C9,if_pos b2]);exact⟨p,by rw[ha];rfl,iB,by rw[ha,eB];exact b2e aQ b7,rfl,rfl⟩):=h
def aYP(h:p:=by apply(q4);refine bN L R VK ?_;(have X:p9 s c.l Z.l r p k t=10:=by rw[p9,if_neg aO,if_pos bF]);exact⟨by rw[a4v X D,X],rfl,rfl⟩):=h
def aYU(h:p:=by apply eK∘eP∘a3Y∘r7;refine eI (gV (aZ (a6 (cR ?_))));apply QJ∘pI;refine bN L R tR ?_;exact b1t):=h
def aYX(h:p:=by rintro v E G ⟨p,S,rfl,iB,eB,rfl,rfl⟩;apply Fe∘q3;refine bN (p.L 3 aL++L) (S++R) B8 ?_;exact⟨p,S,rfl,iB,eB,rfl,rfl⟩):=h
def aY1(h:p:=by rintro v E G ⟨r,rfl,M,rfl,rfl⟩;apply DL∘v9;refine lG L R ?_;exact⟨congrArg Value.bool (decide_eq_decide.2 M),rfl,rfl⟩):=h
def bHi(h:p:=by intro aUc;apply(uN);refine eI (aZ (cR ?_));apply h7∘b1∘aPv∘b8j;rintro v E G ⟨rfl,rfl⟩;exact(GV) b6q):=h
def aZa(h:p:=by have Va:=n9 start;have Hd:=MX start;apply TC∘aCt∘aC8∘GX∘AU;refine bN L R VL ?_;exact b3i):=h
def aZf(h:p:=by rintro v E G ⟨p,rfl,iB,eB,rfl,rfl⟩;apply Fe∘q3;refine bN (p.L 3 aL++L) R B8 ?_;exact⟨p,rfl,iB,eB,rfl,rfl⟩):=h
def aZm(h:p:=by apply eR∘oC∘i3∘v9;refine bN L R aID ?_;exact⟨by rw[L6,if_neg D,decide_eq_true D],rfl,rfl⟩):=h
def aZs(h:p:=by replace u4:=a8 u4;(iterate 10 apply(kQ));apply LH∘m2;refine wR rfl ?_;apply(xE);refine dC L R ?_;exact aCE):=h
def aZx(h:p:=by(obtain rfl:k=l.l.length:=by omega);apply(WH);refine dC L R ?_;exact⟨by rw[HV (g4 _)],rfl,rfl⟩):=h
def aZC(h:p:=by exact dU ⟨(k+1,⟨aUx,iH.l++[E3 x.aK.cD.l x.c5.l x.time 5 (k:Int) 3]⟩),by dsimp only;omega,aTt,by dsimp only;rw[b8T,fW]⟩):=h
def a3e(h:p:=by exact⟨by rw[J9,h];rfl,rfl,rfl⟩):=h
def aZH(h:p:=by refine lC (lB (lA (aZ (cR ?_))));apply(ZU);exact dU ⟨(z-1,(BX,op),aF),by dsimp only;omega,by dsimp only;rw[pY,if_neg bG6],UH,n9⟩):=h
def aZM(h:p:=by apply(m1);refine dC [eT c x k] R ?_;exact⟨0,k,rfl,by omega,λ_=>by omega,λ_=>rfl,hk,λ_=>⟨rfl,rfl⟩,rfl,rfl⟩):=h
def bHs(h:p:=by rw[FI]at hl;apply eR∘kJ∘l8∘q3;refine dC L R ?_;exact⟨by rw[Km,if_neg D],rfl,rfl⟩):=h
def aZT(h:p:=by apply(pI);refine bN L R VK ?_;exact⟨by rw[vL,if_pos D,X,show sF s c.l Z.l r.dI t=0 by omega],rfl,rfl⟩):=h
def aZW(h:p:=by intro nY;replace nY:=a8 nY;have BT:=bJ s.mF.l p.toNat 0;apply(gE);refine aG aIC ?_;exact(Sh) hL):=h
def aZ1(h:p:=by rintro v E G ⟨z,ok,aHX,rfl,h1,rfl,rfl⟩;apply Fc∘v9;refine bN L R VL ?_;exact⟨z,ok,rfl,h1,rfl,rfl⟩):=h
def aZ4(h:p:=by apply i3∘uN∘AU;refine bN L R aID ?_;exact⟨by rw[L6,if_pos D,decide_eq_false D],rfl,rfl⟩):=h
def aZ8(h:p:=by exact dU ⟨(k+1,cs,q),by dsimp only;omega,a6O (by rw[WY,if_pos dX,if_neg h3]),gG,by dsimp only;rw[Hj,if_neg D];exact gB⟩):=h
def b0b(h:p:=by apply cO∘El∘q4;refine bN L R Dd ?_;(have X:v3 S.l f.lI t=8:=by rw[v3,if_pos D]);exact Zx):=h
def bHJ(h:p:=by intro qT;replace qT:=a8 qT;have rR:=bJ c.l r.dI.toNat default;exact(BB∘aJx∘sW) hL):=h
def bHL(h:p:=by intro aSQ;replace aSQ:=a8 aSQ;have rR:=bJ c.l r.dI.toNat default;exact(BB∘aJx∘Sh) hL):=h
def b0i(h:p:=by apply yF∘dE∘Pt;refine dC L R ?_;exact⟨by rw[aKG aO D (A6 g0 hf (if_pos dZ))],rfl,rfl⟩):=h
def b0n(h:p:=by apply TD∘AU;refine bN L R vD ?_;exact⟨.nil,rfl,J.g6,by rw[xC,if_pos D],by rw[lT];rfl,rfl⟩):=h
def bHQ(h:p:=by exact dU ⟨(k+1,l.set k (m.places.l.getD k default).r3),by dsimp only;omega,by simp;exact pK,J.oZ BI hk fX,key _ K⟩):=h
def bHR(h:p:=by apply N9∘dE∘Pt;refine dC L R ?_;exact⟨by rw[E3,vP];dsimp only;rw[if_pos D],rfl,rfl⟩):=h
def b0v(h:p:=by(rw[b4e x.aK.bU (s:=⟨iH,lO⟩) (s':=Ib (ZS x.aK x.c5.l x.time)) (by show(iH.l,lO.l)=_;rw[fW,K4];rfl)]);exact a9x _ _):=h
def bHT(h:p:=by refine dK ?_;exact nZ ⟨decide (a.kind=1),by rw[decide_eq_true bF];exact(decide_eq_true (p:=G8 a.p) (.inr (.inl bF))).symm⟩):=h
def b0z(h:p:=by obtain⟨y,aN,rfl⟩:=List.mem_map.1 K;obtain⟨p,hp,rfl⟩:=List.mem_map.1 aN;exact(uI p hp).mono λr h=>aM (by simp[h])):=h
def b0B(h:p:=by rw[if_pos bF,a8x]at cI;refine lC (lB (lA (aZ (cR ?_))));apply(N7);exact oT ⟨k+1,by omega⟩ kG a84 a2 fF k1):=h
def b0D(h:p:=by(have iO:bG≠w:=λe=>by rw[e,MY]at w7;cases w7);exact VV ⟨(bG,step,w),yT,w7,by dsimp only;omega,MY⟩ aZh bP a2 fF):=h
def b0G(h:p:=by refine eI (aZ (lC (lB (lA ?_))));exact oT ⟨(oK l 1 1,w1+1,cU,hA (oK l 1 1)::S),dW.skip D (.inl w6)⟩ kG bP a2 fF a9l):=h
def b0H(h:p:=by apply(xE);refine dC L R ?_;exact⟨by rw[aKG aO D (A6 g0 hf ((if_neg dZ).trans (if_pos dX)))],rfl,rfl⟩):=h
def bHX(h:p:=by apply eK∘eP∘a3Y∘G3∘QJ∘pI;refine bN L R tR ?_;exact b7u):=h
def bHZ(h:p:=by refine dK ?_;exact nZ ⟨decide (a.kind=0),by rw[decide_eq_true aO];exact(decide_eq_true (p:=G8 a.p) (.inl aO)).symm⟩):=h
def b0P(h:p:=by have mX:=KO g0 D;apply(GZ);refine dC L R ?_;exact⟨by rw[N4,if_neg D,if_neg D,mX];rfl,rfl,rfl⟩):=h
def b0S(h:p:=by refine eI (aZ (lC (lB (lA ?_))));exact oT ⟨(oK l 1 1,w1+1,cU,hA (oK l 1 1)::S),dW.skip D aSC⟩ kG bP a2 fF a9l):=h
def b0V(h:p:=by refine bN L R Dd ?_;(have X:v3 S.l f.lI t=5:=by rw[v3,if_neg Lx,XP,if_neg Uf,if_pos D]);exact Zx):=h
def bH9(h:p:=by apply eR∘WI;refine dC L R ?_;exact⟨by rw[E3,vP];dsimp only;rw[if_neg D],rfl,rfl⟩):=h
def bIa(h:p:=by refine dK (gV (aZ (a6 (cR ?_))));apply dE∘dE∘v9;refine bN L R Qo ?_;exact b7T):=h
def bIb(h:p:=by apply(m1);refine dC L R ?_;exact⟨by(try simp at aO);rw[KN,if_neg (by rw[FI];omega)],rfl,rfl⟩):=h
def bId(h:p:=by apply(S3);refine dC L R ?_;exact⟨by(try simp at aO);rw[KN,if_pos (by rw[FI];omega)],rfl,rfl⟩):=h
def b1e(h:p:=by exact dU ⟨(k+1,vT.set m.lX.toNat m),by dsimp only;omega,by dsimp only;rw[Uw,J8,if_pos At,<-Uu,M0]⟩):=h
def aYe(h:p:=by apply(m1);refine dC L R ?_;exact⟨by rw[X,TO,if_neg (by rw[a1M];decide),if_pos D],rfl,rfl⟩):=h
def aYi(h:p:=by apply(xE);refine dC L R ?_;exact⟨by rw[Rj D g0 D (FX.trans (by rw[if_pos D]))],rfl,rfl⟩):=h
def aYn(h:p:=by apply(OA);refine lG L R ?_;exact⟨by rw[decide_eq_false (λh=>by have:=h.1;omega)],rfl,rfl⟩):=h
def aYu(h:p:=by dsimp only at N V aQ b7 aO;apply(WH);refine dC L R ?_;exact⟨by rw[b7,aL4 aO],rfl,rfl⟩):=h
def aYz(h:p:=by dsimp only at N V aQ b7 aO;apply(WH);refine dC L R ?_;exact⟨by rw[b7,aMJ aO],rfl,rfl⟩):=h
def aYE(h:p:=by have mX:=KO g0 D;apply(GZ);refine dC L R ?_;exact⟨by rw[FH,if_neg D,mX];rfl,rfl,rfl⟩):=h
def aYH(h:p:=by(iterate 16 apply(kQ));apply(m2);refine wR rfl ?_;apply(xE);refine dC L R ?_;exact aOY):=h
def bHb(h:p:=by apply eK∘Ck∘uN∘zT;exact nZ ⟨decide (a.kind=2),b1H (a:=a.p) aO bF⟩):=h
def aYQ(h:p:=by exact V.mono λv iM G ⟨E,e,⟨j5,kK⟩,lV⟩=>⟨j5,by rw[<-kK,EX]at e;exact e,lV⟩):=h
def bHe(h:p:=by apply(m1);refine dC L R ?_;exact⟨by rw[uO,if_neg D,if_neg D,if_pos D],rfl,rfl⟩):=h
def bHf(h:p:=by apply(S3);refine dC L R ?_;exact⟨by rw[uO,if_neg D,if_neg D,if_neg D],rfl,rfl⟩):=h
def aY2(h:p:=by apply(IU);refine dC L R ?_;exact⟨by rw[Rj D g0 D (FX.trans (if_pos D))],rfl,rfl⟩):=h
def aY6(h:p:=by apply(xE);refine dC L R ?_;exact⟨by rw[a0e bQ (zC g0 D (b8n K D D Qp))],rfl,rfl⟩):=h
def aZb(h:p:=by apply(GZ);refine dC L R ?_;exact⟨by rw[X,b7W a1M D (λm hm=>hD m D)],rfl,rfl⟩):=h
def bHk(h:p:=by exact dU ⟨(k+1,l.set k true),by dsimp only;omega,by simp;exact pK,J.oZ BI hk fX,key true K⟩):=h
def aZn(h:p:=by exact oT ⟨k+1,by omega⟩ kG (by dsimp only;rw[Nq,if_pos D];exact⟨rfl,rfl,trivial⟩) a2 fF k1):=h
def aZt(h:p:=by exact oT ⟨k+1,by omega⟩ kG (by dsimp only;rw[Nq,if_neg D];exact⟨rfl,rfl,trivial⟩) a2 fF k1):=h
def bHm(h:p:=by apply(m1);refine dC L R ?_;exact⟨by rw[v5,if_neg D,if_neg D,if_neg PN],rfl,rfl⟩):=h
def bHn(h:p:=by apply(S3);refine dC L R ?_;exact⟨by rw[v5,if_neg D,if_neg D,if_pos PN],rfl,rfl⟩):=h
def aZE(h:p:=by apply(S8);refine dC L R ?_;exact⟨by rw[oI,if_neg D,if_neg D,if_pos b2],rfl,rfl⟩):=h
def aZI(h:p:=by apply(IU);refine dC L R ?_;exact⟨by rw[a0e bQ (zC g0 D (b2u K D D))],rfl,rfl⟩):=h
def bHq(h:p:=by intro a2k;apply(v9);refine lG L R ?_;exact⟨by simp[SG,Bool.and_assoc],rfl,rfl⟩):=h
def aZQ(h:p:=by refine dK (gV (aZ (a6 (cR ?_))));apply QJ∘pI;refine bN L R tR ?_;exact b6m):=h
def bHu(h:p:=by refine dK (gV (aZ (a6 (cR ?_))));apply dE∘q3;refine bN L R DQ ?_;exact b3z):=h
def aZX(h:p:=by have mX:=KO g0 D;apply(GZ);refine dC L R ?_;exact⟨by rw[AK,mX];rfl,rfl,rfl⟩):=h
def aZ2(h:p:=by apply(IU);refine dC L R ?_;exact⟨by rw[Zs bQ mX (zC kE D (aMi D))],rfl,rfl⟩):=h
def aZ5(h:p:=by rw[pF]at K;obtain⟨p,hp,rfl⟩:=Option.map_eq_some_iff.1 K;exact(nW.ok v p hp).2):=h
def aZ9(h:p:=by have mX:=KO g0 D;apply(GZ);refine dC L R ?_;exact⟨by rw[J9,mX];rfl,rfl,rfl⟩):=h
def b0c(h:p:=by apply(GZ);refine dC L R ?_;exact⟨by rw[b1R D D (λj aY=>hD j D)],rfl,rfl⟩):=h
def b0d(h:p:=by apply(IU);refine dC L R ?_;exact⟨by rw[a0e bQ (zC g0 D (b61 K D))],rfl,rfl⟩):=h
def b0g(h:p:=by have s1:=BC kE D;apply(GZ);refine dC L R ?_;exact⟨by rw[M,s1];rfl,rfl,rfl⟩):=h
def b0j(h:p:=by apply(xE);refine dC L R ?_;exact⟨by rw[M,A6 kE hd (if_pos oO)];rfl,rfl,rfl⟩):=h
def bHO(h:p:=by apply(m1);refine dC L R ?_;exact⟨by rw[uO,if_neg D,if_pos D],rfl,rfl⟩):=h
def b0o(h:p:=by apply(GZ);refine dC L R ?_;exact⟨by rw[b8J M (λj aY=>hD j D)],rfl,rfl⟩):=h
def bHS(h:p:=by apply p8∘dE∘ZZ;exact dU ⟨(z-1,z),by dsimp only;omega,.bCT D b2⟩):=h
def a9k(h:p:=by refine kI [8] mE dT bE ?_;apply kU∘Fi;rintro v E G ⟨TV,rfl,rfl,tI⟩;(replace tI:=tI.symm;subst tI);exact(fS∘a5b) a9h):=h
def aIO(h:p:=by apply fS∘a5b;refine kI [13] mE dT bE ?_;apply(kU);refine pO rfl R5 rfl rfl ?_;rintro v E G ⟨eH,rfl,rfl,jY⟩;(replace jY:=jY.symm;subst jY);exact(fS) a9h):=h
def aIR(h:p:=by apply(fS);refine kI [11] mE dT bE ?_;apply kU∘P4;rintro v E G ⟨yM,rfl,rfl,k4⟩;(replace k4:=k4.symm;subst k4);exact(fS∘a5b) a9h):=h
def aIT(h:p:=by apply(fS);refine kI [3] mE dT bE ?_;apply kU∘P3;rintro v E G ⟨yL,rfl,rfl,l3⟩;(replace l3:=l3.symm;subst l3);exact(fS∘a5b) a9h):=h
def aIV(h:p:=by(iterate 4 apply(kQ));apply(mU);(iterate 14 apply(kQ));apply(m2);refine wR rfl ?_;exact(cO∘N5) Xf):=h
def aIX(h:p:=by(iterate 4 apply(kQ));apply(mU);(iterate 14 apply(kQ));apply(m2);refine wR rfl ?_;exact(cO∘LY) Xf):=h
def bHU(h:p:=by(have FU:b=true:=by cases b with|true=>rfl|false=>simp at h3);have a1L:=(VU _ _ _ _ (i0.DO FU)).1;rw[i0.DO FU]at qC;dsimp only at qC;(rw[if_pos (by rw[FU]at h3;simp at h3;omega)]at qC);apply QN∘kP;refine cK (cM (m-1) _ D D D) ?_;rintro v E G ⟨f,q,cS,rfl,Ma,rfl,rfl⟩;have bBq:=Ma.vK;refine aG iR ?_;exact bHA):=h
def Jt(h:p:=by apply(WF);refine lG L R ?_;exact VN):=h
def bH0(h:p:=by have e:oP a s r q (k+1)=_:=if_pos dX;refine a6 ?_;refine gJ O [0,1,2,3,4,5,6,7,8,9,10,11,12,13] _ cX bE g3 ?_;apply WG∘Cp∘WG∘lW∘g1;refine k6 rfl bG5 ?_;apply(p2);intro Lq;exact bHD):=h
def bH1(h:p:=by have K:=bJ p.a3.l k default;have aET:=aRt hp hq k D;have rT:=hp.nD _ _ K;have ED:=a4c rT (p.a3.l.getD k default).state q;apply j7∘B2∘WJ;intro gL;exact(rP∘eP∘sD∘gE) bHI):=h
def bH2(h:p:=by apply(eK);(iterate 4 apply(hS));apply(b1);refine aG iQ ?_;apply k7∘b7J;rintro v E G ⟨rfl,rfl⟩;refine aG iQ ?_;apply k7∘b6B;rintro v E G ⟨rfl,rfl⟩;refine aG iQ ?_;exact bHW):=h
def Ju(h:p:=by intro gM;replace gM:=a8 gM;exact R4):=h
def Qz(h:p:=by intro pW;replace pW:=a8 pW;exact a9o):=h
def Ya(h:p:=by intro eN;replace eN:=a8 eN;exact R4):=h
def a3w(h:p:=by intro eN;replace eN:=a8 eN;exact(fH) LP):=h
def a9t(h:p:=by refine bN L R mR ?_;exact VN):=h
def aI6(h:p:=by apply(nO);(iterate 3 apply(eP));exact(N8) HW):=h
def a2U(h:p:=by refine dC L R ?_;exact VN):=h
def aYj(h:p:=by intro eN;replace eN:=a8 eN;have yQ:=bJ l.l 1 0;exact(nO∘hM∘a33∘jI∘B3∘l8) GD):=h
def aYo(h:p:=by apply(q4);refine bN L R VK ?_;(have X:tD s c.l Z.l r p t=8:=by rw[tD,if_neg aO,if_neg D,if_neg a6T,if_pos Jk]);exact b0N):=h
def a2Y(h:p:=by apply(fH);refine cC rfl a27 ?_;exact LQ):=h
def aYA(h:p:=by apply(fS);refine kI [5] I6 dT bE ?_;apply kU∘aPN;rintro v E G ⟨a7R,rfl,a1N,rfl,rfl⟩;exact b0E):=h
def aYF(h:p:=by apply(fS);refine kI [5] I7 dT bE ?_;apply kU∘aNS;rintro v E G ⟨aUv,rfl,aTr,rfl,rfl⟩;exact b0r):=h
def a80(h:p:=by intro eN;replace eN:=a8 eN;exact(gE) PP):=h
def aYL(h:p:=by apply(fS);refine kI [3] OR dT bE ?_;apply kU∘aOt;rintro v E G ⟨Pq,rfl,Hk,rfl,rfl⟩;exact b0x):=h
def aYR(h:p:=by apply(q4);refine bN L R VK ?_;(have X:tD s c.l Z.l r p t=10:=by rw[tD,if_neg aO,if_pos D]);exact b0N):=h
def aYV(h:p:=by intro MW;replace MW:=a8 MW;have ho:=bJ x.l d.yV.toNat default;exact(BB∘b6v∘TE) HW):=h
def aYY(h:p:=by intro gM;replace gM:=a8 gM;have yQ:=bJ l.l 1 0;exact(hM∘a33∘jI∘B3) PQ):=h
def aY3(h:p:=by apply(IV);intro a0L;apply(lP);refine aG bHG ?_;apply(wA);refine bN L R (pG rfl a3p) ?_;exact VN):=h
def aY7(h:p:=by apply(IV);intro a0L;apply(lP);refine aG aI4 ?_;apply(wA);refine bN L R (pG rfl VM) ?_;exact VN):=h
def aIr(h:p:=by(iterate 9 apply(kQ));apply(m2);refine wR rfl ?_;exact b01):=h
def aZg(h:p:=by rintro v E G ⟨z,ok,rfl,h1,rfl,rfl⟩;obtain⟨rfl,rfl⟩:=aLh (aMC h.bY false (Int.toNat k)) h1;exact VN):=h
def aZo(h:p:=by rintro v E G ⟨z,ok,rfl,h1,rfl,rfl⟩;obtain⟨rfl,rfl⟩:=aLh (aMC h.bY true (Int.toNat k)) h1;exact VN):=h
def aZu(h:p:=by apply yF∘dE∘Pt;refine dC L R ?_;have h:=zC g0 D bHH;exact a3e):=h
def aZy(h:p:=by apply(x2);(have e6:=J.p4 (f:=bL.cells) (aR:=5) (p:=p) (i:=s.toNat) (x:=⟨x.bB,x.cQ,x.cY,true,x.bV⟩) bI iB);have DA:(p.l.set s.toNat ⟨x.bB,x.cQ,x.cY,true,x.bV⟩)[s.toNat]?=some ⟨x.bB,x.cQ,x.cY,true,x.bV⟩:=tQ D;(have hK:=J.p4 (f:=bL.cells) (aR:=5) (p:=⟨p.o,(p.l.set s.toNat ⟨x.bB,x.cQ,x.cY,true,x.bV⟩)⟩) (i:=s.toNat) (x:=⟨x.bB,t,x.cY,true,x.bV⟩) bI e6);have jM:((p.l.set s.toNat ⟨x.bB,x.cQ,x.cY,true,x.bV⟩).set s.toNat ⟨x.bB,t,x.cY,true,x.bV⟩)[s.toNat]?=some ⟨x.bB,t,x.cY,true,x.bV⟩:=tQ Qs;(have l4:=J.p4 (f:=bL.cells) (aR:=5) (p:=⟨p.o,((p.l.set s.toNat ⟨x.bB,x.cQ,x.cY,true,x.bV⟩).set s.toNat ⟨x.bB,t,x.cY,true,x.bV⟩)⟩) (i:=s.toNat) (x:=⟨x.bB,t,0,true,x.bV⟩) bI hK);have fD:(((p.l.set s.toNat ⟨x.bB,x.cQ,x.cY,true,x.bV⟩).set s.toNat ⟨x.bB,t,x.cY,true,x.bV⟩).set s.toNat ⟨x.bB,t,0,true,x.bV⟩)[s.toNat]?=some ⟨x.bB,t,0,true,x.bV⟩:=tQ aIt;(have m4:=J.p4 (f:=bL.cells) (aR:=5) (p:=⟨p.o,(((p.l.set s.toNat ⟨x.bB,x.cQ,x.cY,true,x.bV⟩).set s.toNat ⟨x.bB,t,x.cY,true,x.bV⟩).set s.toNat ⟨x.bB,t,0,true,x.bV⟩)⟩) (i:=s.toNat) (x:=⟨x.bB,t,0,true,false⟩) bI l4);exact bH2):=h
def aIs(h:p:=by apply(fS);refine kI [5] mE dT bE ?_;apply kU∘Ek;rintro v E G ⟨lH,eE,rfl,q7,u2,hK,HG,rfl,rfl⟩;refine⟨a2,gN,?_⟩;exact(Em∘En) a9k):=h
def bHo(h:p:=by apply(kU);refine pO rfl R5 rfl rfl ?_;rintro v E G ⟨eH,rfl,rfl,jY⟩;(replace jY:=jY.symm;subst jY);exact(fS) a9k):=h
def bHp(h:p:=by apply kU∘P4;rintro v E G ⟨yM,rfl,rfl,k4⟩;(replace k4:=k4.symm;subst k4);exact(fS) a9k):=h
def bHr(h:p:=by apply(P3);rintro v E G ⟨yL,rfl,rfl,l3⟩;(replace l3:=l3.symm;subst l3);exact(fS) a9k):=h
def bHt(h:p:=by apply kU∘Fi;rintro v E G ⟨TV,rfl,rfl,tI⟩;(replace tI:=tI.symm;subst tI);exact aIT):=h
def bHv(h:p:=by apply(Fi);rintro v E G ⟨TV,rfl,rfl,tI⟩;(replace tI:=tI.symm;subst tI);exact aIO):=h
def bHw(h:p:=by apply(Fi);rintro v E G ⟨TV,rfl,rfl,tI⟩;(replace tI:=tI.symm;subst tI);exact aIR):=h
def bHy(h:p:=by apply(kU);refine pO rfl R5 rfl rfl ?_;rintro v E G ⟨eH,rfl,rfl,jY⟩;(replace jY:=jY.symm;subst jY);exact aIR):=h
def bHB(h:p:=by apply(kU);refine pO rfl R5 rfl rfl ?_;rintro v E G ⟨eH,rfl,rfl,jY⟩;(replace jY:=jY.symm;subst jY);exact aIT):=h
def bHC(h:p:=by apply kU∘P4;rintro v E G ⟨yM,rfl,rfl,k4⟩;(replace k4:=k4.symm;subst k4);exact aIT):=h
def bHE(h:p:=by apply(P4);rintro v E G ⟨yM,rfl,rfl,k4⟩;(replace k4:=k4.symm;subst k4);exact aIO):=h
def bHK(h:p:=by apply(P3);rintro v E G ⟨yL,rfl,rfl,l3⟩;(replace l3:=l3.symm;subst l3);exact aIO):=h
def bHM(h:p:=by apply(P3);rintro v E G ⟨yL,rfl,rfl,l3⟩;(replace l3:=l3.symm;subst l3);exact aIR):=h
def bHN(h:p:=by apply(kU);refine pO rfl R5 rfl rfl ?_;rintro v E G ⟨eH,rfl,rfl,jY⟩;(replace jY:=jY.symm;subst jY);exact aIs):=h
def bHP(h:p:=by apply kU∘P4;rintro v E G ⟨yM,rfl,rfl,k4⟩;(replace k4:=k4.symm;subst k4);exact aIs):=h
def aW(h:p:=by exact show _=Value.bool _ from rfl):=h
def Qq(h:p:=by exact show _=Value.int _ _ from rfl):=h
def aIy(h:p:=by exact show _=Value.slice _ _ _ from rfl):=h
def Qr(h:p:=by exact Y1 (row:=[_,_,_,_,_,_,_,_,_,_,_,_,_,_,_,_,_,_,_,_,_,_,_]) O rfl rfl rfl o0 aE aE):=h
def VM(h:p:=by exact Y1 (row:=[_,_,_]) O rfl rfl rfl o0 aE aE):=h
def Df(h:p:=by exact Y1 (row:=[_,_]) O rfl rfl rfl o0 aE aE):=h
def a3p(h:p:=by exact Y1 (row:=[_,_,_,_,_]) O rfl rfl rfl o0 aE aE):=h
def lR(h:p:=by exact yB (row:=[_,_,_]) O rfl rfl rfl o0 aE aE):=h
def x9(h:p:=by exact yB (row:=[_,_,_,_,_,_,_,_,_,_,_,_,_,_,_,_,_,_,_,_,_,_,_]) O rfl rfl rfl o0 aE aE):=h
def qI(h:p:=by exact yB (row:=[_,_,_,_,_,_,_,_]) O rfl rfl rfl o0 aE aE):=h
def E0(h:p:=by exact yB (row:=[_,_,_,_,_]) O rfl rfl rfl o0 aE aE):=h
def j8(h:p:=by exact b3R o0 rfl rfl):=h
def Dg(h:p:=by exact L0 (hN:=[(0,(Value.agg _).cells.toList)]) (cU:=[_,_,_,_]) O rfl rfl rfl rfl rfl rfl rfl):=h
def Js(h:p:=by exact L0 (hN:=[(0,(Value.agg _).cells.toList)]) (cU:=[_,_,_]) O rfl rfl rfl rfl rfl rfl rfl):=h
def aIQ(h:p:=by exact Y1 (row:=[_,_,_,_]) O rfl rfl rfl o0 aE aE):=h
def Xo(h:p:=by exact mI (hN:=[(0,(Value.int _ _).cells.toList),(1,(Value.int _ _).cells.toList)]) (cU:=[_,_]) O rfl rfl rfl rfl):=h
def fF(h:p:=by exact mB _):=h
def Qy(h:p:=by exact L0 (hN:=[(0,(Value.agg _).cells.toList)]) (cU:=[_,_]) O rfl rfl rfl rfl rfl rfl rfl):=h
def R8(h:p:=by exact qK O (p) rfl rfl rfl c0 bC bI bC aE):=h
def sM(h:p:=by exact aA6 O rfl rfl rfl):=h
def a3s(h:p:=by exact L0 (hN:=[(0,(Value.int _ _).cells.toList),(1,(Value.int _ _).cells.toList)]) (cU:=[_,_]) O rfl rfl rfl rfl rfl rfl rfl):=h
def n1(h:p:=by exact aM (.head _)):=h
def R9(h:p:=by exact yB (row:=[_,_]) O rfl rfl rfl o0 aE aE):=h
def vZ(h:p:=by exact b9x O rfl rfl rfl):=h
def E1(h:p:=by exact P8 O rfl rfl rfl o0 aE):=h
def a9s(h:p:=by exact mI (hN:=[(0,(Value.slice _ _ _).cells.toList),(1,(Value.slice _ _ _).cells.toList)]) (cU:=[_,_]) O rfl rfl rfl rfl):=h
def aI4(h:p:=by exact mI (hN:=[(0,(Value.bool _).cells.toList),(1,(Value.int _ _).cells.toList)]) (cU:=[_,_,_]) O rfl rfl rfl rfl):=h
def Ra(h:p:=by exact mI (hN:=[]) (cU:=[_,_,_]) O rfl rfl rfl rfl):=h
def iR(h:p:=by exact A2 rfl):=h
def iQ(h:p:=by exact b1q rfl):=h
def aIn(h:p:=by exact mI (hN:=[(0,(Value.int _ _).cells.toList),(1,(Value.int _ _).cells.toList),(2,(Value.slice _ _ _).cells.toList)]) (cU:=[_,_,_]) O rfl rfl rfl rfl):=h
def VH(h:p:=by exact show _=Value.pointer _ from rfl):=h
def aYp(h:p:=by exact aLy a s k (ps.l.getD (a.Y.aD.l.getD k default).bK.toNat 0-ps.l.getD (a.Y.aD.l.getD k default).to.toNat 0) _ _ hm hs ha hf D):=h
def aYw(h:p:=by exact aJC a s k (ps.l.getD (a.Y.aD.l.getD k default).bK.toNat 0-ps.l.getD (a.Y.aD.l.getD k default).to.toNat 0) _ _ hm hs ha hf D):=h
def a8Y(h:p:=by exact L0 (hN:=[(0,(Value.agg _).cells.toList)]) (cU:=[_,_,_,_,_]) O rfl rfl rfl rfl rfl rfl rfl):=h
def sL(h:p:=by exact b3f rfl rfl):=h
def a81(h:p:=by exact L0 (hN:=[(0,(Value.int _ _).cells.toList)]) (cU:=[_]) O rfl rfl rfl rfl rfl rfl rfl):=h
def R5(h:p:=by exact aLl O rfl):=h
def aIp(h:p:=by exact L0 (hN:=[(0,(Value.agg _).cells.toList),(1,(Value.agg _).cells.toList)]) (cU:=[_,_,_,_]) O rfl rfl rfl rfl rfl rfl rfl):=h
def a82(h:p:=by exact mI (hN:=[(1,(Value.bool _).cells.toList)]) (cU:=[_,_]) O rfl rfl rfl rfl):=h
def bHg(h:p:=by exact mI (hN:=[(0,(Value.int _ _).cells.toList),(1,(Value.int _ _).cells.toList),(2,(Value.int _ _).cells.toList),(3,(Value.int _ _).cells.toList),(4,(Value.int _ _).cells.toList)]) (cU:=[_,_,_,_,_]) O rfl rfl rfl rfl):=h
def aIq(h:p:=by exact L0 (hN:=[(0,(Value.agg _).cells.toList)]) (cU:=[_,_,_,_,_,_,_,_,_,_]) O rfl rfl rfl rfl rfl rfl rfl):=h
def a3b(h:p:=by exact Y1 (row:=[_,_,_,_,_,_,_,_]) O rfl rfl rfl o0 aE aE):=h
def aZd(h:p:=by exact Zq c.target (s.cD.l.length:Int) _ _):=h
def aZj(h:p:=by exact mI (hN:=[(0,(Value.agg _).cells.toList),(1,(Value.slice _ _ _).cells.toList),(2,(Value.slice _ _ _).cells.toList),(4,(Value.slice _ _ _).cells.toList)]) (cU:=[_,_,_,_,_,_,_,_]) O rfl rfl rfl rfl):=h
def B7(h:p:=by exact b1r rfl rfl):=h
def a3d(h:p:=by exact h4 O (p) _ rfl rfl rfl rfl bC (i:=s.toNat) cW iC):=h
def Jj(h:p:=by exact XA (f:=jF) (x:=false) rfl _):=h
def YR(h:p:=by exact aM (.tail _ (.head _))):=h
def B9(h:p:=by exact b8k rfl rfl):=h
def aZK(h:p:=by exact mI (hN:=[(0,(Value.int _ _).cells.toList),(1,(Value.int _ _).cells.toList),(2,(Value.int _ _).cells.toList),(3,(Value.int _ _).cells.toList)]) (cU:=[_,_,_,_]) O rfl rfl rfl rfl):=h
def aZO(h:p:=by exact mI (hN:=[(0,(Value.agg _).cells.toList),(6,(Value.agg _).cells.toList),(7,(Value.agg _).cells.toList)]) (cU:=[_,_,_,_,_,_,_,_,_,_,_,_,_,_,_,_,_,_,_,_,_,_,_]) O rfl rfl rfl rfl):=h
def Jl(h:p:=by exact show¬a.p.kind=3 from dZ):=h
def a9c(h:p:=by exact yB (row:=[_,_,_,_,_,_,_,_,_,_]) O rfl rfl rfl o0 aE aE):=h
def aZY(h:p:=by exact jL O ((⟨yC,(cs.set k ⟨iE.off,-1,iE.jJ⟩).set k ⟨true,-1,iE.jJ⟩⟩:J b8)) (⟨true,-1,V9⟩) rfl rfl rfl rfl c0 bC bI bC bH aE aE):=h
def aIz(h:p:=by exact mI (hN:=[(0,(Value.int _ _).cells.toList)]) (cU:=[_,_,_,_]) O rfl rfl rfl rfl):=h
def a3o(h:p:=by exact b2k O rfl rfl rfl rfl rfl rfl rfl D D):=h
def aIB(h:p:=by exact mI (hN:=[(0,(Value.agg _).cells.toList)]) (cU:=[_,_,_,_]) O rfl rfl rfl rfl):=h
def bHG(h:p:=by exact mI (hN:=[(0,(Value.int _ _).cells.toList),(1,(Value.int _ _).cells.toList),(2,(Value.int _ _).cells.toList)]) (cU:=[_,_,_,_,_]) O rfl rfl rfl rfl):=h
def HY(h:p:=by exact b5E rfl rfl):=h
def aIE(h:p:=by exact mI (hN:=[(0,(Value.int _ _).cells.toList)]) (cU:=[_]) O rfl rfl rfl rfl):=h
def Jr(h:p:=by exact show yE s=yE s' from h):=h
def JU(h:p:=by exact b4U rfl rfl):=h
def b0p(h:p:=by exact jL O ((⟨yC,cs.set k ⟨iE.off,-1,iE.jJ⟩⟩:J b8)) (⟨true,-1,iE.jJ⟩) rfl rfl rfl rfl c0 bC bI bC bH aE aE):=h
def aIJ(h:p:=by exact h4 O ((⟨eW.o,xN⟩:J b8)) _ rfl rfl rfl rfl bC (i:=eV) cW iC):=h
def b0w(h:p:=by exact qK O ((⟨p.o,(aF.set z.toNat ⟨x.bB,x.cQ,x.cY,x.dM,true⟩)⟩:J bL)) rfl rfl rfl c0 bC bI bC aE):=h
def LR(h:p:=by exact aBt rfl rfl):=h
def Xp(h:p:=by exact show¬a.p.kind=4 from dX):=h
def a9p(h:p:=by exact yB (row:=[_,_,_,_]) O rfl rfl rfl o0 aE aE):=h
def NR(h:p:=by exact b4k rfl rfl):=h
def Xt(h:p:=by exact b4c x _ _ (.of dR K) bD):=h
def b0I(h:p:=by exact jL O ((⟨yC,cs⟩:J b8)) (⟨iE.off,-1,iE.jJ⟩) rfl rfl rfl rfl c0 bC bI bC bH aE aE):=h
def b0K(h:p:=by exact jL O ((⟨yC,cs⟩:J b8)) (⟨iE.off,t,iE.jJ⟩) rfl rfl rfl rfl c0 bC bI bC bH aE aE):=h
def Xw(h:p:=by exact show _=e4 by rw[uG]):=h
def YS(h:p:=by exact iL default D):=h
def b0U(h:p:=by exact qK O ((⟨yC,cs.set k ⟨iE.off,-1,iE.jJ⟩⟩:J b8)) rfl rfl rfl c0 bC bI bC aE):=h
def bH7(h:p:=by exact aBL c.nI _ _):=h
def b0Z(h:p:=by exact jL O (p) (⟨x.bB,x.cQ,t,x.dM,x.bV⟩) rfl rfl rfl rfl c0 bC bI bC bH aE aE):=h
def b04(h:p:=by exact L0 (hN:=[(0,(Value.agg _).cells.toList)]) (cU:=[_,_,_,_,_,_,_,_]) O rfl rfl rfl rfl rfl rfl rfl):=h
def bIc(h:p:=by exact Zq c.target (s.bU.Y.aD.l.length:Int) _ _):=h
def b1b(h:p:=by exact L0 (hN:=[(0,(Value.agg _).cells.toList)]) (cU:=[_,_,_,_,_,_]) O rfl rfl rfl rfl rfl rfl rfl):=h
def aIm(h:p:=by exact yB (row:=[_,_,_,_,_,_]) O rfl rfl rfl o0 aE aE):=h
def bG4(h:p:=by exact b6b (p.a3.l.getD k default).nD (p.a3.l.getD k default).state q _ _ (hm.bAt K) rT hq):=h
def bG5(h:p:=by exact aOe (a.a3.l.getD k default) (s.a3.l.getD k 0) q _ _ (tJ.nD K) rT hq (hf.nD _ _ aN)):=h
def aYq(h:p:=by exact a3M (⟨s,t,h,x.eJ,dH.U,fT,jG,iN,(bM g p t).aB,q.U⟩:cF) g.bU _ _ EF uF):=h
def aYx(h:p:=by exact qK O ((⟨.own FN bS.l.length [],l7⟩:J Int)) rfl rfl rfl c0 bC bI bC aE):=h
def aYB(h:p:=by exact tV (f:=bL.cells) (xs:=f.aT) O rfl rfl rfl bH rfl rfl (jA) bI D):=h
def bHa(h:p:=by exact aCD c.nI _ _):=h
def aYJ(h:p:=by exact qK O ((⟨.own FM l.l.length [],vs⟩:J Int)) rfl rfl rfl c0 bC bI bC aE):=h
def aYN(h:p:=by exact mI (hN:=[]) (cU:=[_,_,_,_,_,_,_,_,_,_,_,_,_,_,_,_,_,_,_,_,_,_,_]) O rfl rfl rfl rfl):=h
def YP(h:p:=by exact b5U rfl rfl):=h
def Xd(h:p:=by exact b38 g p x t _ _ K):=h
def a27(h:p:=by exact b8M _ _ _ _ _):=h
def a29(h:p:=by exact show 0<= -q by omega):=h
def a3c(h:p:=by exact show _=gR by rw[D7]):=h
def Xe(h:p:=by exact b49 O rfl rfl rfl):=h
def aZk(h:p:=by exact show _=Ad gL eH dG n zS ps.l u L (ps.l.getD u.toNat 0)from by rw[Ad,Kr];rfl):=h
def aZr(h:p:=by exact a4S (m:=gC.l.length-400) (aR:=4) (u:=gC.U) O rfl rfl rfl rfl D D aIw rfl):=h
def aZw(h:p:=by exact aM9 p (ps.l.getD p.b9.bK.toNat 0-ps.l.getD p.b9.to.toNat 0) _ _ aFW c1.ok):=h
def aZA(h:p:=by exact aKn p (ps.l.getD p.b9.bK.toNat 0-ps.l.getD p.b9.to.toNat 0) _ _ aFW c1.ok):=h
def aIu(h:p:=by exact aON (e:=3) O rfl bE rfl rfl rfl rfl rfl):=h
def a88(h:p:=by exact a9L g p x t _ _ dR K bD dS):=h
def a9a(h:p:=by exact show¬a.p.kind=5 from h3):=h
def aZP(h:p:=by exact tV (f:=a9.cells) (xs:=Z) O rfl rfl rfl bH rfl rfl (fW) bI D):=h
def aZR(h:p:=by exact mI (hN:=[(0,(Value.int _ _).cells.toList)]) (cU:=[_,_]) O rfl rfl rfl rfl):=h
def aZV(h:p:=by exact tV (f:=b8.cells) (xs:=c) O rfl rfl rfl bH rfl rfl (C7) bI D):=h
def aZZ(h:p:=by exact tV (f:=b8.cells) (xs:=c) O rfl rfl rfl bH rfl rfl (hc) bI D):=h
def aZ3(h:p:=by exact i9 O rfl rfl rfl rfl (i:=(a.Y.aD.l.getD k default).bK.toNat) cW D):=h
def aZ6(h:p:=by exact i9 O rfl rfl rfl rfl (i:=(a.Y.aD.l.getD k default).to.toNat) cW D):=h
def b0a(h:p:=by exact tV (f:=aL) (xs:=f.aU) O rfl rfl rfl bH rfl rfl (pL) bI D):=h
def bHH(h:p:=by exact show yK s.bU s.cD.l fM=some (qM x) by rw[yK,<-K,if_pos bF]):=h
def b0e(h:p:=by exact i9 O rfl rfl rfl rfl (i:=(a.a3.l.getD k default).b9.toNat) cW D):=h
def b0h(h:p:=by exact i9 O rfl rfl rfl rfl (i:=(m.aD.l.getD k default).bK.toNat) cW D):=h
def b0l(h:p:=by exact i9 O rfl rfl rfl rfl (i:=(m.aD.l.getD k default).to.toNat) cW D):=h
def Qw(h:p:=by exact b9u rfl D D):=h
def b0q(h:p:=by exact tV (f:=aL) (xs:=ps) O rfl rfl rfl bH rfl rfl (nG) bI D):=h
def b0t(h:p:=by exact qK O ((⟨yC,cs⟩:J b8)) rfl rfl rfl c0 bC bI bC aE):=h
def a9m(h:p:=by exact a45 rfl rfl bH (b1N D)):=h
def a9n(h:p:=by exact b7M rfl rfl (b2o D D)):=h
def b0A(h:p:=by exact tV (f:=m3) (xs:=h) O rfl rfl rfl bH rfl rfl (bX) bI D):=h
def a9q(h:p:=by exact show _=n4 by rw[I5]):=h
def JV(h:p:=by exact b4S _ _):=h
def aIZ(h:p:=by exact b6a a.Y _ _ hm.YB hok.Y):=h
def GH(h:p:=by exact Dp Qq):=h
def LS(h:p:=by exact Dp aIy):=h
def mR(h:p:=by exact pG rfl Df):=h
def b0Q(h:p:=by exact a0a g p (⟨s,x.time,h,x.eJ,dH.U,w,c,f,x.aB,bS.U⟩:cF) bS hP t _ _ dR D6 (fJ.aK.mono mV) n1 (fJ.eF.mono mV) (fJ.aS.mono mV) (fJ.cP.mono mV) fJ.RQ dS):=h
def VO(h:p:=by exact Dp aW):=h
def oG(h:p:=by exact A2 aIy):=h
def b00(h:p:=by exact j2 (f:=aL) (p:=lO) (a:=E3 x.aK.cD.l x.c5.l x.time 6 (j:Int) ((x.aK.bU.aX.l.getD j default).hH.l.length:Int)) O rfl rfl rfl rfl (C8) c0 j8 rfl kH):=h
def b05(h:p:=by exact h4 O ((⟨.own C0 a.Y.aD.l.length [],l⟩:J a9)) _ rfl rfl ((show _=Value.slice _ _ _ from rfl).trans (v4 pK)) rfl bC (i:=P.rC.toNat) cW iC):=h
def b08(h:p:=by exact h4 O ((⟨.own yM Z.l.length [],aC⟩:J Bool)) _ rfl rfl ((show _=Value.slice _ _ _ from rfl).trans (v4 iX)) rfl bC (i:=s.target.toNat) cW iC):=h
def b1c(h:p:=by exact h4 O ((⟨.own FM l.l.length [],vs⟩:J Int)) _ rfl rfl ((show _=Value.slice _ _ _ from rfl).trans (v4 wI)) rfl bC (i:=x.left.toNat) cW iC):=h
def aYc(h:p:=by exact h4 O ((⟨zS,l⟩:J Bool)) _ rfl rfl ((show _=Value.slice _ _ _ from rfl).trans (by simp only[J.val,pK])) rfl bC (i:=r.bK.toNat) cW iC):=h
def aYg(h:p:=by exact h4 O ((⟨yC,cs⟩:J b8)) _ rfl rfl ((show _=Value.slice _ _ _ from rfl).trans (by simp only[J.val,vR])) rfl bC (i:=k) cW iC):=h
def aYl(h:p:=by exact h4 O ((⟨.own FM l.l.length [],vs⟩:J Int)) _ rfl rfl ((show _=Value.slice _ _ _ from rfl).trans (v4 wI)) rfl bC (i:=k) cW iC):=h
def aYr(h:p:=by exact h4 O ((⟨.own b w.l.length [],vs⟩:J Int)) _ rfl rfl ((show _=Value.slice _ _ _ from rfl).trans (v4 wI)) rfl bC (i:=k) cW iC):=h
def aYy(h:p:=by exact h4 O ((⟨RU,qL⟩:J a9)) _ rfl rfl ((show _=Value.slice _ _ _ from rfl).trans aZU) rfl bC (i:=s.target.toNat) cW iC):=h
def aYC(h:p:=by exact h4 O ((⟨AS,qL⟩:J a9)) _ rfl rfl ((show _=Value.slice _ _ _ from rfl).trans aZU) rfl bC (i:=s.target.toNat) cW iC):=h
def aYG(h:p:=by exact j2 (f:=aL) (p:=iH) (a:=E3 x.aK.cD.l x.c5.l x.time 5 (k:Int) 3) O rfl rfl rfl rfl (MU) c0 j8 rfl kH):=h
def zV(h:p:=by exact A2 Qq):=h
def aYO(h:p:=by exact j2 (f:=fR.cells) (p:=F4) (a:=⟨true,-1,0⟩) O rfl rfl rfl rfl (Vk) c0 j8 rfl kH):=h
def aYT(h:p:=by exact j2 (f:=b8.cells) (p:=NC) (a:=⟨true,-1,0⟩) O rfl rfl rfl rfl (Uk) c0 j8 rfl kH):=h
def A0(h:p:=by exact GN aIy):=h
def aY0(h:p:=by exact j2 (f:=eA.cells) (p:=x0) (a:=CC) O rfl rfl rfl rfl (Ut) c0 j8 rfl kH):=h
def aY5(h:p:=by exact j2 (f:=a9.cells) (a:=⟨_,_⟩) O rfl rfl rfl rfl (fT) c0 j8 rfl kH):=h
def aY9(h:p:=by exact j2 (f:=aL) (a:=(k:Int)) O rfl rfl rfl rfl (gG) c0 j8 rfl kH):=h
def nL(h:p:=by exact J0 rfl Qr GH):=h
def tR(h:p:=by exact J0 rfl VM GH):=h
def VK(h:p:=by exact J0 rfl a3p GH):=h
def HX(h:p:=by exact a0d rfl LS LS GH):=h
def B8(h:p:=by exact J0 rfl LS GH):=h
def DQ(h:p:=by exact J0 rfl GH GH):=h
def NQ(h:p:=by exact aQk rfl a3p LS VM GH):=h
def Qo(h:p:=by exact a0d rfl GH GH VO):=h
def vD(h:p:=by exact pG rfl LS):=h
def VL(h:p:=by exact J0 rfl GH VO):=h
def Dd(h:p:=by exact J0 rfl aIQ GH):=h
def De(h:p:=by exact a0d rfl GH VM GH):=h
def aIA(h:p:=by exact aQk rfl VM LS LS GH):=h
def R7(h:p:=by exact pG rfl GH):=h
def Jp(h:p:=by exact J0 rfl Df GH):=h
def aID(h:p:=by exact J0 rfl Df VO):=h
def bG2(h:p:=by repeat(first|exact YN _|refine bGq ?_|refine aU6 ?_|refine x0 ?_|refine bGr ?_)):=h
def a2T(h:p:=by simp only[J.val,pX,mZ]):=h
def bG3(h:p:=by cases hl:x.bV<;>simp[hl]at dX|- <;>first|exact dX|omega):=h
def qH(h:p:=by first|exact j9 O rfl rfl rfl rfl jC (i:=k) cW D|exact i9 O rfl rfl rfl rfl (i:=k) cW D):=h
def a2V(h:p:=by rw[I5];exact .head _):=h
def aYf(h:p:=by first|(simp at b2;rw[E4];omega)|(simp at hX;rw[E4];omega)):=h
def s6(h:p:=by repeat(first|apply bH3|apply bH4|apply bH5)):=h
def a2W(h:p:=by rw[D7];exact .head _):=h
def aYk(h:p:=by simp only[sK,iD]at JC|-;omega):=h
def x8(h:p:=by repeat(first|exact aL7|apply b6z|apply b7Y)):=h
def a2X(h:p:=by simpa using h3):=h
def bG6(h:p:=by rintro⟨N,V⟩;first|omega|(rw[N]at gW;cases gW)):=h
def AZ(h:p:=by repeat(first|apply lD.j1 rfl|apply lD.AH rfl|refine lD.B5 (t':=AH _ _ _) rfl ?_|exact lD.refl)):=h
def a2Z(h:p:=by simp;exact fW):=h
def aYv(h:p:=by first|exact b6h rfl rfl D D D|exact b1O rfl rfl D D D|exact aBN rfl rfl D):=h
def Qn(h:p:=by simp only[maxLen];omega):=h
def a20(h:p:=by rw[X];decide):=h
def bG8(h:p:=by rw[WY,if_neg dX,if_pos Xs];rw[show iE.off=true by simpa using hW]):=h
def EY(h:p:=by simpa using aO):=h
def a21(h:p:=by simpa using N):=h
def bG9(h:p:=by dsimp only;first|(rw[aDb b2];exact a2)|(rw[aCQ b2];exact a2)):=h
def B6(h:p:=by simp;omega):=h
def a22(h:p:=by simp;exact pK):=h
def aYI(h:p:=by first|exact j9 O rfl rfl rfl rfl jC (i:=(a.Y.aD.l.getD k default).bK.toNat) cW D|exact i9 O rfl rfl rfl rfl (i:=(a.Y.aD.l.getD k default).bK.toNat) cW D):=h
def DP(h:p:=by dsimp only;rw[lT,m0];exact oR _):=h
def a23(h:p:=by rw[ho];decide):=h
def aYM(h:p:=by first|exact j9 O rfl rfl rfl rfl jC (i:=(a.Y.aD.l.getD k default).to.toNat) cW D|exact i9 O rfl rfl rfl rfl (i:=(a.Y.aD.l.getD k default).to.toNat) cW D):=h
def EZ(h:p:=by simp[M]):=h
def a24(h:p:=by first|exact b5N O rfl rfl rfl D D|exact b6V O rfl rfl rfl D D|exact aAX O rfl rfl rfl):=h
def aYS(h:p:=by first|exact j9 O rfl rfl rfl rfl jC (i:=c.target.toNat) cW D|exact i9 O rfl rfl rfl rfl (i:=c.target.toNat) cW D):=h
def GC(h:p:=by repeat(first|exact trivial|refine⟨trivial,?_⟩)):=h
def a25(h:p:=by first|exact aKw rfl rfl D D|exact b4z rfl rfl D D|exact aAb rfl rfl):=h
def aYW(h:p:=by first|exact j9 O rfl rfl rfl rfl jC (i:=r.first.toNat) cW D|exact i9 O rfl rfl rfl rfl (i:=r.first.toNat) cW D):=h
def PN(h:p:=by simpa using b2):=h
def a26(h:p:=by first|exact Y4 (row:=[_,_,_,_,_,_]) O rfl rfl rfl jC bC aE aE|exact yB (row:=[_,_,_,_,_,_]) O rfl rfl rfl o0 aE aE):=h
def aYZ(h:p:=by first|exact j9 O rfl rfl rfl rfl jC (i:=x.bB.toNat) cW D|exact i9 O rfl rfl rfl rfl (i:=x.bB.toNat) cW D):=h
def PO(h:p:=by simpa using bF):=h
def a28(h:p:=by first|exact j9 O rfl rfl rfl rfl jC (i:=eE) cW D|exact i9 O rfl rfl rfl rfl (i:=eE) cW D):=h
def aY4(h:p:=by first|exact Y4 (row:=[_,_,_,_,_]) O rfl rfl rfl jC bC aE aE|exact yB (row:=[_,_,_,_,_]) O rfl rfl rfl o0 aE aE):=h
def NO(h:p:=by(repeat(first|apply List.Sublist.cons (a:=a5.mk lN _ _)|apply List.Sublist.cons (a:=a5.mk sA _ _)|apply List.Sublist.cons_cons));exact oR _):=h
def a3a(h:p:=by first|exact j9 O rfl rfl rfl rfl jC rfl D|exact i9 O rfl rfl rfl rfl rfl D):=h
def aY8(h:p:=by first|exact j9 O rfl rfl rfl rfl jC (i:=x.cond.toNat) cW D|exact i9 O rfl rfl rfl rfl (i:=x.cond.toNat) cW D):=h
def NP(h:p:=by cases h):=h
def bHj(h:p:=by rintro⟨N,V⟩;have aQ:=Bt.1 N;first|omega|(have C5:=aQ.1;simp_all;done)|(have C5:=aQ.2.1;have KX:=aQ.2.2;have iF:=aQ.1;simp_all;done)):=h
def aZc(h:p:=by first|exact Y4 (row:=[_,_,_]) O rfl rfl rfl jC bC aE aE|exact yB (row:=[_,_,_]) O rfl rfl rfl o0 aE aE):=h
def a84(h:p:=by dsimp only;rw[cI];exact bP):=h
def aZh(h:p:=by repeat(first|exact lD.refl|apply lD.j1 rfl|apply lD.AH rfl|apply lD.B5 rfl|apply lD.left rfl|apply lD.bFI rfl)):=h
def aZi(h:p:=by first|exact j9 O rfl rfl rfl rfl jC (i:=k.toNat) cW D|exact i9 O rfl rfl rfl rfl (i:=k.toNat) cW D):=h
def VJ(h:p:=by first|exact b6K rfl rfl|exact b4M rfl rfl|exact aLo rfl):=h
def aZp(h:p:=by dsimp only;rw[<-XA (f:=aL) (x:=(0:Int)) rfl];exact oR _):=h
def aZq(h:p:=by first|exact j9 O rfl rfl rfl rfl jC (i:=i.toNat) cW D|exact i9 O rfl rfl rfl rfl (i:=i.toNat) cW D):=h
def bHl(h:p:=by rw[TN];omega):=h
def a85(h:p:=by simp only[Ja];exact .inr (List.mem_append.1 h)):=h
def aZv(h:p:=by first|exact j9 O rfl rfl rfl rfl jC (i:=a.toNat) cW D|exact i9 O rfl rfl rfl rfl (i:=a.toNat) cW D):=h
def R6(h:p:=by first|exact j9 O rfl rfl rfl rfl jC (i:=fM) cW D|exact i9 O rfl rfl rfl rfl (i:=fM) cW D):=h
def a86(h:p:=by rw[D7];exact .tail _ (.tail _ (.head _))):=h
def aZz(h:p:=by first|exact j9 O rfl rfl rfl rfl jC (i:=n.toNat) cW D|exact i9 O rfl rfl rfl rfl (i:=n.toNat) cW D):=h
def aIt(h:p:=by rw[p6,p6];omega):=h
def aZD(h:p:=by first|exact j9 O rfl rfl rfl rfl jC (i:=k+1) cW D|exact i9 O rfl rfl rfl rfl (i:=k+1) cW D):=h
def a87(h:p:=by first|(cases h;done)|(have cN:=of_decide_eq_true h;omega)|(have cN:=of_decide_eq_false h;omega)|omega):=h
def aIw(h:p:=by show gC.l.length-400<=gC.l.length;omega):=h
def aZF(h:p:=by first|exact j9 O rfl rfl rfl rfl jC (i:=eV) cW D|exact i9 O rfl rfl rfl rfl (i:=eV) cW D):=h
def Jk(h:p:=by simpa using dZ):=h
def a89(h:p:=by rw[Q4];exact .tail _ (.tail _ M)):=h
def aZJ(h:p:=by first|exact j9 O rfl rfl rfl rfl jC (i:=i2) cW D|exact i9 O rfl rfl rfl rfl (i:=i2) cW D):=h
def Qp(h:p:=by simpa using dX):=h
def a9b(h:p:=by rw[a2P,ha]):=h
def aZN(h:p:=by first|exact j9 O rfl rfl rfl rfl jC (i:=1) cW D|exact i9 O rfl rfl rfl rfl (i:=1) cW D):=h
def Db(h:p:=by dsimp only;rw[lT,m0];exact a2):=h
def aIx(h:p:=by rw[Q3.aDk];decide):=h
def Dc(h:p:=by first|exact j9 O rfl rfl rfl rfl jC (i:=j) cW D|exact i9 O rfl rfl rfl rfl (i:=j) cW D):=h
def aZU(h:p:=by simp only[J.val,lY]):=h
def Jm(h:p:=by(repeat(first|apply List.Sublist.cons (a:=a5.mk cT _ _)|apply List.Sublist.cons_cons));exact oR _):=h
def bHx(h:p:=by dsimp only;rw[cI];first|exact bP|(rw[<-a8D];exact bP)):=h
def D(h:p:=by omega):=h
def Jn(h:p:=by simp only[sK]at hm;omega):=h
def bHz(h:p:=by first|exact b4u hp D D|exact b42 hp D D hq D):=h
def aE(h:p:=by rfl):=h
def Qs(h:p:=by rw[p6];omega):=h
def a9e(h:p:=by first|exact aAt rfl rfl D D|exact aO0 rfl rfl):=h
def o0(h:p:=by repeat(first|exact Xh|apply Xi|apply Xj)):=h
def Jo(h:p:=by first|exact aP7 O rfl rfl rfl jC bC aE|exact P8 O rfl rfl rfl o0 aE|exact P8 O rfl rfl rfl o0 (aLD bC)|exact P8 O rfl rfl rfl o0 (a9I bI bC rfl)):=h
def a9f(h:p:=by first|exact Y4 (row:=[_,_,_,_]) O rfl rfl rfl jC bC aE aE|exact yB (row:=[_,_,_,_]) O rfl rfl rfl o0 aE aE):=h
def Jq(h:p:=by first|exact Y4 (row:=[_,_,_,_,_,_,_,_]) O rfl rfl rfl jC bC aE aE|exact yB (row:=[_,_,_,_,_,_,_,_]) O rfl rfl rfl o0 aE aE):=h
def aIC(h:p:=by first|exact j9 O rfl rfl rfl rfl jC (i:=p.toNat) cW D|exact i9 O rfl rfl rfl rfl (i:=p.toNat) cW D):=h
def bE(h:p:=by kernel_rfl):=h
def Qt(h:p:=by simp only[lE.lI];omega):=h
def a9g(h:p:=by first|exact j9 O rfl rfl rfl rfl jC (i:=s.toNat) cW D|exact i9 O rfl rfl rfl rfl (i:=s.toNat) cW D):=h
def bH(h:p:=by decide):=h
def Qu(h:p:=by rw[uG];exact .head _):=h
def a9i(h:p:=by first|exact j9 O rfl rfl rfl rfl jC (i:=0) cW D|exact i9 O rfl rfl rfl rfl (i:=0) cW D):=h
def a2(h:p:=by repeat(first|exact LU _|exact PR _|apply NS|apply LV|apply PS|apply PT)):=h
def b0k(h:p:=by simp[CP,Yv]):=h
def aIF(h:p:=by(repeat(first|apply List.Sublist.cons (a:=a5.mk cS _ _)|apply List.Sublist.cons_cons));exact oR _):=h
def bP(h:p:=by repeat' (first|exact trivial|refine And.intro rfl ?_)):=h
def Qv(h:p:=by exact b6M bI bC bH):=h
def aIG(h:p:=by first|(simp at bF;rw[E4];omega)|(simp at k5;rw[E4];omega)):=h
def bC(h:p:=by assumption):=h
def Xk(h:p:=by first|(simp only[m0];done)|(simp only[m0];rfl)):=h
def aIH(h:p:=by rw[uG];exact .tail _ (.tail _ (.tail _ (.tail _ M)))):=h
def c0(h:p:=by repeat(first|apply sR.cons|exact sR.mW|exact sR.xY|exact sR.at bC|apply sR.xJ)):=h
def Xl(h:p:=by simp only[sK]at JC;omega):=h
def aII(h:p:=by rw[uG];exact .tail _ (.tail _ (.tail _ (.head _)))):=h
def cW(h:p:=by first|rfl|omega|(simp;omega)):=h
def a9l(h:p:=by dsimp only;rw[F9];omega):=h
def aIL(h:p:=by dsimp only;rw[lT,lT];exact oR _):=h
def Xm(h:p:=by rw[uG];exact .tail _ (.head _)):=h
def aIP(h:p:=by first|exact b4T rfl rfl D D|exact b4a rfl rfl D D|exact aBI rfl rfl):=h
def kG(h:p:=by repeat(first|exact lD.refl|apply lD.j1 rfl|apply lD.AH rfl|apply lD.B5 rfl|apply lD.left rfl)):=h
def Xn(h:p:=by first|exact b8f|rfl):=h
def aIS(h:p:=by first|exact Y4 (row:=[_,_,_,_,_,_,_,_,_,_]) O rfl rfl rfl jC bC aE aE|exact yB (row:=[_,_,_,_,_,_,_,_,_,_]) O rfl rfl rfl o0 aE aE):=h
def Xq(h:p:=by rw[y6]):=h
def aIU(h:p:=by first|exact j9 O rfl rfl rfl rfl jC (i:=(q.l.getD k 0).toNat) cW D|exact i9 O rfl rfl rfl rfl (i:=(q.l.getD k 0).toNat) cW D):=h
def k1(h:p:=by dsimp only;omega):=h
def Xr(h:p:=by simp at aO;omega):=h
def aIW(h:p:=by first|exact j9 O rfl rfl rfl rfl jC (i:=f.hJ.l.length-1) cW D|exact i9 O rfl rfl rfl rfl (i:=f.hJ.l.length-1) cW D):=h
def fX(h:p:=by simp):=h
def Xs(h:p:=by simpa using hW):=h
def aIY(h:p:=by first|exact j9 O rfl rfl rfl rfl jC (i:=x.lX.toNat) cW D|exact i9 O rfl rfl rfl rfl (i:=x.lX.toNat) cW D):=h
def bHV(h:p:=by simp only[lT,m0];rfl):=h
def Xu(h:p:=by simpa using h):=h
def aI0(h:p:=by first|exact j9 O rfl rfl rfl rfl jC (i:=r.dI.toNat) cW D|exact i9 O rfl rfl rfl rfl (i:=r.dI.toNat) cW D):=h
def Xv(h:p:=by first|exact b7w D|rfl):=h
def aI1(h:p:=by first|exact j9 O rfl rfl rfl rfl jC (i:=f.b9.toNat) cW D|exact i9 O rfl rfl rfl rfl (i:=f.b9.toNat) cW D):=h
def b0M(h:p:=by dsimp only;rw[e];exact a2):=h
def aI2(h:p:=by first|exact Y4 (row:=[_,_]) O rfl rfl rfl jC bC aE aE|exact yB (row:=[_,_]) O rfl rfl rfl o0 aE aE):=h
def gN(h:p:=by first|exact mB _|assumption|exact(λr h=>aM (by simp[h]))):=h
def Xx(h:p:=by first|exact j9 O rfl rfl rfl rfl jC (i:=z.toNat) cW D|exact i9 O rfl rfl rfl rfl (i:=z.toNat) cW D):=h
def aI3(h:p:=by first|exact j9 O rfl rfl rfl rfl jC (i:=k-1) cW D|exact i9 O rfl rfl rfl rfl (i:=k-1) cW D):=h
def iC(h:p:=by first|omega|(dsimp only;omega)|(dsimp only;rw[p6];omega)|(dsimp only;simp only[p6];omega)):=h
def Xy(h:p:=by first|exact j9 O rfl rfl rfl rfl jC (i:=eU) cW D|exact i9 O rfl rfl rfl rfl (i:=eU) cW D):=h
def b0T(h:p:=by(repeat(first|apply List.Sublist.cons (a:=a5.mk cS _ _)|apply List.Sublist.cons (a:=a5.mk dG _ _)|apply List.Sublist.cons (a:=a5.mk cT _ _)|apply List.Sublist.cons_cons));exact oR _):=h
def Xz(h:p:=by first|exact j9 O rfl rfl rfl rfl jC (i:=i) cW D|exact i9 O rfl rfl rfl rfl (i:=i) cW D):=h
def b0W(h:p:=by(repeat(first|apply List.Sublist.cons (a:=a5.mk Fv _ _)|apply List.Sublist.cons_cons));exact oR _):=h
def hC(h:p:=by repeat(first|apply zA.mW|apply zA.cons|apply zA.xJ)):=h
def a3u(h:p:=by rw[oF,mQ,oF];exact .tail _ M):=h
def b0Y(h:p:=by(repeat(first|apply List.Sublist.cons (a:=a5.mk MK _ _)|apply List.Sublist.cons_cons));exact oR _):=h
def kH(h:p:=by first|omega|(simp only[sK,EV,iD];omega)):=h
def a3v(h:p:=by rw[uG];exact .tail _ (.tail _ (.head _))):=h
def b03(h:p:=by(repeat(first|apply List.Sublist.cons (a:=a5.mk FM _ _)|apply List.Sublist.cons_cons));exact oR _):=h
def jC(h:p:=by first|assumption|exact Dh fX):=h
def a3x(h:p:=by rw[D7];exact .tail _ (.head _)):=h
def b07(h:p:=by(repeat(first|apply List.Sublist.cons (a:=a5.mk jE _ _)|apply List.Sublist.cons_cons));exact oR _):=h
def a3y(h:p:=by simp only[m0];rfl):=h
def bIf(h:p:=by dsimp only;first|(rw[aRd aO];exact oR _)|(rw[aQJ aO];exact oR _)):=h
inductive VQ where
 |ty (t:TypeId)
 |mp (FP:Array MapEntry) (bIM:Nat)
instance:Coe TypeId VQ:=⟨.ty⟩
instance(n:Nat):OfNat VQ n:=⟨.ty n⟩
structure a5 where
 b:Nat
 cs:List Value
 T:VQ
def VQ.Vr(cs:List Value):VQ->Obj
 | .ty t=>.cells cs.toArray t (0,0)
 | .mp FP iE=>.map FP iE
inductive fG where
 |mk (aR:Nat) (a:Option Addr) (len cap:Nat) (rows:List (List Value)) (eQ:List fG)
def zI(a:Option Addr):Nat:=match a with|some x=>x.block|none=>0
def Tm(a:Option Addr):Nat:=match a with|some x=>x.off|none=>0
def pJ(a:Option Addr)(aR i j:Nat):Nat:=Tm a+i*aR+j
inductive tW(w:World)(aC:Nat->Prop):fG->Prop
 |mk {aR a len cap rows eQ} (hl:rows.length=len) (hc:len<=cap) (hm:cap<9223372036854775808) (cV: ∀r∈rows,r.length=aR)
  (M:rows=[]\/∃b off,a=some ⟨b,off,none⟩/\aC b/\∀i j,i<len->j<aR->w.cell? ⟨b,off+i*aR+j,none⟩=(rows[i]?).bind (·[j]?))
  (hs:∀s∈eQ,tW w aC s):tW w aC (.mk aR a len cap rows eQ)
inductive Sub(s:fG):fG->Prop
 |mW:Sub s s
 |XE {aR a len cap rows eQ x} (h:x∈eQ) (k:Sub s x):Sub s (.mk aR a len cap rows eQ)
def aH(s:fG)(R:List fG):Prop:=∃r∈R,Sub s r
def tW.mono{w w':World}{aC H1:Nat->Prop}(nW:∀b,aC b->H1 b)(cV:∀b,aC b->w'.heap[b]?=w.heap[b]?){s:fG}(h:tW w aC s):tW w' H1 s:=by
 induction h with
 |mk hl hc hm tK M hs cM=>
  refine .mk hl hc hm tK ?_ cM;rcases M with h|⟨b,off,ha,hb,MH⟩;·exact .inl h
  ·refine .inr ⟨b,off,ha,nW b hb,λi j aA aY=> ?_⟩;rw[<-MH i j aA aY];exact World.cell?_of_block (w:=w) (cV b hb)
def tW.sub{w:World}{aC:Nat->Prop}{s r:fG}(h:tW w aC r)(k:Sub s r):tW w aC s:=by
 induction k with
 |mW=>exact h
 |XE K _ cM=>cases h with|mk _ _ _ _ _ hs=>exact cM (hs _ K)
structure tS(L:List a5)(aC:Nat->Prop)(R:List fG)(w:World):Prop where
 nR:(L.map (·.b)).Nodup
 own:∀e∈L,w.heap[e.b]?=some (e.T.Vr e.cs)
 u7:∀e∈L,¬aC e.b
 tH:∀b,aC b->b<w.heap.size
 p3:∀r∈R,tW w aC r
structure y7 where
 gX:World
 a2s:Nat->Prop
 aJa:Nat->Prop
structure b3O(c:y7)(w:World):Prop where
 os:w.os=c.gX.os
 tape:w.tape=c.gX.tape
 output:w.output=c.gX.output
 size:c.gX.heap.size<=w.heap.size
 block:∀b,b<c.gX.heap.size->¬c.a2s b->w.heap[b]?=c.gX.heap[b]?
 KV:∀a,w.frozen? a=c.gX.frozen? a
structure dL(c:y7)(L:List a5)(R:List fG)(w:World):Prop where
 aC:∃aC,tS L aC R w/\∀b,aC b->c.aJa b\/c.gX.heap.size<=b\/c.a2s b
 own:∀e∈L,c.a2s e.b\/c.gX.heap.size<=e.b
 JI:b3O c w
def zP(L:List a5)(b:Nat):Prop:=∃e∈L,e.b=b
def dL.Cc{L:List a5}{aC:Nat->Prop}{R:List fG}{w:World}(h:tS L aC R w):dL ⟨w,zP L,aC⟩ L R w:=
 ⟨⟨aC,h,λ_ hb=>.inl hb⟩,λe X=>.inl ⟨e,X,rfl⟩,⟨rfl,rfl,rfl,g4 _,λ_ _ _=>rfl,λ_=>rfl⟩⟩
def tS.lt{L aC R w}(h:tS L aC R w){e:a5}(X:e∈L):e.b<w.heap.size:=by
 have:=h.own e X;rcases gY e.b w.heap.size with cN|cN;·exact cN
 ·simp[LL cN]at this
def dL.trans{c:y7}{L E:List a5}{R G:List fG}{aC:Nat->Prop}{w w':World}(h:dL c L R w)
 (nW:∀b,aC b->c.aJa b\/c.gX.heap.size<=b\/c.a2s b) (k:dL ⟨w,zP L,aC⟩ E G w'):dL c E G w':=by
 obtain⟨⟨H1,bX,hg⟩,ho,hk⟩:=k;have inl:∀b,zP L b->c.a2s b\/c.gX.heap.size<=b:=λb ⟨e,X,hb⟩=>hb▸h.own e X;have F2:=h.JI.size;refine⟨⟨H1,bX,λb hb=>?_⟩,λe X=>?_,⟨hk.os.trans h.JI.os,hk.tape.trans h.JI.tape,hk.output.trans h.JI.output,GB F2 hk.size,λb hb hn=>?_,λa=>(hk.KV a).trans (h.JI.KV a)⟩⟩;·
  rcases hg b hb with N|N|N;·exact nW b N
  ·exact .inr (.inl (GB F2 N))
  ·
   rcases inl b N with V|V;·exact .inr (.inr V)
   ·exact .inr (.inl V)
 ·
  rcases ho e X with N|N;·exact inl _ N
  ·exact .inr (GB F2 N)
 ·
  rw[hk.block b (a2M hb F2) (λaA=> ?_),h.JI.block b hb hn];rcases inl b aA with V|V;·exact hn V
  ·exact absurd V (Nat.not_le.2 hb)
def dL.vB{c:y7}{L E:List a5}{R G:List fG}{w:World}(h:dL c L R w)(c2:E.Sublist L)(bD:∀r∈G,aH r R):dL c E G w:=by obtain⟨⟨aC,bX,hg⟩,ho,hk⟩:=h;refine⟨⟨aC,⟨bX.nR.sublist (c2.map _),λe X=>bX.own e (c2.subset X),λe X=>bX.u7 e (c2.subset X),bX.tH,λr M=>?_⟩,hg⟩,λe X=>ho e (c2.subset X),hk⟩;obtain⟨rD,JF,hs⟩:=bD r M;exact(bX.p3 rD JF).sub hs
def h9(t:Nat->Value):Operand->Value
 | .tmp k=>t k
 | .const v=>v
 | .global g=>.pointer (some ⟨g,0,none⟩)
 | .func f=>.func (.func f) #[] #[]
def VX{k d:Nat}(h:¬k=d):Nat.beq k d=false:=by
 cases hb:Nat.beq k d with
 |false=>rfl
 |true=>exact absurd (aIh hb) h
def j1(t:Nat->Value)(d:Nat)(v:Value):Nat->Value:=λk=>bif Nat.beq k d then v else t k
def z8(t:Nat->Value)(d:Option Tmp)(v:Value):Nat->Value:=
 match d with
 |some d=>j1 t d v
 |none=>t
def XD(n:Nat)(d:Option Tmp):Bool:=
 match d with
 |some d=>Nat.blt d n
 |none=>true
structure nU(n:Nat)(t:Nat->Value)(a:Act):Prop where
 defers:a.defers=[]
 size:a.tmps.size=n
 val:∀k,a.tmps.getD k undef=t k
def nU.eval{n t a}(h:nU n t a):a.eval=h9 t:=by
 funext x;cases x with
 |tmp k=>exact h.val k
 |_=>rfl
def nU.put{n t a}(h:nU n t a){d:Option Tmp}(hd:XD n d=true)(v:Value):nU n (z8 t d v) (a.put d v):=by
 cases d with
 |none=>exact h
 |some d=>
  have jH:d<n:=by simpa[XD]using hd
  refine⟨h.defers,by simp[Act.put,h.size],λk=>?_⟩;have hv:=h.val k;simp only[Act.put,z8,j1];by_cases hk:k=d;·subst hk;(have:k<a.tmps.size:=by rw[h.size];exact jH);simp[this]
  ·have:Nat.beq k d=false:=VX hk;rw[this,cond_false,<-hv];simp[a2O (Cz hk)]
def Sw(all:Array Oper)(t:Nat->Value)(j:Nat):Option Bool:=
 match(all[j]?).bind (·.dst)with
 |some d=>match t d with
  | .bool b=>some b
  |_=>none
 |none=>none
def oH(all:Array Oper)(t:Nat->Value)(g:Option (Nat×Bool)):Bool:=
 match g with
 |none=>true
 |some (j,qG)=>Sw all t j==some qG
def nU.wanted{n t a}(h:nU n t a)(all:Array Oper)(o:Oper):Region.wanted o (yielded all a.tmps)=oH all t o.guard:=by
 unfold Region.wanted oH;cases hg:o.guard with
 |none=>rfl
 |some p=>
  obtain⟨j,qG⟩:=p;have:yielded all a.tmps j=Sw all t j:=by
   unfold yielded Sw;cases hd:(all[j]?).bind (·.dst)with
   |none=>rfl
   |some d=>
    have hv:=h.val d;simp only[Xa];rcases gY d a.tmps.size with cN|cN;·(have e:a.tmps[d]? =some (t d):=by rw[<-hv];simp[cN]);rw[e];cases t d<;>rfl
    ·have e:a.tmps[d]? =none:=LL cN;(have eY:t d=undef:=by rw[<-hv];simp[e]);rw[e,eY];rfl
  simp only[this]
abbrev gA:=Exit->(Nat->Value)->List a5->List fG->Prop
def b4E:Exit->Prop
 | .panic _=>False
 |_=>True
def IH(n:Nat)(c:y7)(fO:gA):Exit->Act->World->Prop:=
 λe a w=>b4E e/\∃t L R,fO e t L R/\nU n t a/\dL c L R w
def cH(P:Program)(n:Nat)(code:Code)(t:Nat->Value)(L:List a5)(R:List fG)(Q:gA):Prop:=
 ∀c a w,nU n t a->dL c L R w->code.wp P (IH n c Q) a w
def c6(P:Program)(n:Nat)(all:Array Oper)(ops:List Oper)(t:Nat->Value)(L:List a5)(R:List fG)(Q:gA):Prop:=
 ∀c a w,nU n t a->dL c L R w->wpList P all (IH n c Q) ops a w
abbrev oY:=Value->List a5->List fG->Prop
def aI(P:Program)(f:FuncId)(args:Array Value)(L:List a5)(R:List fG)(Post:oY):Prop:=
 (∀(xs:Array Value) (w:World),(callFunc f xs).run P w=.ok (.enter f xs) w)/\
 ∀(w:World) (aC:Nat->Prop),tS L aC R w->Calls P f args w λe w'=>∃v E G,e=.returned v/\Post v E G/\dL ⟨w,zP L,aC⟩ E G w'
def aI.mono{P f args L R}{Post xA:oY}(h:aI P f args L R Post)(k:∀v E G,Post v E G->xA v E G):aI P f args L R xA:=
 ⟨h.1,λw aC bX=>(h.2 w aC bX).mono λ_ _ ⟨v,E,G,e,p,s⟩=>⟨v,E,G,e,k _ _ _ p,s⟩⟩
def eD(P:Program)(op:Oper)(bA:Operand->Value)(L:List a5)(R:List fG)(Post:oY):Prop:=
 ∀(c:y7) (w:World),dL c L R w->∀(a:Act) (next:Act->World->Prop) (Q:Exit->Act->World->Prop),
  (∀v E G w',Post v E G->dL c E G w'->next (a.put op.dst v) w')->op.upon P a next Q ((execOp bA op).run P w)
def cJ(P:Program)(op:Oper)(bA:Operand->Value)(L:List a5)(R:List fG)(v:Value):Prop:=
 ∀(c:y7) (w:World),dL c L R w->(execOp bA op).run P w=.ok (.value v) w
def cJ.bAS{P op bA L R v}(h:cJ P op bA L R v):eD P op bA L R (λWn E G=>Wn=v/\E=L/\G=R):=by exact aXF
def eI{P n all t L R}{Q:gA}(h:Q .normal t L R):c6 P n all [] t L R Q:=
 λ_ _ _ hf hs=>⟨trivial,t,L,R,h,hf,hs⟩
def a3P{P n all o aB t L R}{Q:gA}{Post:oY}(hg:eD P o (h9 t) L R Post)(cV:oH all t o.guard=true)(hd:XD n o.dst=true)
 (h:∀v E G,Post v E G->c6 P n all aB (z8 t o.dst v) E G Q):c6 P n all (o::aB) t L R Q:=by intro c a w hf hs;unfold wpList;rw[hf.wanted,cV,if_pos rfl];refine .inl ?_;unfold Oper.wp;rw[hf.eval];exact hg c w hs a _ _ λv E G w' hp uK=>h v E G hp c _ w' (hf.put hd v) uK
def aPs{P n all o aB t L R}{Q:gA}{v:Value}(hv:cJ P o (h9 t) L R v)(cV:oH all t o.guard=true)(hd:XD n o.dst=true)
 (h:c6 P n all aB (z8 t o.dst v) L R Q):c6 P n all (o::aB) t L R Q:=
 a3P hv.bAS cV hd λ_ _ _ ⟨dY,eY,nV⟩=>by subst dY;subst eY;subst nV;exact h
def b5R{P n all o aB t L R}{Q:gA}(cV:oH all t o.guard=false)(hd:XD n o.dst=true)
 (h:c6 P n all aB (z8 t o.dst undef) L R Q):c6 P n all (o::aB) t L R Q:=by intro c a w hf hs;unfold wpList;rw[hf.wanted,cV,if_neg fX];exact h c _ w (hf.put hd _) hs
def a0A{P dst f xs rG pos after guard ty bA L R args}{Post:oY}(ha:xs.map bA=args)(bFs:bA (.func f)= .func (.func f) #[] #[])
 (h:aI P f args L R Post):eD P ⟨dst,.call ⟨.value (.func f),xs,rG⟩,ty,pos,after,guard⟩ bA L R Post:=by
 intro x w hs a next Q k
 have Bm:(execOp bA ⟨dst,.call ⟨.value (.func f),xs,rG⟩,ty,pos,after,guard⟩).run P w=.ok (.enter f args) w:=by have N:=h.1 args w;simp only[execOp,resolve,ha,bFs,Deferred.ofValue];simpa[invoke]using N
 exact aWy
def cR{P n id ops t L R}{Q:gA}(h:c6 P n ops.toArray ops t L R Q):cH P n (.region id ops.toArray false) t L R Q:=
 λc a w hf hs=>wp_region_lit (h c a w hf hs)
def e9(P:Program)(n:Nat)(y:Code)(Q:gA):gA
 | .normal,t,L,R=>cH P n y t L R Q
 |e,t,L,R=>Q e t L R
def a6{P n x y t L R}{Q:gA}(h:cH P n x t L R (e9 P n y Q)):cH P n (.seq x y) t L R Q:=by
 intro c a w hf hs;refine wp_seq (wp_mono (h c a w hf hs) ?_);rintro e a w ⟨q9,t',E,G,hq,AN,uK⟩;cases e with
 |normal=>exact hq c a w AN uK
 |_=>exact⟨q9,t',E,G,hq,AN,uK⟩
def aZ{P n y t L R}{Q:gA}(h:cH P n y t L R Q):e9 P n y Q .normal t L R:=h
def gD{P n y t L R}{Q:gA}(h:Q .ret t L R):e9 P n y Q .ret t L R:=h
def lB{P n y id t L R}{Q:gA}(h:Q (.exit id) t L R):e9 P n y Q (.exit id) t L R:=h
def dK{P n t L R}{Q:gA}(h:Q .normal t L R):cH P n .skip t L R Q:=
 λ_ _ _ hf hs=>wp_skip ⟨trivial,t,L,R,h,hf,hs⟩
def iT{P n t L R}{Q:gA}(h:Q .ret t L R):cH P n .ret t L R Q:=
 λ_ _ _ hf hs=>wp_ret ⟨trivial,t,L,R,h,hf,hs⟩
def lC{P n id t L R}{Q:gA}(h:Q (.exit id) t L R):cH P n (.exit id) t L R Q:=
 λ_ _ _ hf hs=>wp_exit ⟨trivial,t,L,R,h,hf,hs⟩
def a9P{P n x A B t L R}{Q:gA}{b:Bool}(hc:h9 t x=.bool b)(dS:b=true->cH P n A t L R Q)(hf:b=false->cH P n B t L R Q):
 cH P n (.cond x A B) t L R Q:=
 λc a w kS hs=>wp_cond_split (by rw[kS.eval];exact hc) (λe=>dS e c a w kS hs) (λe=>hf e c a w kS hs)
def wR{P n x A B t L R}{Q:gA}(hc:h9 t x=.bool true)(dS:cH P n A t L R Q):cH P n (.cond x A B) t L R Q:=
 a9P hc (λ_=>dS) (λe=>by cases e)
def QK{P n x A B t L R}{Q:gA}(hc:h9 t x=.bool false)(hf:cH P n B t L R Q):cH P n (.cond x A B) t L R Q:=
 a9P hc (λe=>by cases e) (λ_=>hf)
def e0(id:Nat)(Q:gA):gA
 | .exit k,t,L,R=>bif Nat.beq k id then Q .normal t L R else Q (.exit k) t L R
 |e,t,L,R=>Q e t L R
def e3{P n id x t L R}{Q:gA}(h:cH P n x t L R (e0 id Q)):cH P n (.block id x) t L R Q:=by
 intro c a w hf hs;refine wp_block (wp_mono (h c a w hf hs) ?_);rintro e a w ⟨q9,t',E,G,hq,AN,uK⟩;cases e with
 |exit k=>
  simp only[Exit.inBlock];by_cases hk:k=id;·subst hk;(have:Nat.beq k k=true:=by simp);simp only[e0,this,cond_true]at hq;rw[if_pos rfl];exact⟨trivial,t',E,G,hq,AN,uK⟩
  ·have:Nat.beq k id=false:=VX hk;simp only[e0,this,cond_false]at hq;rw[if_neg hk];exact⟨trivial,t',E,G,hq,AN,uK⟩
 |_=>exact⟨q9,t',E,G,hq,AN,uK⟩
def gV{id t L R}{Q:gA}(h:Q .normal t L R):e0 id Q .normal t L R:=h
def iS{id t L R}{Q:gA}(h:Q .ret t L R):e0 id Q .ret t L R:=h
def lA{id t L R}{Q:gA}(h:Q .normal t L R):e0 id Q (.exit id) t L R:=by
 have:Nat.beq id id=true:=by simp
 simp only[e0,this,cond_true];exact h
def a4Z{id k t L R}{Q:gA}(hk:Nat.beq k id=false)(h:Q (.exit k) t L R):e0 id Q (.exit k) t L R:=by simp only[e0,hk,cond_false];exact h
def AA(k:Nat):List Nat->Bool
 |[]=>false
 |x::l=>bif Nat.beq k x then true else AA k l
def AH(ws:List Nat)(t bZ:Nat->Value):Nat->Value:=λk=>bif AA k ws then bZ k else t k
def B5(t:Nat->Value):List (Nat×Value)->Nat->Value
 |[]=>t
 |(d,v)::l=>j1 (B5 t l) d v
def lD(ws:List Nat)(t t':Nat->Value):Prop:=∀k,AA k ws=false->t' k=t k
def lD.refl{ws t}:lD ws t t:=λ_ _=>rfl
def lD.j1{ws t t' d v}(hd:AA d ws=true)(h:lD ws t t'):lD ws t (j1 t' d v):=λk hk=>by
 unfold Aw.j1
 cases hb:Nat.beq k d with
 |false=>exact h k hk
 |true=>
  have:k=d:=by simpa[Iz]using hb
  subst this
  rw[hd]at hk
  cases hk
def lD.B5{ws t t' l}(hd:l.all (λp=>AA p.1 ws)=true)(h:lD ws t t'):lD ws t (B5 t' l):=by
 induction l with
 |nil=>exact h
 |cons p l cM=>obtain⟨d,v⟩:=p;simp only[List.all_cons,oS]at hd;exact lD.j1 hd.1 (cM hd.2)
def lD.AH{ws a8u t t' bZ}(hd:a8u.all (λk=>AA k ws)=true)(h:lD ws t t'):lD ws t (AH a8u t' bZ):=λk hk=>by
 unfold Aw.AH
 cases hb:AA k a8u with
 |false=>exact h k hk
 |true=>
  have:∀l:List Nat,l.all (λk=>AA k ws)=true->AA k l=true->AA k ws=true:=by
   intro l
   induction l with
   |nil=>intro _ h;cases h
   |cons x l cM=>
    intro ha hm
    simp only[List.all_cons,oS]at ha
    simp only[AA]at hm
    cases K:Nat.beq k x with
    |true=>
     have:k=x:=by simpa[Iz]using K
     rw[this];exact ha.1
    |false=>rw[K]at hm;exact cM ha.2 hm
  rw[this a8u hd hb]at hk
  cases hk
def DR(t:Nat->Value):List (Nat×Value)->Prop
 |[]=>True
 |(d,v)::l=>t d=v/\DR t l
def Rh{t:Nat->Value}: ∀{l:List (Nat×Value)},DR t l->B5 t l=t
 |[],_=>rfl
 |(d,v)::l,h=>by
  funext k
  simp only[B5,Rh h.2,j1]
  cases hb:Nat.beq k d with
  |false=>rfl
  |true=>
   have:k=d:=by simpa[Iz]using hb
   rw[cond_true,this];exact h.1.symm
structure dV(lZ:Type) where
 uP:lZ->List (Nat×Value)
 L:lZ->List a5
 R:lZ->List fG
 m:lZ->Nat
def e1{lZ:Type}(ws:List Nat)(k0:Nat->Value)(hd:dV lZ)(xZ:Nat)(Q:gA):gA
 | .normal,t,L,R=>∃g,lD ws k0 t/\DR t (hd.uP g)/\(hd.L g).Sublist L/\(∀r∈hd.R g,aH r R)/\hd.m g<xZ
 |e,t,L,R=>Q e t L R
def wS{lZ ws k0 xZ t L R}{hd:dV lZ}{Q:gA}(h:Q .ret t L R):e1 ws k0 hd xZ Q .ret t L R:=h
def tT{lZ ws k0 xZ id t L R}{hd:dV lZ}{Q:gA}(h:Q (.exit id) t L R):e1 ws k0 hd xZ Q (.exit id) t L R:=h
def Yo{ws:List Nat}{k0 t:Nat->Value}(h:lD ws k0 t):AH ws k0 t=t:=by
 funext k;unfold AH;cases hb:AA k ws with
 |true=>rfl
 |false=>exact(h k hb).symm
def mC{lZ:Type}{P n body t L R}{Q:gA}(ws:List Nat)(hd:dV lZ)(a1:lZ)(bQ:DR t (hd.uP a1))(c2:(hd.L a1).Sublist L)(bD: ∀r∈hd.R a1,aH r R)
 (Pa:∀g bZ,cH P n body (B5 (AH ws t bZ) (hd.uP g)) (hd.L g) (hd.R g) (e1 ws t hd (hd.m g) Q)):cH P n (.loop body) t L R Q:=by
 intro c a w hf hs;let I:Act->World->Prop:=λa w=>∃g t',lD ws t t'/\DR t' (hd.uP g)/\nU n t' a/\dL c (hd.L g) (hd.R g) w
 -- the measure is carried in the invariant: 'the least measure at which the state shows'
 have key:∀m,∀g t' a w,hd.m g=m->lD ws t t'->DR t' (hd.uP g)->nU n t' a->dL c (hd.L g) (hd.R g) w->
  ∀b k cs,∃e fE w',IH n c Q e fE w'/\Arrives P (lone (b.at a (.code body:: .inLoop body::k)) cs w) b k cs e fE w':=by
  intro m;induction m using Nat.strongRecOn with
  |_ m cM=>
   intro g t' a w hm ho RK kS cI b k cs;(have e:B5 (AH ws t t') (hd.uP g)=t':=by rw[Yo ho,Rh RK]);obtain⟨Gc,To,Wq,⟨q9,Wi,Zi,Zl,hq,Up,Vg⟩,Gp⟩:=Pa g t' c a w (by rw[e];exact kS) cI b (.inLoop body::k) cs;cases Gc with
   |normal=>obtain⟨aR7,Of,bEL,bBh,MO,jH⟩:=hq;obtain⟨bAH,bAa,bGW,bEB,bBM⟩:=cM (hd.m aR7) (hm▸jH) aR7 Wi To Wq rfl Of bEL Up (Vg.vB bBh MO) b k cs;exact⟨bAH,bAa,bGW,bEB,.of_steps (Steps.trans Gp (.one step_inLoop)) bBM⟩
   |exit id=>exact⟨_,To,Wq,⟨q9,Wi,Zi,Zl,hq,Up,Vg⟩,.pass (x:=.inLoop body) rfl (λ_ _=>.inl fX) Gp⟩
   |goto l=>exact⟨_,To,Wq,⟨q9,Wi,Zi,Zl,hq,Up,Vg⟩,.pass (x:=.inLoop body) rfl (λ_ _=>.inl fX) Gp⟩
   |ret=>exact⟨_,To,Wq,⟨q9,Wi,Zi,Zl,hq,Up,Vg⟩,.pass (x:=.inLoop body) rfl (λ_ _=>.inl fX) Gp⟩
   |panic Tr=>exact⟨_,To,Wq,⟨q9,Wi,Zi,Zl,hq,Up,Vg⟩,.pass (x:=.inLoop body) rfl (λ_ _=>.inl fX) Gp⟩
   |outgrown=>exact⟨_,To,Wq,⟨q9,Wi,Zi,Zl,hq,Up,Vg⟩,.pass (x:=.inLoop body) rfl (λ_ _=>.inl fX) Gp⟩
 intro b k cs;obtain⟨e,fE,w',hq,Gp⟩:=key _ a1 t a w rfl .refl bQ hf (hs.vB c2 bD) b k cs;exact⟨e,fE,w',hq,.of_steps (.one step_loop) Gp⟩
end Go.Aw
namespace Go.Aw
open Go
inductive L5 where
 |bKQ|bool|struct|array (n e:Nat)|slice (e:Nat)|ptr (e:Nat)|int (k:IntKind)|string|yV
structure jT where
 k:L5
 PF:Nat
 Z:List (Nat×Nat)
 g5:Nat
 z:List Value
def KA(P:Program)(i:TypeInfo)(u:TypeDesc)(z:Value):jT:=
  { k:=match u with
      | .struct _=>.struct
      | .array n e=>.array n e
      | .slice e=>.slice e
      | .pointer e=>.ptr e
      | .int k=>.int k
      | .bool=>.bool
      | .string=>.string
      |_=>.yV
    PF:=i.size
    Z:=match u with
      | .struct uE=>uE.toList.map λf=>(f.offset,((P.info? f.type).map (·.size)).getD 0)
      |_=>[]
    g5:=i.bytes
    z:=z.cells.toList}
def H4(P:Program)(T:Nat):Option jT:=
 match P.info? T,P.underlying T with
 |some i,some u=>match i.zero with
  |some z=>some (KA P i u z)
  |none=>none
 |_,_=>none
def hT(g2:List (List (Option jT)))(T:Nat):Option jT:=((g2[T/16]?).bind (·[T%16]?)).join
structure pP(P:Program) where
 g2:List (List (Option jT))
 ok:∀T jB,hT g2 T=some jB->H4 P T=some jB
def aBl(P:Program)(g2:List (List (Option jT)))(c:Nat):List (Option jT):=
 (List.range 16).map λj=>match hT g2 (16*c+j)with
  |some _=>H4 P (16*c+j)
  |none=>none
def b3v{P:Program}{g2:List (List (Option jT))}(h:g2=(List.range g2.length).map (aBl P g2)):∀T jB,hT g2 T=some jB->H4 P T=some jB:=by
 intro T jB hg;have bCL:=hg;unfold hT at hg;rw[h]at hg;rcases gY (T/16) g2.length with N|N;·rw[pF,LN N]at hg;simp only[Jc,Xa,aBl]at hg;rw[pF,LN (Nat.mod_lt _ D)]at hg;simp only[Jc,Option.join_some]at hg;rw[Nat.div_add_mod,bCL]at hg;exact hg
 ·rw[pF,sJ a21]at hg;simp at hg
section bAK
variable{P:Program}{T:Nat}{jB:jT}
def MA(h:H4 P T=some jB):∃i u z,P.info? T=some i/\P.underlying T=some u/\i.zero=some z/\jB=KA P i u z:=by
 unfold H4 at h;split at h;·
  rename_i i u aA c4;split at h;·rename_i z eC;exact⟨i,u,z,aA,c4,eC,(y2 h).symm⟩
  ·cases h
 ·cases h
def run_sizeOf(h:H4 P T=some jB)(w:World):(sizeOf T).run P w=.ok jB.PF w:=by obtain⟨i,u,z,aA,c4,eC,rfl⟩:=MA h;simp[sizeOf,typeInfo,aA,KA]
def Yr(h:H4 P T=some jB)(w:World):∃z:Value,(zeroValue T).run P w=.ok z w/\z.cells.toList=jB.z:=by obtain⟨i,u,z,aA,c4,eC,rfl⟩:=MA h;exact⟨z,by simp[zeroValue,typeInfo,aA,eC],rfl⟩
def L5.isAgg:L5->Bool
 | .struct| .array _ _=>true
 |_=>false
def a90(h:H4 P T=some jB)(w:World):(Go.isAgg T).run P w=.ok jB.k.isAgg w:=by obtain⟨i,u,z,aA,c4,eC,rfl⟩:=MA h;cases u<;>simp[Go.isAgg,run_underlying c4,KA,L5.isAgg]
def QX{e:Nat}(h:H4 P T=some jB)(hk:jB.k=.slice e):P.underlying T=some (.slice e):=by obtain⟨i,u,z,aA,c4,eC,rfl⟩:=MA h;cases u<;>simp[KA]at hk;rw[c4,hk]
def aAj{k:IntKind}(h:H4 P T=some jB)(hk:jB.k=.int k):P.underlying T=some (.int k):=by obtain⟨i,u,z,aA,c4,eC,rfl⟩:=MA h;cases u<;>simp[KA]at hk;rw[c4,hk]
def b8D(h:H4 P T=some jB)(hk:jB.k=.bool):P.underlying T=some .bool:=by obtain⟨i,u,z,aA,c4,eC,rfl⟩:=MA h;cases u<;>simp[KA]at hk;rw[c4]
def aAg(h:H4 P T=some jB)(hk:jB.k=.struct):
 ∃uE,P.underlying T=some (.struct uE)/\jB.Z=uE.toList.map λf=>(f.offset,((P.info? f.type).map (·.size)).getD 0):=by obtain⟨i,u,z,aA,c4,eC,rfl⟩:=MA h;cases u<;>simp[KA]at hk;exact⟨_,c4,rfl⟩
end bAK
inductive H2(e:a5):List a5->Prop
 |mW {L}:H2 e (e::L)
 |cons {x L} (h:H2 e L):H2 e (x::L)
 |xJ {fQ L} (h:H2 e L):H2 e (fQ++L)
def H2.mem{e:a5}{L:List a5}(h:H2 e L):e∈L:=by
 induction h with
 |mW=>simp
 |cons _ cM=>exact PL _ cM
 |xJ _ cM=>exact mA _ cM
def a4f(a b:Int):(a==b)=decide (a=b):=by by_cases h:a=b<;>simp[h]
section bGB
variable{P:Program}{bA:Operand->Value}{L:List a5}{R:List fG}{dst:Option Tmp}{ty:TypeId}{pos:String}{after:Array Edge}{guard:Option (Nat×Bool)}
def A2{x:Operand}{v:Value}(h:bA x=v):cJ P ⟨dst,.move x,ty,pos,after,guard⟩ bA L R v:=λ_ _ _=>by simp[execOp,h]
def GN{x:Operand}{v:Value}(h:bA x=v):cJ P ⟨dst,.assign x,ty,pos,after,guard⟩ bA L R v:=λ_ _ _=>by simp[execOp,h]
def aLo{c x y:Operand}{b:Bool}(h:bA c=.bool b):cJ P ⟨dst,.pick c x y,ty,pos,after,guard⟩ bA L R (if b then bA x else bA y):=λ_ _ _=>by
 simp[execOp,h,asBool]
def b6K{c x y:Operand}{v:Value}(h:bA c=.bool true)(hv:bA x=v):cJ P ⟨dst,.pick c x y,ty,pos,after,guard⟩ bA L R v:=λ_ _ _=>by
 simp[execOp,h,asBool,hv]
def b4M{c x y:Operand}{v:Value}(h:bA c=.bool false)(hv:bA y=v):cJ P ⟨dst,.pick c x y,ty,pos,after,guard⟩ bA L R v:=λ_ _ _=>by
 simp[execOp,h,asBool,hv]
def aCX{n:Int}(N:-9223372036854775808<=n)(V:n<=9223372036854775807):IntKind.i64.wrap n=n:=by rw[IntKind.wrap_i64];omega
variable{T jD:TypeId}{x y:Operand}{k:IntKind}{a b:Int}
def aAb(K:bA x=.int k a)(aN:bA y=.int k b):cJ P ⟨dst,.binOp .add T x y jD,ty,pos,after,guard⟩ bA L R (.int k (k.wrap (a+b))):=λ_ _ _=>by
 simp[execOp,K,aN,eqGuard,binOp,Op.intArith]
def aO0(K:bA x=.int k a)(aN:bA y=.int k b):cJ P ⟨dst,.binOp .sub T x y jD,ty,pos,after,guard⟩ bA L R (.int k (k.wrap (a-b))):=λ_ _ _=>by
 simp[execOp,K,aN,eqGuard,binOp,Op.intArith]
def aBI(K:bA x=.int k a)(aN:bA y=.int k b):cJ P ⟨dst,.binOp .mul T x y jD,ty,pos,after,guard⟩ bA L R (.int k (k.wrap (a*b))):=λ_ _ _=>by
 simp[execOp,K,aN,eqGuard,binOp,Op.intArith]
def aKw(K:bA x=.int .i64 a)(aN:bA y=.int .i64 b)(N:-9223372036854775808<=a+b)(V:a+b<=9223372036854775807):
 cJ P ⟨dst,.binOp .add T x y jD,ty,pos,after,guard⟩ bA L R (.int .i64 (a+b)):=by have:=aAb (P:=P) (L:=L) (R:=R) (dst:=dst) (ty:=ty) (pos:=pos) (after:=after) (guard:=guard) (T:=T) (jD:=jD) K aN;exact a8t
def aAt(K:bA x=.int .i64 a)(aN:bA y=.int .i64 b)(N:-9223372036854775808<=a-b)(V:a-b<=9223372036854775807):
 cJ P ⟨dst,.binOp .sub T x y jD,ty,pos,after,guard⟩ bA L R (.int .i64 (a-b)):=by have:=aO0 (P:=P) (L:=L) (R:=R) (dst:=dst) (ty:=ty) (pos:=pos) (after:=after) (guard:=guard) (T:=T) (jD:=jD) K aN;exact a8t
def b4T(K:bA x=.int .i64 a)(aN:bA y=.int .i64 b)(N:-9223372036854775808<=a*b)(V:a*b<=9223372036854775807):
 cJ P ⟨dst,.binOp .mul T x y jD,ty,pos,after,guard⟩ bA L R (.int .i64 (a*b)):=by have:=aBI (P:=P) (L:=L) (R:=R) (dst:=dst) (ty:=ty) (pos:=pos) (after:=after) (guard:=guard) (T:=T) (jD:=jD) K aN;exact a8t
def aBN(K:bA x=.int k a)(aN:bA y=.int k b)(h:¬b=0):cJ P ⟨dst,.binOp .quo T x y jD,ty,pos,after,guard⟩ bA L R (.int k (k.wrap (a.tdiv b))):=λ_ _ _=>by
 simp[execOp,K,aN,eqGuard,binOp,Op.intDiv,h]
def aAS(K:bA x=.int k a)(aN:bA y=.int k b)(h:¬b=0):cJ P ⟨dst,.binOp .rem T x y jD,ty,pos,after,guard⟩ bA L R (.int k (a.tmod b)):=λ_ _ _=>by
 simp[execOp,K,aN,eqGuard,binOp,Op.intDiv,h]
def b6h(K:bA x=.int .i64 a)(aN:bA y=.int .i64 b)(h:¬b=0)(N:-9223372036854775808<=a.tdiv b)(V:a.tdiv b<=9223372036854775807):
 cJ P ⟨dst,.binOp .quo T x y jD,ty,pos,after,guard⟩ bA L R (.int .i64 (a.tdiv b)):=by have:=aBN (P:=P) (L:=L) (R:=R) (dst:=dst) (ty:=ty) (pos:=pos) (after:=after) (guard:=guard) (T:=T) (jD:=jD) K aN h;exact a8t
def b5E(K:bA x=.int k a)(aN:bA y=.int k b):cJ P ⟨dst,.binOp .lss T x y jD,ty,pos,after,guard⟩ bA L R (.bool (decide (a<b))):=λ_ _ _=>by
 simp[execOp,K,aN,eqGuard,binOp,Op.intCmp]
def a0K(K:bA x=.int k a)(aN:bA y=.int k b):cJ P ⟨dst,.binOp .leq T x y jD,ty,pos,after,guard⟩ bA L R (.bool (decide (a<=b))):=λ_ _ _=>by
 simp[execOp,K,aN,eqGuard,binOp,Op.intCmp]
def b5U(K:bA x=.int k a)(aN:bA y=.int k b):cJ P ⟨dst,.binOp .gtr T x y jD,ty,pos,after,guard⟩ bA L R (.bool (decide (b<a))):=λ_ _ _=>by
 simp[execOp,K,aN,eqGuard,binOp,Op.intCmp]
def b4U(K:bA x=.int k a)(aN:bA y=.int k b):cJ P ⟨dst,.binOp .geq T x y jD,ty,pos,after,guard⟩ bA L R (.bool (decide (b<=a))):=λ_ _ _=>by
 simp[execOp,K,aN,eqGuard,binOp,Op.intCmp]
def b1r(K:bA x=.int k a)(aN:bA y=.int k b):cJ P ⟨dst,.binOp .eql T x y jD,ty,pos,after,guard⟩ bA L R (.bool (decide (a=b))):=λ_ _ _=>by
 simp[execOp,K,aN,eqGuard,binOp,Op.intCmp,a4f]
def aBt(K:bA x=.int k a)(aN:bA y=.int k b):cJ P ⟨dst,.binOp .neq T x y jD,ty,pos,after,guard⟩ bA L R (.bool (decide (¬a=b))):=λ_ _ _=>by
 simp[execOp,K,aN,eqGuard,binOp,Op.intCmp,bne,a4f]
def b9u(K:bA x=.int .i64 a)(N:-9223372036854775807<=a)(V:a<=9223372036854775808):cJ P ⟨dst,.unOp .neg T x,ty,pos,after,guard⟩ bA L R (.int .i64 (-a)):=λ_ _ _=>by
 have:IntKind.i64.wrap (0-a)= -a:=by rw[aCX D D];omega
 simp only[Int.zero_sub]at this
 simp[execOp,K,Op.unary,Op.intArith,this]
def PX{c:Bool}(K:bA x=.bool c):cJ P ⟨dst,.unOp .not T x,ty,pos,after,guard⟩ bA L R (.bool (!c)):=λ_ _ _=>by
 simp[execOp,K,Op.unary]
variable(O:pP P)
def aAX{k b5:IntKind}{sC fL iA iN gK cS lY iX}(N:hT O.g2 T=some ⟨.int b5,sC,iA,gK,lY⟩)(V:hT O.g2 jD=some ⟨.int k,fL,iN,cS,iX⟩)(K:bA x=.int b5 a):
 cJ P ⟨dst,.convert T jD x,ty,pos,after,guard⟩ bA L R (.int k (k.wrap a)):=λ_ w _=>by
 have a8h:=aAj (O.ok _ _ N) rfl
 have a8i:=aAj (O.ok _ _ V) rfl
 simp[execOp,K,convert,run_underlying a8h,run_underlying a8i,Conv.intToInt]
def b5N{b5:IntKind}{sC fL iA iN gK cS lY iX}(N:hT O.g2 T=some ⟨.int b5,sC,iA,gK,lY⟩)(V:hT O.g2 jD=some ⟨.int .i64,fL,iN,cS,iX⟩)(K:bA x= .int b5 a)
 (aQ:-9223372036854775808<=a) (b7:a<=9223372036854775807):cJ P ⟨dst,.convert T jD x,ty,pos,after,guard⟩ bA L R (.int .i64 a):=by have:=aAX (P:=P) (L:=L) (R:=R) (dst:=dst) (ty:=ty) (pos:=pos) (after:=after) (guard:=guard) O N V K;rwa[aCX aQ b7]at this
def Et(b off n:Nat):(⟨b,off,none⟩:Addr).add n=⟨b,off+n,none⟩:=by unfold Addr.add;split<;>simp_all
def aA6{f off PF n b o:Nat}{Z:List (Nat×Nat)}{g5 z}(dN:hT O.g2 T=some ⟨.struct,n,Z,g5,z⟩)(K:bA x=.pointer (some ⟨b,o,none⟩))(hf:Z[f]?=some (off,PF+1)):
 cJ P ⟨dst,.fieldAddr T x f,ty,pos,after,guard⟩ bA L R (.pointer (some ⟨b,o+off,none⟩)):=λ_ w _=>by
 obtain⟨uE,c4,fW⟩:=aAg (O.ok _ _ dN) rfl
 simp only at fW
 subst fW
 rw[pF]at hf
 obtain⟨Tx,Un,X⟩:=Option.map_eq_some_iff.1 hf
 obtain⟨N,V⟩:=Prod.mk.inj X
 have a6X:uE[f]?=some Tx:=by rw[<-Array.getElem?_toList];exact Un
 have F2:∃i,P.info? Tx.type=some i/\i.size=PF+1:=by
  cases aA:P.info? Tx.type with
  |none=>rw[aA]at V;simp at V
  |some i=>rw[aA]at V;exact⟨i,rfl,by simpa using V⟩
 obtain⟨i,aA,hs⟩:=F2
 simp[execOp,K,Instr.fieldAt,run_underlying c4,a6X,Instr.sureAddr,fieldPlace,sizeOf,typeInfo,aA,hs,Et,N]
def b49{f off PF n aR i j:Nat}{j6:Option Addr}{Z:List (Nat×Nat)}{g5 z}(dN:hT O.g2 T=some ⟨.struct,n,Z,g5,z⟩)(K:bA x=.pointer (some ⟨zI j6,pJ j6 aR i j,none⟩))(hf:Z[f]?=some (off,PF+1)):
 cJ P ⟨dst,.fieldAddr T x f,ty,pos,after,guard⟩ bA L R (.pointer (some ⟨zI j6,pJ j6 aR i (j+off),none⟩)):=by
 have:=aA6 (P:=P) (L:=L) (R:=R) (dst:=dst) (ty:=ty) (pos:=pos) (after:=after) (guard:=guard) O dN K hf;have e:pJ j6 aR i j+off=pJ j6 aR i (j+off):=by simp[pJ,a2K]
 rwa[e]at this
def i9{e n fL g5 z nC iX eE}{Z qR:List (Nat×Nat)}{len cap i:Nat}{b o:Nat}(dN:hT O.g2 T=some ⟨.slice e,n,Z,g5,z⟩)(c1:hT O.g2 e=some ⟨eE,fL,qR,nC,iX⟩)
 (K:bA x=.slice (some ⟨b,o,none⟩) len cap) (aN:bA y=.int k a) (aA:a=(i:Int)) (jH:i<len):
 cJ P ⟨dst,.indexAddr T x y,ty,pos,after,guard⟩ bA L R (.pointer (some ⟨zI (some ⟨b,o,none⟩),pJ (some ⟨b,o,none⟩) fL i 0,none⟩)):=λ_ w _=>by
 have c4:=QX (O.ok _ _ dN) rfl
 have hs:=run_sizeOf (O.ok _ _ c1)
 simp only at hs
 subst aA
 simp[execOp,K,aN,Instr.indexAt,asIntOf,run_underlying c4,hs,jH,Et,zI,pJ,Tm]
def j9{e n fL g5 z nC iX eE}{Z qR:List (Nat×Nat)}{len cap i:Nat}{j6:Option Addr}{rows:List (List Value)}{eQ:List fG}(dN:hT O.g2 T=some ⟨.slice e,n,Z,g5,z⟩)(c1:hT O.g2 e=some ⟨eE,fL,qR,nC,iX⟩)
 (K:bA x=.slice j6 len cap) (aN:bA y=.int k a) (bD:aH (.mk fL j6 len cap rows eQ) R) (aA:a=(i:Int)) (jH:i<len):
 cJ P ⟨dst,.indexAddr T x y,ty,pos,after,guard⟩ bA L R (.pointer (some ⟨zI j6,pJ j6 fL i 0,none⟩)):=λc w cI=>by
 obtain⟨⟨aC,bX,hg⟩,ho,hk⟩:=cI
 obtain⟨r,M,l6⟩:=bD
 have HK:=(bX.p3 r M).sub l6
 cases HK with
 |mk hl hc hm cV DC hs=>
  rcases DC with bQ|⟨b,off,ha,_,_⟩
  ·subst bQ;simp only[EV]at hl;omega
  ·subst ha
   exact i9 O dN c1 K aN aA jH c w ⟨⟨aC,bX,hg⟩,ho,hk⟩
def ZK{c:y7}{w:World}(h:dL c L R w){b:Nat}{cs:List Value}{T:TypeId}(X:(⟨b,cs,T⟩:a5)∈L)(o:Nat):w.cell? ⟨b,o,none⟩=cs[o]?:=by obtain⟨⟨aC,bX,hg⟩,ho,hk⟩:=h;have:=bX.own _ X;simp[World.cell?,VQ.Vr]at this|-;rw[this];simp
def aA7{w:World}{T:TypeId}{jB:jT}(h:H4 P T=some jB)(hk:jB.k.isAgg=false){b o:Nat}{v:Value}(hc:w.cell? ⟨b,o,none⟩=some v):
 (loadVar T ⟨b,o,none⟩).run P w=.ok v w:=by simp[loadVar,a90 h,hk,load,Sem.run,hc]
def a5z{w:World}{T:TypeId}{jB:jT}(h:H4 P T=some jB)(hk:jB.k.isAgg=true){b o:Nat}{row:List Value}(hn:row.length=jB.PF)
 (hc:∀j v,row[j]?=some v->w.cell? ⟨b,o+j,none⟩=some v):(loadVar T ⟨b,o,none⟩).run P w=.ok (.agg row.toArray) w:=by have hl:=run_loadCells_list (P:=P) w ⟨b,o,none⟩ row (λj v aY=>by rw[Et];exact hc j v aY);simp[loadVar,a90 h,hk,run_sizeOf h,<-hn,hl]
def P8{n b o:Nat}{Z g5 z v}{hB:L5}{cs:List Value}{n5:TypeId}(K:bA x= .pointer (some ⟨b,o,none⟩))(dN:hT O.g2 T=some ⟨hB,n,Z,g5,z⟩)(hk:hB.isAgg=false)
 (jN:H2 ⟨b,cs,n5⟩ L) (hv:cs[o]?=some v):cJ P ⟨dst,.load T x,ty,pos,after,guard⟩ bA L R v:=λc w cI=>by
 have:=aA7 (P:=P) (w:=w) (O.ok _ _ dN) hk (b:=b) (o:=o) (v:=v) (by rw[ZK cI jN.mem];exact hv)
 simp[execOp,K,Instr.loadAt,Instr.sureAddr,this]
def sub(cs:List Value)(o n:Nat):List Value:=(cs.drop o).take n
def yB{n b o:Nat}{Z g5 z}{hB:L5}{cs row:List Value}{n5:TypeId}(K:bA x= .pointer (some ⟨b,o,none⟩))(dN:hT O.g2 T=some ⟨hB,n,Z,g5,z⟩)(hk:hB.isAgg=true)
 (jN:H2 ⟨b,cs,n5⟩ L) (hv:sub cs o n=row) (hn:row.length=n):cJ P ⟨dst,.load T x,ty,pos,after,guard⟩ bA L R (.agg row.toArray):=λc w cI=>by
 have:=a5z (P:=P) (w:=w) (O.ok _ _ dN) hk (b:=b) (o:=o) (row:=row) hn (λj v aY=>by
  rw[ZK cI jN.mem]
  rw[<-hv,sub,Cw]at aY
  split at aY
  ·simpa using aY
  ·cases aY)
 simp[execOp,K,Instr.loadAt,Instr.sureAddr,this]
def a3O{c:y7}{w:World}(h:dL c L R w){aR len cap i j:Nat}{j6:Option Addr}{rows:List (List Value)}{eQ:List fG}(bD:aH (.mk aR j6 len cap rows eQ) R){row:List Value}(M:rows[i]?=some row){v:Value}(aY:row[j]?=some v):
 w.cell? ⟨zI j6,pJ j6 aR i j,none⟩=some v:=by
 obtain⟨⟨aC,bX,hg⟩,ho,hk⟩:=h;obtain⟨r,JF,l6⟩:=bD;have HK:=(bX.p3 r JF).sub l6;cases HK with
 |mk hl hc hm cV DC hs=>
  have aA:i<rows.length:=(List.getElem?_eq_some_iff.1 M).1;rcases DC with bQ|⟨b,off,ha,_,MH⟩;·subst bQ;simp at aA
  ·subst ha;(have bCV:j<aR:=by have N:=(List.getElem?_eq_some_iff.1 aY).1;have V:=cV row (gU M);omega);rw[show zI (some ⟨b,off,none⟩)=b from rfl,show pJ (some ⟨b,off,none⟩) aR i j=off+i*aR+j from rfl,MH i j D bCV,M];exact aY
def aP7{aV:Type}{n aR len cap i j:Nat}{Z g5 z v}{hB:L5}{j6:Option Addr}{f:aV->List Value}{l:List aV}{vX:aV}{eQ:List fG}(K:bA x= .pointer (some ⟨zI j6,pJ j6 aR i j,none⟩))(dN:hT O.g2 T=some ⟨hB,n,Z,g5,z⟩)(hk:hB.isAgg=false)
 (bD:aH (.mk aR j6 len cap (l.map f) eQ) R) (M:l[i]?=some vX) (aY:(f vX)[j]?=some v):cJ P ⟨dst,.load T x,ty,pos,after,guard⟩ bA L R v:=λc w cI=>by
 have:=aA7 (P:=P) (w:=w) (O.ok _ _ dN) hk (v:=v) (a3O cI bD (row:=f vX) (by rw[pF,M];rfl) aY)
 simp[execOp,K,Instr.loadAt,Instr.sureAddr,this]
def Y4{aV:Type}{n aR len cap i j:Nat}{Z g5 z}{hB:L5}{j6:Option Addr}{f:aV->List Value}{l:List aV}{vX:aV}{row:List Value}{eQ:List fG}(K:bA x= .pointer (some ⟨zI j6,pJ j6 aR i j,none⟩))(dN:hT O.g2 T=some ⟨hB,n,Z,g5,z⟩)(hk:hB.isAgg=true)
 (bD:aH (.mk aR j6 len cap (l.map f) eQ) R) (M:l[i]?=some vX) (hv:sub (f vX) j n=row) (hn:row.length=n):cJ P ⟨dst,.load T x,ty,pos,after,guard⟩ bA L R (.agg row.toArray):=λc w cI=>by
 have:=a5z (P:=P) (w:=w) (O.ok _ _ dN) hk (b:=zI j6) (o:=pJ j6 aR i j) (row:=row) hn (λaGX v aY=>by
  rw[<-hv,sub,Cw]at aY
  split at aY
  ·have:=a3O cI bD (row:=f vX) (i:=i) (j:=j+aGX) (v:=v) (by rw[pF,M];rfl) (by simpa using aY)
   rw[<-this]
   simp[pJ,a2K]
  ·cases aY)
 simp[execOp,K,Instr.loadAt,Instr.sureAddr,this]
def b9x{rG:Array TypeId}{e n Z g5 z}{j6:Option Addr}{len cap:Nat}(bEY:rG[0]?=some T)(dN:hT O.g2 T=some ⟨.slice e,n,Z,g5,z⟩)(K:bA x=.slice j6 len cap):
 cJ P ⟨dst,.call ⟨.builtin .len,#[x],rG⟩,ty,pos,after,guard⟩ bA L R (.int .i64 (len:Int)):=λ_ w _=>by
 have c4:=QX (O.ok _ _ dN) rfl
 simp[execOp,resolve,invoke,builtin,Builtin.len_,bEY,K,run_underlying c4,goInt]
def b1q{uC:Addr}(K:bA x=.pointer (some uC)):cJ P ⟨dst,.nilCheck x,ty,pos,after,guard⟩ bA L R (.pointer (some uC)):=λ_ w _=>by
 simp[execOp,K]
def b4k{rG:Array TypeId}(K:bA x=.int k a)(aN:bA y=.int k b):cJ P ⟨dst,.call ⟨.builtin .min,#[x,y],rG⟩,ty,pos,after,guard⟩ bA L R (.int k (min a b)):=λ_ w _=>by
 simp only[execOp,resolve,invoke,builtin,Builtin.min_,a2P,y3,Cy,K,aN]
 have:(if b<a then b else a)=min a b:=by rw[Int.min_def];split<;>split<;>omega
 simp[Builtin.min2,this]
def b8k{rG:Array TypeId}(K:bA x=.int k a)(aN:bA y=.int k b):cJ P ⟨dst,.call ⟨.builtin .max,#[x,y],rG⟩,ty,pos,after,guard⟩ bA L R (.int k (max a b)):=λ_ w _=>by
 simp only[execOp,resolve,invoke,builtin,Builtin.max_,a2P,y3,Cy,K,aN]
 have:(if b>a then b else a)=max a b:=by rw[Int.max_def];split<;>split<;>omega
 simp[Builtin.max2,this]
def b3f{i:Nat}{vs:Array Value}{v:Value}(K:bA x=.tuple vs)(hv:vs[i]?=some v):cJ P ⟨dst,.extract x i,ty,pos,after,guard⟩ bA L R v:=λ_ w _=>by
 simp[execOp,K,Instr.extract,hv]
end bGB
def aAf(args:List Value):Nat->Value:=λk=>args.getD k undef
def eS(P:Program)(t:Nat->Value)(L:List a5)(R:List fG)(r:ResultVar)(v:Value):Prop:=
 match r with
 | .tmp k=>t k=v
 | .cell k T=>∀c w,dL c L R w->∃a,t k=.pointer (some a)/\(loadVar T a).run P w=.ok v w
def e5(P:Program)(fn:Func)(Post:oY):gA
 | .normal,t,L,R=>∃v E G,(∀c n a w,nU n t a->dL c L R w->(results fn a.tmps).run P w=.ok v w)/\Post v E G/\E.Sublist L/\∀r∈G,aH r R
 | .ret,t,L,R=>∃v E G,(∀c n a w,nU n t a->dL c L R w->(results fn a.tmps).run P w=.ok v w)/\Post v E G/\E.Sublist L/\∀r∈G,aH r R
 |_,_,_,_=>False
def b1Z{P:Program}{f:FuncId}{fn:Func}{code:Code}{args:List Value}{L:List a5}{R:List fG}{Post:oY}(n:Nat)
 (Gt:∀(xs:Array Value) (w:World),(callFunc f xs).run P w=.ok (.enter f xs) w) (hf:P.funcs[f]?=some fn) (hb:fn.body=some code) (hn:fn.ntmps=n) (ha:Nat.ble args.length n=true)
 (h:cH P n code (aAf args) L R (e5 P fn Post)):aI P f args.toArray L R Post:=by
 refine⟨Gt,λw aC bX=>?_⟩;have aEB:args.length<=n:=LM ha;refine calls_of_wp hf hb (wp_mono (h ⟨w,zP L,aC⟩ _ w ⟨rfl,?_,λk=>?_⟩ (dL.Cc bX)) ?_);·simp[hn];omega
 ·
  simp only[aAf,hn];rcases gY k args.length with hk|hk;·simp[List.getD,hk,aH1]
  ·
   rcases gY k n with hK|hK;·(have:k-args.length<n-args.length:=by omega);simp[List.getD,aH1,Nat.not_lt.2 hk,this]
   ·(have: ¬k-args.length<n-args.length:=by omega);simp[List.getD,aH1,Nat.not_lt.2 hk,this]
 ·
  rintro e a w' ⟨_,t,E,G,hq,AN,uK⟩;have key:(∃v iM yD,(∀c n a w,nU n t a->dL c E G w->(results fn a.tmps).run P w=.ok v w)/\Post v iM yD/\iM.Sublist E/\∀r∈yD,aH r G)->
   a.defers=[]/\∃v,(results fn a.tmps).run P w'=.ok v w'/\∃aX6 aLI aLK,Ending.returned v=.returned aX6/\Post aX6 aLI aLK/\dL ⟨w,zP L,aC⟩ aLI aLK w':=by
   rintro⟨v,iM,yD,M,hp,c2,bD⟩;exact⟨AN.defers,v,M _ _ a w' AN uK,v,iM,yD,rfl,hp,uK.vB c2 bD⟩
  cases e with
  |normal=>exact key hq
  |ret=>exact key hq
  |_=>exact hq.elim
def bW{P:Program}{f:FuncId}{fn:Func}{code:Code}{args:List Value}{L:List a5}{R:List fG}{Post:oY}(n:Nat)(Gt:∀(xs:Array Value) (w:World),(callFunc f xs).run P w=.ok (.enter f xs) w)(hf:P.funcs[f]?=some fn)(h:cH P n code (aAf args) L R (e5 P fn Post))(hb:fn.body=some code:=by exact rfl)(hn:fn.ntmps=n:=by exact rfl)(ha:Nat.ble args.length n=true:=by exact rfl):aI P f args.toArray L R Post:=b1Z (n:=n) (Gt:=Gt) (hf:=hf) (hb:=hb) (hn:=hn) (ha:=ha) (h:=h)
section
variable{P:Program}{fn:Func}{Post:oY}{t:Nat->Value}{L:List a5}{R:List fG}
def aCc(tmps:Array Value):ResultVar->Sem Value
 | .tmp t=>pure (tmps.getD t undef)
 | .cell a t=>do loadVar t (<-asAddr (tmps.getD a undef))
def a0C(tmps:Array Value):results fn tmps=(do
 let vs <-fn.results.mapM (aCc tmps)
 pure (if h:vs.size=1 then vs[0]else .tuple vs)):=rfl
def V3{r:ResultVar}{v:Value}(h:eS P t L R r v){c n a w}(hf:nU n t a)(hs:dL c L R w):(aCc a.tmps r).run P w=.ok v w:=by
 cases r with
 |tmp k=>have e:t k=v:=h;rw[<-e,<-hf.val k];rfl
 |cell k T=>obtain⟨uC,N,V⟩:=h c w hs;have aQ:=hf.val k;rw[N]at aQ;simp only[aCc,aQ];simp[asAddr,V]
def pG{r:ResultVar}{v:Value}(M:fn.results=#[r])(h:eS P t L R r v):∀c n a w,nU n t a->dL c L R w->(results fn a.tmps).run P w=.ok v w:=by intro c n a w hf hs;have N:=V3 h hf hs;rw[a0C,M];simp[N]
def J0{r s:ResultVar}{v u:Value}(M:fn.results=#[r,s])(h:eS P t L R r v)(k:eS P t L R s u):∀c n a w,nU n t a->dL c L R w->(results fn a.tmps).run P w=.ok (.tuple #[v,u]) w:=by intro c n a w hf hs;have N:=V3 h hf hs;have V:=V3 k hf hs;rw[a0C,M];simp[N,V]
def a0d{r s q:ResultVar}{v u x:Value}(M:fn.results=#[r,s,q])(h:eS P t L R r v)(k:eS P t L R s u)(m:eS P t L R q x):∀c n a w,nU n t a->dL c L R w->(results fn a.tmps).run P w=.ok (.tuple #[v,u,x]) w:=by intro c n a w hf hs;have N:=V3 h hf hs;have V:=V3 k hf hs;have aQ:=V3 m hf hs;rw[a0C,M];simp[N,V,aQ]
def Dp{k:Nat}{v:Value}(h:t k=v):eS P t L R (.tmp k) v:=h
def Y1(O:pP P){k T n b o:Nat}{Z g5 z}{hB:L5}{cs row:List Value}{n5:TypeId}(K:t k= .pointer (some ⟨b,o,none⟩))(dN:hT O.g2 T=some ⟨hB,n,Z,g5,z⟩)(hk:hB.isAgg=true)
 (jN:H2 ⟨b,cs,n5⟩ L) (hv:sub cs o n=row) (hn:row.length=n):eS P t L R (.cell k T) (.agg row.toArray):=by
 intro c w cI;refine⟨_,K,a5z (O.ok _ _ dN) hk hn (λj v aY=>?_)⟩;rw[ZK cI jN.mem];rw[<-hv,sub,Cw]at aY;split at aY;·simpa using aY
 ·cases aY
def aM{r:fG}{R:List fG}(h:r∈R):aH r R:=⟨r,h,.mW⟩
def mB(R:List fG):∀r∈R,aH r R:=λ_ h=>aM h
def lJ{v:Value}{E:List a5}{G:List fG}(h:∀c n a w,nU n t a->dL c L R w->(results fn a.tmps).run P w=.ok v w)(hp:Post v E G)(c2:E.Sublist L)(bD:∀r∈G,aH r R):e5 P fn Post .ret t L R:=
 ⟨v,E,G,h,hp,c2,bD⟩
def Sb{v:Value}{E:List a5}{G:List fG}(h:∀c n a w,nU n t a->dL c L R w->(results fn a.tmps).run P w=.ok v w)(hp:Post v E G)(c2:E.Sublist L)(bD:∀r∈G,aH r R):e5 P fn Post .normal t L R:=
 ⟨v,E,G,h,hp,c2,bD⟩
end
section
variable{P:Program}{n:Nat}{all:Array Oper}{op:Op}{ty:TypeId}{pos:String}{after:Array Edge}{aB:List Oper}{t:Nat->Value}{L:List a5}{R:List fG}{Q:gA}{d:Tmp}{v:Value}
def aKr(hv:cJ P ⟨some d,op,ty,pos,after,none⟩ (h9 t) L R v)(hd:Nat.blt d n=true)(h:c6 P n all aB (j1 t d v) L R Q):c6 P n all (⟨some d,op,ty,pos,after,none⟩::aB) t L R Q:=
 aPs hv rfl hd h
def aG(hv:cJ P ⟨some d,op,ty,pos,after,none⟩ (h9 t) L R v)(h:c6 P n all aB (j1 t d v) L R Q)(hd:Nat.blt d n=true:=by exact rfl):c6 P n all (⟨some d,op,ty,pos,after,none⟩::aB) t L R Q:=aKr (hv:=hv) (hd:=hd) (h:=h)
def gO{Post:oY}(hg:eD P ⟨some d,op,ty,pos,after,none⟩ (h9 t) L R Post)(hd:Nat.blt d n=true)(h:∀v E G,Post v E G->c6 P n all aB (j1 t d v) E G Q):c6 P n all (⟨some d,op,ty,pos,after,none⟩::aB) t L R Q:=
 a3P hg rfl hd h
def i4{Post:oY}(hg:eD P ⟨none,op,ty,pos,after,none⟩ (h9 t) L R Post)(h:∀v E G,Post v E G->c6 P n all aB t E G Q):c6 P n all (⟨none,op,ty,pos,after,none⟩::aB) t L R Q:=
 a3P hg rfl rfl h
end
def V8(j:Nat)(qG:Bool)(l:List Oper):List Oper:=
 l.map λo=>match o.guard with
  |some (k,w)=>bif Nat.beq k j && (w==qG)then{o with guard:=none}else o
  |none=>o
def Z9(all:Array Oper)(j:Nat)(qG:Bool)(a7:Nat):List Nat->List Oper->Bool
 |_,[]=>true
 |ds,o::l=>
  (match o.guard with
   |some (k,w)=>(Nat.beq k j && (w==qG))||(match(all[k]?).bind (·.dst)with
    |some d=>AA d ds
    |none=>false)
   |none=>false) &&
  (match o.dst with
   |some d=>!Nat.beq d a7 && Z9 all j qG a7 (d::ds) l
   |none=>Z9 all j qG a7 ds l)
def H6:List Oper->List Nat
 |[]=>[]
 |o::l=>match o.dst with
  |some d=>d::H6 l
  |none=>H6 l
def e8(ws:List Nat)(t:Nat->Value)(x:Operand)(v:Bool)(L:List a5)(R:List fG):gA
 | .normal,t',E,G=>h9 t' x=.bool v/\E=L/\G=R/\lD ws t t'
 |_,_,_,_=>False
def TQ{P:Program}{o:Oper}{bA:Operand->Value}{a:Act}{next:Act->World->Prop}{Q:Exit->Act->World->Prop}{w w':World}{v:Value}(h:(execOp bA o).run P w=.ok (.value v) w')(k:next (a.put o.dst v) w'):o.upon P a next Q ((execOp bA o).run P w):=by rw[h];exact k
def aNC{P:Program}{o:Oper}{bA:Operand->Value}{a:Act}{next:Act->World->Prop}{Q:Exit->Act->World->Prop}{w w':World}(h:(execOp bA o).run P w=.ok .skip w')(k:next (a.put o.dst undef) w'):o.upon P a next Q ((execOp bA o).run P w):=by rw[h];exact k
def dL.alloc{c:y7}{L:List a5}{R:List fG}{w:World}(h:dL c L R w)(cs:Array Value)(T:TypeId):dL c (⟨w.heap.size,cs.toList,T⟩::L) R (w.alloc (.cells cs T)):=by
 obtain⟨⟨aC,bX,hg⟩,ho,hk⟩:=h;have qV:∀b,b<w.heap.size->(w.alloc (.cells cs T)).heap[b]?=w.heap[b]?:=λb hb=>by exact aHM
 refine⟨⟨aC,⟨?_,?_,?_,λb hb=>?_,λr M=>(bX.p3 r M).mono (λ_ h=>h) (λb hb=>qV b (bX.tH b hb))⟩,hg⟩,?_,⟨hk.os,hk.tape,hk.output,?_,λb hb hn=>?_,λa=>?_⟩⟩;·simp only[y3,YO];refine⟨λhm=>?_,bX.nR⟩;obtain⟨e,X,hb⟩:=List.mem_map.1 hm;have:=bX.lt X;omega
 ·
  intro e X;rcases List.mem_cons.1 X with rfl|X;·show(w.heap.push _)[w.heap.size]? =_;simp[VQ.Vr]
  ·rw[qV _ (bX.lt X)];exact bX.own e X
 ·
  intro e X;rcases List.mem_cons.1 X with rfl|X;·exact λh=>absurd (bX.tH _ h) (Nat.lt_irrefl _)
  ·exact bX.u7 e X
 ·have:=bX.tH b hb;simp;omega
 ·
  intro e X;rcases List.mem_cons.1 X with rfl|X;·exact .inr hk.size
  ·exact ho e X
 ·have:=hk.size;simp;omega
 ·rw[qV b (a2M hb hk.size)];exact hk.block b hb hn
 ·rw[RowKit.frozen?_alloc_cells];exact hk.KV a
def dL.drew{c:y7}{L:List a5}{R:List fG}{w:World}(h:dL c L R w):dL c L R w.drew:=by obtain⟨⟨aC,bX,hg⟩,ho,hk⟩:=h;exact⟨⟨aC,⟨bX.nR,bX.own,bX.u7,bX.tH,λr M=>tW.mono (w:=w) (w':=w.drew) (aC:=aC) (λ_ h=>h) (λ_ _=>rfl) (bX.p3 r M)⟩,hg⟩,ho,⟨hk.os,hk.tape,hk.output,hk.size,hk.block,hk.KV⟩⟩
inductive uS(b:Nat)(cs:List Value)(T:TypeId)(gH:List Value):List a5->List a5->Prop
 |mW {L}:uS b cs T gH (⟨b,cs,T⟩::L) (⟨b,gH,T⟩::L)
 |cons {x L E} (h:uS b cs T gH L E):uS b cs T gH (x::L) (x::E)
 |xJ {fQ L E} (h:uS b cs T gH L E):uS b cs T gH (fQ++L) (fQ++E)
def uS.mem{b cs T gH L E}(h:uS b cs T gH L E):(⟨b,cs,T⟩:a5)∈L:=by
 induction h with
 |mW=>simp
 |cons _ cM=>exact PL _ cM
 |xJ _ cM=>exact mA _ cM
def uS.l2{b cs T gH L E}(h:uS b cs T gH L E):E.map (·.b)=L.map (·.b):=by
 induction h with
 |mW=>rfl
 |cons _ cM=>simp[cM]
 |xJ _ cM=>simp[cM]
def uS.nB{b cs T gH L E}(h:uS b cs T gH L E):∀e∈E,e=⟨b,gH,T⟩\/e∈L:=by
 induction h with
 |mW=>intro e X;rcases List.mem_cons.1 X with h|h;exact .inl h;exact .inr (PL _ h)
 |cons _ cM=>intro e X;rcases List.mem_cons.1 X with h|h;exact .inr (by rw[h];simp);exact(cM e h).imp id (PL _)
 |xJ _ cM=>intro e X;rcases List.mem_append.1 X with h|h;exact .inr (sI _ h);exact(cM e h).imp id (mA _)
def b4i(w:World)(g:Nat)(cs:Array Value)(a:Addr):(w.setRow g cs).frozen? a=w.frozen? a:=by
 by_cases h:a.block=g;·
  subst h;unfold World.frozen?;cases hb:w.heap[a.block]? with
  |none=>simp[World.setRow,Array.getElem?_modify,hb]
  |some o=>cases o<;>simp[World.setRow,Array.getElem?_modify,hb]
 ·exact aH0 (w:=w) (setRow_other w g _ cs h)
def dL.setRow{c:y7}{L E:List a5}{R:List fG}{w:World}{b:Nat}{cs gH:List Value}{T:TypeId}(h:dL c L R w)(c4:uS b cs T gH L E):dL c E R (w.setRow b gH.toArray):=by
 obtain⟨⟨aC,bX,hg⟩,ho,hk⟩:=h;have hb:=bX.own _ c4.mem;have aSB:=bX.u7 _ c4.mem;have bFT:(E.map (·.b)).Nodup:=by rw[c4.l2];exact bX.nR
 -- an entry of M with the number b is the new one
 have aHx:∀e∈E,e.b=b->e=⟨b,gH,T⟩:=by
  have:∀{L E:List a5},uS b cs T gH L E->(L.map (·.b)).Nodup->∀e∈E,e.b=b->e=⟨b,gH,T⟩:=by
   intro L E c4;induction c4 with
   |mW=>
    intro nR e X hb;rcases List.mem_cons.1 X with h|h;·exact h
    ·simp only[y3,YO]at nR;exact absurd (List.mem_map.2 ⟨e,h,hb⟩) nR.1
   |cons c4 cM=>
    intro nR e X hb;simp only[y3,YO]at nR;rcases List.mem_cons.1 X with h|h;·refine absurd (List.mem_map.2 ⟨_,c4.mem, ?_⟩) nR.1;rw[<-h];exact hb.symm
    ·exact cM nR.2 e h hb
   |xJ c4 cM=>
    intro nR e X hb;rw[wP,Wv]at nR;rcases List.mem_append.1 X with h|h;·exact absurd hb (nR.2.2 e.b (List.mem_map.2 ⟨e,h,rfl⟩) b (List.mem_map.2 ⟨_,c4.mem,rfl⟩))
    ·exact cM nR.2.1 e h hb
  exact this c4 bX.nR
 refine⟨⟨aC,⟨bFT,λe X=>?_,λe X=>?_,λx K=>by simpa using bX.tH x K,λr M=>(bX.p3 r M).mono (λ_ h=>h) (λx K=>setRow_other w b x _ (λe=>aSB (e▸K)))⟩,hg⟩,λe X=>?_,⟨hk.os,hk.tape,hk.output,by simpa using hk.size,λx K hn=>?_,λa=>?_⟩⟩;·
  by_cases Nk:e.b=b;·rw[aHx e X Nk];exact setRow_heap w b _ _ T _ hb
  ·
   rw[setRow_other w b _ _ Nk];rcases c4.nB e X with h|h;·exact absurd (by rw[h]) Nk
   ·exact bX.own e h
 ·
  rcases c4.nB e X with h|h;·rw[h];exact aSB
  ·exact bX.u7 e h
 ·
  rcases c4.nB e X with h|h;·have:=ho _ c4.mem;rw[h];exact this
  ·exact ho e h
 ·
  by_cases Hw:x=b;·
   subst Hw;rcases ho _ c4.mem with h|h;·exact absurd h hn
   ·exact absurd h (Nat.not_le.2 K)
  ·rw[setRow_other w b x _ Hw];exact hk.block x K hn
 ·rw[b4i];exact hk.KV a
section
variable{P:Program}{bA:Operand->Value}{L E:List a5}{R:List fG}{dst:Option Tmp}{ty:TypeId}{pos:String}{after:Array Edge}{guard:Option (Nat×Bool)}(O:pP P){T:TypeId}{x y:Operand}
def aLl{k n Z g5 z}(dN:hT O.g2 T=some ⟨k,n,Z,g5,z⟩):
 eD P ⟨dst,.alloc T,ty,pos,after,guard⟩ bA L R (λv E G=>∃b,v=.pointer (some ⟨b,0,none⟩)/\E=⟨b,z,T⟩::L/\G=R):=by
 intro c w hs a next Q hB
 obtain⟨qJ,zO,HP⟩:=Yr (O.ok _ _ dN) w;simp only at HP;refine TQ (w':=w.alloc (.cells qJ.cells T)) (v:=.pointer (some ⟨w.heap.size,0,none⟩)) ?_ (hB _ _ _ _ ⟨w.heap.size,rfl,rfl,rfl⟩ ?_);·simp[execOp,Instr.alloc,zO,newVar,newRow]
 ·rw[<-HP];exact hs.alloc _ _
def b2c{v:Value}(K:bA x=v)(N:v.oneCell'=true):
 eD P ⟨dst,.box T x,ty,pos,after,guard⟩ bA L R (λu E G=>∃b,u=.pointer (some ⟨b,0,none⟩)/\E=⟨b,[v],T⟩::L/\G=R):=by
 intro c w hs a next Q hB
 have hc:v.cells=#[v]:=by cases v<;>first|rfl|(simp[Value.oneCell']at N)
 refine TQ (w':=w.alloc (.cells #[v] T)) (v:=.pointer (some ⟨w.heap.size,0,none⟩)) ?_ (hB _ _ _ _ ⟨w.heap.size,rfl,rfl,rfl⟩ (hs.alloc _ _));simp[execOp,K,Instr.box,newVar,newRow,hc]
def b8V{row:List Value}(K:bA x=.agg row.toArray):
 eD P ⟨dst,.box T x,ty,pos,after,guard⟩ bA L R (λu E G=>∃b,u=.pointer (some ⟨b,0,none⟩)/\E=⟨b,row,T⟩::L/\G=R):=by
 intro c w hs a next Q hB
 refine TQ (w':=w.alloc (.cells row.toArray T)) (v:=.pointer (some ⟨w.heap.size,0,none⟩)) ?_ (hB _ _ _ _ ⟨w.heap.size,rfl,rfl,rfl⟩ (hs.alloc _ _));simp[execOp,K,Instr.box,newVar,newRow,Value.cells]
def aC0{c:y7}{w:World}(hs:dL c L R w){b o:Nat}{cs vs:List Value}{n5:TypeId}{jB:jT}(dN:H4 P T=some jB)(hn:vs.length=jB.PF)(c4:uS b cs n5 (cs.take o++vs++cs.drop (o+vs.length)) L E)
 (pV:o+vs.length<=cs.length) (N:∀v∈vs,v.oneCell'=true) {val:Value} (hv:val.cells=vs.toArray):
 (storeVar T ⟨b,o,none⟩ val).run P w=.ok () (w.setRow b (cs.take o++vs++cs.drop (o+vs.length)).toArray):=by
 have hb:w.heap[b]?=some (.cells cs.toArray n5 (0,0)):=by obtain⟨⟨aC,bX,_⟩,_,_⟩:=hs;exact bX.own _ c4.mem
 have cI:=run_storeCells_at P b o n5 vs 0 cs.toArray w hb (by simpa using pV) N;simp only[Nat.add_zero]at cI;simp only[storeVar,y5,run_sizeOf dN,wO,hv];simp[hn,cI]
def aJs{k n Z g5 z b o}{cs vs gH:List Value}{n5:TypeId}(dN:hT O.g2 T=some ⟨k,n,Z,g5,z⟩)(K:bA x= .pointer (some ⟨b,o,none⟩))(aN:bA y= .agg vs.toArray)(hn:vs.length=n)
 (c4:uS b cs n5 gH L E) (pV:Nat.ble (o+vs.length) cs.length=true) (rS:cs.take o++vs++cs.drop (o+vs.length)=gH) (N:vs.all (·.oneCell')=true):
 eD P ⟨none,.store T x y,ty,pos,after,guard⟩ bA L R (λ_ iM G=>iM=E/\G=R):=by
 intro c w hs a next Q hB
 subst rS;have:=aC0 (P:=P) hs (O.ok _ _ dN) hn c4 (LM pV) (List.all_eq_true.1 N) (val:=.agg vs.toArray) rfl;exact aWJ
def aLw(cs:List Value)(o:Nat)(v:Value)(h:o<cs.length):cs.take o++[v]++cs.drop (o+1)=cs.set o v:=by rw[List.set_eq_take_append_cons_drop,if_pos h];simp
def aQz{k n Z g5 z b o}{cs gH:List Value}{v:Value}{n5:TypeId}(dN:hT O.g2 T=some ⟨k,n,Z,g5,z⟩)(K:bA x= .pointer (some ⟨b,o,none⟩))(aN:bA y=v)(hn:n=1)
 (c4:uS b cs n5 gH L E) (pV:Nat.blt o cs.length=true) (rS:cs.set o v=gH) (N:v.oneCell'=true):
 eD P ⟨none,.store T x y,ty,pos,after,guard⟩ bA L R (λ_ iM G=>iM=E/\G=R):=by
 intro c w hs a next Q hB
 have jH:o<cs.length:=by simpa using pV
 subst rS;rw[<-aLw cs o v jH]at c4;have hc:v.cells=#[v]:=by cases v<;>first|rfl|(simp[Value.oneCell']at N)
 have:=aC0 (P:=P) (vs:=[v]) hs (O.ok _ _ dN) (by simp[hn]) c4 (by simpa using Nat.succ_le_of_lt jH) a21 hc;exact aWJ
def ZI:List Value->Nat->List Value->List Value
 |cs,_,[]=>cs
 |cs,o,v::vs=>ZI (cs.set o v) (o+1) vs
def Yx(Z:List (Nat×Nat))(cs:List Value):List (Nat×List Value)->Option (List Value)
 |[]=>some cs
 |(i,vs)::aB=>match Z[i]? with
  |some (off,size)=>bif Nat.beq vs.length size && Nat.ble (off+vs.length) cs.length then Yx Z (ZI cs off vs) aB else none
  |none=>none
def aCa: ∀(vs:List Value) (off j:Nat) (cs:Array Value),(vs.zipIdx j).foldl (λcs (p:Value×Nat)=>cs.setIfInBounds (off+p.2) p.1) cs=(ZI cs.toList (off+j) vs).toArray
 |[],_,_,cs=>by simp[ZI]
 |v::vs,off,j,cs=>by
  simp only[List.zipIdx_cons,List.foldl_cons,ZI]
  rw[aCa vs off (j+1)]
  simp[a2K]
def aKX(Z:List (Nat×Nat))(a2u:Nat->Option (Nat×Nat))(hp:∀i,a2u i=Z[i]?):∀(parts:List (Nat×Value)) (cs:List Value) (cU:List Value),
 Yx Z cs (parts.map λp=>(p.1,p.2.cells.toList))=some cU->Instr.fill a2u cs.toArray parts=some cU.toArray
 |[],cs,cU,h=>by simp only[Cy,Yx,Qi]at h;simp[Instr.fill,h]
 |(i,v)::aB,cs,cU,h=>by
  simp only[y3,Yx]at h
  simp only[Instr.fill,hp]
  cases hf:Z[i]? with
  |none=>rw[hf]at h;cases h
  |some p=>
   obtain⟨off,size⟩:=p
   rw[hf]at h
   simp only at h
   cases hb:(Nat.beq v.cells.toList.length size && Nat.ble (off+v.cells.toList.length) cs.length)with
   |false=>rw[hb]at h;cases h
   |true=>
    rw[hb,cond_true]at h
    simp only[oS,Iz,Nat.ble_eq,aH5]at hb
    have:=aKX Z a2u hp aB _ cU h
    simp only
    rw[if_neg (by simp[hb.1];omega)]
    have eC:v.cells.zipIdx.foldl (λcs (x:Value×Nat)=>cs.setIfInBounds (off+x.2) x.1) cs.toArray=(ZI cs off v.cells.toList).toArray:=by
     rw[<-Array.foldl_toList]
     have:=aCa v.cells.toList off 0 cs.toArray
     simpa using this
    rw[show(v.cells.zipIdx.foldl (λcs (c,j)=>cs.setIfInBounds (off+j) c) cs.toArray)=(ZI cs off v.cells.toList).toArray from eC]
    exact this
def a0W(bA:Operand->Value):List (Nat×Operand)->List (Nat×List Value)
 |[]=>[]
 |(i,x)::l=>(i,(bA x).cells.toList)::a0W bA l
def aLn(bA:Operand->Value)(l:List (Nat×Operand)):a0W bA l=(l.map λp=>(p.1,bA p.2)).map λp=>(p.1,p.2.cells.toList):=by
 induction l with
 |nil=>rfl
 |cons p l cM=>obtain⟨i,x⟩:=p;simp[a0W,cM]
def b83(w:World):∀(l:List Field),(∀f∈l,((P.info? f.type).map (·.size)).getD 0≠0)->
 (l.mapM λf=>(do pure (f.offset,<-sizeOf f.type):Sem (Nat×Nat))).run P w=.ok (l.map λf=>(f.offset,((P.info? f.type).map (·.size)).getD 0)) w:=by
 intro l;induction l with
 |nil=>intro _;simp
 |cons f l cM=>
  intro hl;have N:=hl f fX;cases aY:P.info? f.type with
  |none=>rw[aY]at N;simp at N
  |some j=>have bFt:=cM λg hg=>hl g (by simp[hg]);(have hs:(sizeOf f.type).run P w=.ok j.size w:=by simp[sizeOf,typeInfo,aY]);rw[List.mapM_cons];simp only[y5,hs,wO,NL,bFt,y3,aY,Jc,aIg]
def mI{n Z g5 z}{ps:List (Nat×Operand)}{hN:List (Nat×List Value)}{cU:List Value}(dN:hT O.g2 T=some ⟨.struct,n,Z,g5,z⟩)(aGQ:Z.all (λp=>!Nat.beq p.2 0)=true)(hq:a0W bA ps=hN)(hf:Yx Z z hN=some cU):
 cJ P ⟨dst,.build T ps.toArray,ty,pos,after,guard⟩ bA L R (.agg cU.toArray):=λ_ w _=>by
 obtain⟨uE,c4,fW⟩:=aAg (O.ok _ _ dN) rfl
 obtain⟨qJ,zO,HP⟩:=Yr (O.ok _ _ dN) w
 simp only at fW HP
 subst hq
 rw[aLn]at hf
 have sB:∀f∈uE.toList,((P.info? f.type).map (·.size)).getD 0≠0:=by
  intro f hm bQ
  rw[fW,List.all_map,List.all_eq_true]at aGQ
  have:=aGQ f hm
  simp[bQ]at this
 have eB:=b83 (P:=P) w uE.toList sB
 rw[<-fW]at eB
 have aEZ:=aKX Z (λi=>Z.toArray[i]?) (λi=>by simp) (ps.map λp=>(p.1,bA p.2)) z cU hf
 have bFl:qJ.cells=z.toArray:=by rw[<-HP]
 have aFo:(ps.toArray.map λ(p:Nat×Operand)=>(p.1,bA p.2)).toList=ps.map λp=>(p.1,bA p.2):=by simp
 have vP:uE=uE.toList.toArray:=by simp
 have hm:(uE.mapM λf=>(do pure (f.offset,<-sizeOf f.type):Sem (Nat×Nat))).run P w=.ok Z.toArray w:=by
  rw[vP,List.mapM_toArray]
  simp only[Sem.run_map,eB,wO]
 have aE5:(Instr.build T (ps.toArray.map λ(p:Nat×Operand)=>(p.1,bA p.2))).run P w=.ok (.agg cU.toArray) w:=by
  unfold Instr.build
  simp only[y5,zO,wO,run_underlying c4,hm,bFl,aFo]
  rw[aEZ]
  simp
 show(execOp bA ⟨dst,.build T ps.toArray,ty,pos,after,guard⟩).run P w=_
 have e:execOp bA ⟨dst,.build T ps.toArray,ty,pos,after,guard⟩=(do pure (.value (<-Instr.build T (ps.toArray.map λ(p:Nat×Operand)=>(p.1,bA p.2))))):=rfl
 rw[e]
 simp only[y5,aE5,wO]
 rfl
end
section
variable{P:Program}{n:Nat}{all:Array Oper}{ty:TypeId}{pos:String}{after:Array Edge}{aB:List Oper}{t:Nat->Value}{L E:List a5}{R:List fG}{Q:gA}{d:Tmp}(O:pP P){T:TypeId}{x y:Operand}
def aKe{f:FuncId}{xs:List Operand}{rG:Array TypeId}{args:List Value}{Post:oY}(ha:xs.map (h9 t)=args)(h:aI P f args.toArray L R Post)(hd:Nat.blt d n=true)
 (k:∀v E G,Post v E G->c6 P n all aB (j1 t d v) E G Q):c6 P n all (⟨some d,.call ⟨.value (.func f),xs.toArray,rG⟩,ty,pos,after,none⟩::aB) t L R Q:=
 gO (a0A a9b rfl h) hd k
def cK{f:FuncId}{xs:List Operand}{rG:Array TypeId}{Post:oY}(h:aI P f (xs.map (h9 t)).toArray L R Post)(k:∀v E G,Post v E G->c6 P n all aB (j1 t d v) E G Q)(hd:Nat.blt d n=true:=by exact rfl):c6 P n all (⟨some d,.call ⟨.value (.func f),xs.toArray,rG⟩,ty,pos,after,none⟩::aB) t L R Q:=aKe (ha:=rfl) (h:=h) (hd:=hd) (k:=k)
def b7d{k m Z g5 z}(dN:hT O.g2 T=some ⟨k,m,Z,g5,z⟩)(hd:Nat.blt d n=true)
 (h:∀b,c6 P n all aB (j1 t d (.pointer (some ⟨b,0,none⟩))) (⟨b,z,T⟩::L) R Q):c6 P n all (⟨some d,.alloc T,ty,pos,after,none⟩::aB) t L R Q:=
 gO (aLl O dN) hd λv E G ⟨b,dY,eY,nV⟩=>by subst dY;subst eY;subst nV;exact h b
def aAp{v:Value}(K:h9 t x=v)(N:v.oneCell'=true)(hd:Nat.blt d n=true)
 (h:∀b,c6 P n all aB (j1 t d (.pointer (some ⟨b,0,none⟩))) (⟨b,[v],T⟩::L) R Q):c6 P n all (⟨some d,.box T x,ty,pos,after,none⟩::aB) t L R Q:=
 gO (b2c K N) hd λv E G ⟨b,dY,eY,nV⟩=>by subst dY;subst eY;subst nV;exact h b
def b8y{row:List Value}(K:h9 t x= .agg row.toArray)(hd:Nat.blt d n=true)
 (h:∀b,c6 P n all aB (j1 t d (.pointer (some ⟨b,0,none⟩))) (⟨b,row,T⟩::L) R Q):c6 P n all (⟨some d,.box T x,ty,pos,after,none⟩::aB) t L R Q:=
 gO (b8V K) hd λv E G ⟨b,dY,eY,nV⟩=>by subst dY;subst eY;subst nV;exact h b
def Sn{k m Z g5 z b o}{cs gH:List Value}{v:Value}{n5:TypeId}(dN:hT O.g2 T=some ⟨k,m,Z,g5,z⟩)(K:h9 t x= .pointer (some ⟨b,o,none⟩))(aN:h9 t y=v)(hn:m=1)
 (c4:uS b cs n5 gH L E) (pV:Nat.blt o cs.length=true) (rS:cs.set o v=gH) (N:v.oneCell'=true)
 (h:c6 P n all aB t E R Q):c6 P n all (⟨none,.store T x y,ty,pos,after,none⟩::aB) t L R Q:=
 i4 (aQz O dN K aN hn c4 pV rS N) λ_ iM G ⟨dY,eY⟩=>by subst dY;subst eY;exact h
def PW{k m Z g5 z b o}{cs vs gH:List Value}{n5:TypeId}(dN:hT O.g2 T=some ⟨k,m,Z,g5,z⟩)(K:h9 t x= .pointer (some ⟨b,o,none⟩))(aN:h9 t y= .agg vs.toArray)(hn:vs.length=m)
 (c4:uS b cs n5 gH L E) (pV:Nat.ble (o+vs.length) cs.length=true) (rS:cs.take o++vs++cs.drop (o+vs.length)=gH) (N:vs.all (·.oneCell')=true)
 (h:c6 P n all aB t E R Q):c6 P n all (⟨none,.store T x y,ty,pos,after,none⟩::aB) t L R Q:=
 i4 (aJs O dN K aN hn c4 pV rS N) λ_ iM G ⟨dY,eY⟩=>by subst dY;subst eY;exact h
def b3P{k m Z g5 z b}{cs vs:List Value}{n5:TypeId}(dN:hT O.g2 T=some ⟨k,m,Z,g5,z⟩)(K:h9 t x= .pointer (some ⟨b,0,none⟩))(aN:h9 t y= .agg vs.toArray)(hn:vs.length=m)
 (c4:uS b cs n5 vs L E) (pV:vs.length=cs.length) (N:vs.all (·.oneCell')=true)
 (h:c6 P n all aB t E R Q):c6 P n all (⟨none,.store T x y,ty,pos,after,none⟩::aB) t L R Q:=
 PW O dN K aN hn c4 (by simp[pV]) (by simp[pV]) N h
end
def Oper.wp_put{P:Program}{o:Oper}{a:Act}{w:World}{fO:Act->World->Prop}{Q:Exit->Act->World->Prop}(h:o.wp P a w fO Q):
 o.wp P a w (λfE w'=>fO fE w'/\∃v,fE.tmps=(a.put o.dst v).tmps) Q:=by
 unfold Oper.wp at*;generalize (execOp a.eval o).run P w=r at*;cases r with
 |ok x w'=>
  cases x<;>simp only[Oper.upon]at h|- <;>
   first
    |exact⟨h,_,rfl⟩
    |exact Calls.mono h (λe a2H X=>by cases e<;>first|exact⟨X,_,rfl⟩|exact X)
    |exact Rows.mono h (λ_ _ X=>⟨X,_,rfl⟩)
    |exact h
    |skip
  case defer d=>exact⟨h,undef,by cases o.dst<;>rfl⟩
 |halt x w'=>cases x<;>exact h
def aB7{P:Program}{all:Array Oper}{j:Nat}{qG:Bool}{a7:Nat}{Q N3:Exit->Act->World->Prop}{tail:List Oper}(aY:(all[j]?).bind (·.dst)=some a7)
 (T3:∀e a w,e≠.normal->Q e a w->N3 e a w) (dN:∀a w,Q .normal a w->wpList P all N3 tail a w):
 ∀(aC:List Oper) (ds:List Nat),Z9 all j qG a7 ds aC=true->∀(a:Act) (w:World),a.tmps[a7]?=some (.bool qG)->
  wpList P all Q (V8 j qG aC) a w->wpList P all N3 (aC++tail) a w
 |[],_,_,a,w,_,h=>dN a w h
 |o::aC,ds,hok,a,w,hc,h=>by
  simp only[Z9,oS]at hok
  obtain⟨hg,DF⟩:=hok
  have bFg:yielded all a.tmps j=some qG:=by
   unfold yielded
   rw[aY]
   simp[hc]
  -- the stripped operation runs as the operation itself
  have a7t:∃o',V8 j qG (o::aC)=o'::V8 j qG aC/\o'.op=o.op/\o'.dst=o.dst/\o'.type=o.type/\Region.wanted o' (yielded all a.tmps)=Region.wanted o (yielded all a.tmps):=by
   cases Hb:o.guard with
   |none=>exact⟨o,by simp[V8,Hb],rfl,rfl,rfl,rfl⟩
   |some p=>
    obtain⟨k,sH⟩:=p
    cases hb:(Nat.beq k j && (sH==qG))with
    |false=>exact⟨o,by simp[V8,Hb,hb],rfl,rfl,rfl,rfl⟩
    |true=>
     simp only[oS,Iz,beq_iff_eq]at hb
     refine⟨{o with guard:=none},by simp[V8,Hb,hb.1,hb.2],rfl,rfl,rfl,?_⟩
     simp[Region.wanted,Hb,hb.1,hb.2,bFg]
  obtain⟨o',dY,eY,nV,AE,Af⟩:=a7t
  rw[dY]at h
  have next:∀(fE:Act) (w':World) (v:Value),fE.tmps=(a.put o.dst v).tmps->wpList P all Q (V8 j qG aC) fE w'->wpList P all N3 (aC++tail) fE w':=by
   intro fE w' v hv cN
   have Gs:fE.tmps[a7]?=some (.bool qG):=by
    rw[hv]
    cases hd:o.dst with
    |none=>exact hc
    |some d=>
     rw[hd]at DF
     simp only[oS,a2N]at DF
     have iO:d≠a7:=λe=>by rw[e]at DF;simp at DF
     simp only[Act.put]
     rw[a2O iO]
     exact hc
   cases hd:o.dst with
   |none=>rw[hd]at DF;exact aB7 aY T3 dN aC ds DF fE w' Gs cN
   |some d=>rw[hd]at DF;simp only[oS]at DF;exact aB7 aY T3 dN aC _ DF.2 fE w' Gs cN
  have XR:∀a:Act,execOp a.eval o'=execOp a.eval o:=by
   intro a
   obtain⟨tM,bGl,bGm,op,bGh,bGi⟩:=o
   obtain⟨lO,bKL,yY,r0,EI,bKK⟩:=o'
   simp only at eY nV AE
   subst eY;subst nV;subst AE
   rfl
  simp only[oF]
  unfold wpList at h|-
  rw[Af]at h
  split
  ·rename_i cV
   rw[if_pos cV]at h
   rcases h with h|⟨h,V⟩
   ·refine .inl ?_
    have cN:=Oper.wp_put h
    unfold Oper.wp at cN|-
    rw[XR]at cN
    generalize (execOp a.eval o).run P w=r at*
    cases r with
    |ok x w'=>
     cases x<;>simp only[Oper.upon,nV]at cN|- <;>
      first
       |(obtain⟨N,v,hv⟩:=cN;exact next _ _ v hv N)
       |exact cN
       |skip
     case enter f args=>
      refine Calls.mono cN λe a2H X=>?_
      cases e with
      |returned u=>obtain⟨N,v,hv⟩:=X;exact next _ _ v hv N
      |panicked c=>exact T3 _ _ _ fX X
      |outgrown=>obtain⟨I1,gX,X⟩:=X;exact⟨I1,gX,T3 _ _ _ fX X⟩
     case row row args=>exact Rows.mono cN λu a2H X=>by obtain⟨N,v,hv⟩:=X;exact next _ _ v hv N
    |halt x w'=>
     cases x<;>simp only[Oper.upon]at cN|- <;>first|exact cN|exact T3 _ _ _ fX cN
   ·refine .inr ⟨?_, ?_⟩
    ·unfold Oper.asks at*
     rw[XR]at h
     exact h
    ·obtain⟨I1,gX,X⟩:=V;exact⟨I1,gX,T3 _ _ _ fX X⟩
  ·rename_i cV
   rw[if_neg cV,nV]at h
   exact next _ _ undef rfl h
def aCV{P:Program}{all:Array Oper}{j:Nat}{qG:Bool}{a7:Nat}{N3:Exit->Act->World->Prop}{tail:List Oper}(aY:(all[j]?).bind (·.dst)=some a7):
 ∀(aC:List Oper) (ds:List Nat),Z9 all j qG a7 ds aC=true->∀(a:Act) (w:World),a.tmps[a7]?=some (.bool (!qG))->(∀d,AA d ds=true->a.tmps.getD d undef=undef)->
  (∀fE:Act,fE.defers=a.defers->fE.tmps.size=a.tmps.size->(∀d,AA d (H6 aC)=false->fE.tmps.getD d undef=a.tmps.getD d undef)->wpList P all N3 tail fE w)->wpList P all N3 (aC++tail) a w
 |[],_,_,a,w,_,_,h=>h a rfl rfl (λ_ _=>rfl)
 |o::aC,ds,hok,a,w,hc,pB,h=>by
  simp only[Z9,oS]at hok
  obtain⟨hg,DF⟩:=hok
  have cV:Region.wanted o (yielded all a.tmps)=false:=by
   cases Hb:o.guard with
   |none=>rw[Hb]at hg;cases hg
   |some p=>
    obtain⟨k,sH⟩:=p
    rw[Hb]at hg
    simp only[Qj,oS,Iz,beq_iff_eq]at hg
    unfold Region.wanted
    rw[Hb]
    rcases hg with⟨hk,Bv⟩|hg
    ·subst hk;subst Bv
     have:yielded all a.tmps k=some (!sH):=by unfold yielded;rw[aY];simp[hc]
     simp only[this]
     cases sH<;>rfl
    ·cases hd:(all[k]?).bind (·.dst)with
     |none=>rw[hd]at hg;cases hg
     |some d=>
      rw[hd]at hg
      have bQ:=pB d hg
      have:yielded all a.tmps k=none:=by
       unfold yielded
       rw[hd]
       simp only[Xa]
       rcases gY d a.tmps.size with cN|cN
       ·simp only[aIi,Array.getElem?_eq_getElem cN,aIg]at bQ
        rw[Array.getElem?_eq_getElem cN,bQ]
        rfl
       ·rw[LL cN]
      simp[this]
  simp only[oF]
  unfold wpList
  rw[cV,if_neg fX]
  cases hd:o.dst with
  |none=>
   rw[hd]at DF
   refine aCV aY aC ds DF a w hc pB ?_
   intro fE N V aQ
   exact h fE N V (by simpa[H6,hd]using aQ)
  |some d=>
   rw[hd]at DF
   simp only[oS,a2N]at DF
   have iO:d≠a7:=λe=>by have:=DF.1;rw[e]at this;simp at this
   refine aCV aY aC (d::ds) DF.2 _ w ?_ ?_ ?_
   ·simp only[Act.put]
    rw[a2O iO]
    exact hc
   ·intro x K
    simp only[Act.put]
    by_cases X5:x=d
    ·subst X5
     rcases gY x a.tmps.size with cN|cN
     ·simp[cN]
     ·simp[cN]
    ·simp only[AA,VX X5,cond_false]at K
     have:=pB x K
     simp only[aIi]at this|-
     rw[a2O (Cz X5)]
     exact this
   ·intro fE N V aQ
    refine h fE N (by rw[V];simp[Act.put]) (λx K=>?_)
    simp only[H6,hd,AA]at K
    have X5:x≠d:=λe=>by rw[e]at K;simp at K
    rw[VX X5,cond_false]at K
    rw[aQ x K]
    simp only[Act.put,aIi]
    rw[a2O (Cz X5)]
section
variable{P:Program}{n:Nat}{all:Array Oper}{ty:TypeId}{pos:String}{after:Array Edge}{aB:List Oper}{t:Nat->Value}{L E:List a5}{R:List fG}{Q:gA}{d:Tmp}{y:Operand}
def aOi{aC:List Oper}{j a7:Nat}{qG u v:Bool}{c:Bool}{Cu Cv LK:Operand}(aY:(all[j]?).bind (·.dst)=some a7)(HF:Nat.blt a7 n=true)(hok:Z9 all j qG a7 [] aC=true)(Od:AA a7 (H6 aC)=false)
 (hc:t a7=.bool c) (hd:Nat.blt d n=true)
 (aTz:(if qG then Cu else Cv)=LK/\(if qG then Cv else Cu)=.const (.bool u))
 (h:c=qG->c6 P n all (V8 j qG aC) t L R (e8 (H6 aC) t LK v L R))
 (k:∀bZ,c6 P n all aB (j1 (AH (H6 aC) t bZ) d (.bool (if c=qG then v else u))) L R Q):
 c6 P n all (aC++⟨some d,.pick (.tmp a7) Cu Cv,ty,pos,after,none⟩::aB) t L R Q:=by
 intro a0R a w hf hs;have bCi:a7<a.tmps.size:=by rw[hf.size];simpa using HF
 have aSG:a.tmps[a7]?=some (.bool c):=by have:=hf.val a7;rw[hc]at this;simpa[bCi]using this
 have XG:∀(fE:Act) (w':World) (t':Nat->Value) (b:Bool),nU n t' fE->dL a0R L R w'->lD (H6 aC) t t'->(if c then h9 t' Cu else h9 t' Cv)=.bool b->b=(if c=qG then v else u)->
  wpList P all (IH n a0R Q) (⟨some d,.pick (.tmp a7) Cu Cv,ty,pos,after,none⟩::aB) fE w':=by
  intro fE w' t' b AN uK ho hb e;have bCe:h9 t' (.tmp a7)=.bool c:=(ho a7 Od).trans hc;have aN:cJ P ⟨some d,.pick (.tmp a7) Cu Cv,ty,pos,after,none⟩ (h9 t') L R (.bool b):=by rw[<-hb];exact aLo bCe
  refine aKr aN hd ?_ a0R fE w' AN uK;rw[e];have:=k t';rwa[Yo ho]at this
 by_cases Um:c=qG;·
  subst Um;refine aB7 (Q:=IH n a0R (e8 (H6 aC) t LK v L R)) aY (λe a w iO hq=>?_) (λfE w' hq=>?_) aC [] hok a w aSG (h rfl a0R a w hf hs);·obtain⟨_,t',E,G,hq,_⟩:=hq;cases e<;>first|exact hq.elim|exact absurd rfl iO
  ·obtain⟨_,t',E,G,hq,AN,uK⟩:=hq;obtain⟨dY,eY,nV,AE⟩:=hq;subst eY;subst nV;refine XG fE w' t' v AN uK AE ?_ fX;rw[<-dY,<-aTz.1];cases c<;>rfl
 ·
  have bB9:a.tmps[a7]? =some (.bool (!qG)):=by rw[aSG];cases c<;>cases qG<;>simp_all
  refine aCV aY aC [] hok a w bB9 (λd hd=>by cases hd) (λfE N V aQ=>?_);refine XG fE w (λk=>fE.tmps.getD k undef) u ⟨N.trans hf.defers,V.trans hf.size,λ_=>rfl⟩ hs (λk hk=>(aQ k hk).trans (hf.val k)) ?_ (by rw[if_neg Um]);have:(if qG then Cv else Cu)=.const (.bool u):=aTz.2;cases c<;>cases qG<;>simp_all [h9]
def iZ{aC:List Oper}{j a7:Nat}{v c:Bool}{LK:Operand}(aY:(all[j]?).bind (·.dst)=some a7)(HF:Nat.blt a7 n=true)(hok:Z9 all j true a7 [] aC=true)(Od:AA a7 (H6 aC)=false)
 (hc:t a7=.bool c) (hd:Nat.blt d n=true) (h:c=true->c6 P n all (V8 j true aC) t L R (e8 (H6 aC) t LK v L R))
 (k:∀bZ,c6 P n all aB (j1 (AH (H6 aC) t bZ) d (.bool (c && v))) L R Q):
 c6 P n all (aC++⟨some d,.pick (.tmp a7) LK (.const (.bool false)),ty,pos,after,none⟩::aB) t L R Q:=
 aOi (qG:=true) (u:=false) aY HF hok Od hc hd ⟨rfl,rfl⟩ h (λbZ=>by have:=k bZ;cases c<;>exact this)
def cB{aC:List Oper}{j a7:Nat}{v c:Bool}{LK:Operand}(aY:(all[j]?).bind (·.dst)=some a7)(HF:Nat.blt a7 n=true)(hok:Z9 all j false a7 [] aC=true)(Od:AA a7 (H6 aC)=false)
 (hc:t a7=.bool c) (hd:Nat.blt d n=true) (h:c=false->c6 P n all (V8 j false aC) t L R (e8 (H6 aC) t LK v L R))
 (k:∀bZ,c6 P n all aB (j1 (AH (H6 aC) t bZ) d (.bool (c||v))) L R Q):
 c6 P n all (aC++⟨some d,.pick (.tmp a7) (.const (.bool true)) LK,ty,pos,after,none⟩::aB) t L R Q:=
 aOi (qG:=false) (u:=true) aY HF hok Od hc hd ⟨rfl,rfl⟩ h (λbZ=>by have:=k bZ;cases c<;>exact this)
def b6C{ws:List Nat}{k0:Nat->Value}{LK:Operand}{v:Bool}(N:h9 t LK=.bool v)(V:lD ws k0 t):e8 ws k0 LK v L R .normal t L R:=⟨N,rfl,rfl,V⟩
end
def dL.frame{F L E:List a5}{R G:List fG}{aC:Nat->Prop}{w w':World}(h:tS (F++L) aC R w)(k:dL ⟨w,zP L,aC⟩ E G w'):dL ⟨w,zP (F++L),aC⟩ (F++E) G w':=by
 obtain⟨⟨H1,bX,hg⟩,ho,hk⟩:=k;have u5:=h.nR;rw[wP,Wv]at u5;have aDp:∀e∈F,¬zP L e.b:=λe X ⟨vM,wG,hb⟩=>u5.2.2 e.b (List.mem_map.2 ⟨e,X,rfl⟩) vM.b (List.mem_map.2 ⟨vM,wG,rfl⟩) hb.symm;have aDr:∀e∈F,e.b<w.heap.size:=λe X=>h.lt (sI _ X);have bAJ:∀e∈F,¬aC e.b:=λe X=>h.u7 e (sI _ X);have bAN:∀e∈F,w'.heap[e.b]?=w.heap[e.b]?:=λe X=>hk.block e.b (aDr e X) (aDp e X);refine⟨⟨H1,⟨?_,λe X=>?_,λe X nW=>?_,bX.tH,bX.p3⟩,λb hb=>?_⟩,λe X=>?_,⟨hk.os,hk.tape,hk.output,hk.size,λb hb hn=>hk.block b hb (λaA=>hn ?_),hk.KV⟩⟩;·
  rw[wP,Wv];refine⟨u5.1,bX.nR,λx K y aN UT=>?_⟩;obtain⟨e,X,rfl⟩:=List.mem_map.1 K;obtain⟨vM,wG,rfl⟩:=List.mem_map.1 aN;rcases ho vM wG with N|N;·rw[<-UT]at N;exact aDp e X N
  ·rw[<-UT]at N;exact absurd (aDr e X) (Nat.not_lt.2 N)
 ·
  rcases List.mem_append.1 X with X|X;·rw[bAN e X];exact h.own e (sI _ X)
  ·exact bX.own e X
 ·
  rcases List.mem_append.1 X with X|X;·
   rcases hg e.b nW with N|N|N;·exact bAJ e X N
   ·exact absurd (aDr e X) (Nat.not_lt.2 N)
   ·exact aDp e X N
  ·exact bX.u7 e X nW
 ·
  rcases hg b hb with N|N|⟨e,X,N⟩;·exact .inl N
  ·exact .inr (.inl N)
  ·exact .inr (.inr ⟨e,mA _ X,N⟩)
 ·
  rcases List.mem_append.1 X with X|X;·exact .inl ⟨e,sI _ X,rfl⟩
  ·
   rcases ho e X with⟨vM,wG,N⟩|N;·exact .inl ⟨vM,mA _ wG,N⟩
   ·exact .inr N
 ·obtain⟨e,X,N⟩:=aA;exact⟨e,mA _ X,N⟩
def eD.frame{P op bA L R}{Post:oY}(h:eD P op bA L R Post)(F:List a5):eD P op bA (F++L) R (λv iM G=>∃E,iM=F++E/\Post v E G):=by
 intro c w hs a next Q k
 obtain⟨⟨aC,bX,hg⟩,ho,hk⟩:=hs;have c2:tS L aC R w:=⟨(List.nodup_append.1 (by have:=bX.nR;rwa[wP]at this)).2.1,λe X=>bX.own e (mA _ X),λe X=>bX.u7 e (mA _ X),bX.tH,bX.p3⟩;exact h ⟨w,zP L,aC⟩ w (dL.Cc c2) a next Q λv E G w' hp cI=>k v _ G w' ⟨E,rfl,hp⟩ (dL.trans ⟨⟨aC,bX,hg⟩,ho,hk⟩ hg (dL.frame bX cI))
def lF:Op->Nat
 | .alloc _=>1
 | .move _| .assign _| .pick .. | .build .. | .load .. | .nilCheck _| .binOp .. | .unOp .. | .convert .. | .slice .. | .fieldAddr .. | .field .. | .indexAddr .. | .index .. | .extract .. | .makeInterface ..=>0
 | .call c=>match c.callee with
  | .builtin .len| .builtin .cap| .builtin .min| .builtin .max=>0
  |_=>2
 |_=>2
def YQ{P:Program}(O:pP P)(T:TypeId):List Value:=match hT O.g2 T with
 |some jB=>jB.z
 |none=>[]
def dP(P:Program)(O:pP P)(n:Nat)(all:Array Oper)(cL:List a5)(fO:gA):List Oper->(Nat->Value)->List a5->List fG->Prop
 |[],t,L,R=>fO .normal t L R
 |o::aB,t,L,R=>XD n o.dst=true/\
  ((oH all t o.guard=false/\lF o.op≠1/\dP P O n all cL fO aB (z8 t o.dst undef) L R)\/
   (oH all t o.guard=true/\lF o.op=0/\∃v,cJ P o (h9 t) cL R v/\dP P O n all cL fO aB (z8 t o.dst v) L R)\/
   (lF o.op=1/\∃T,o.op=.alloc T/\∀b,dP P O n all cL fO aB (z8 t o.dst (.pointer (some ⟨b,0,none⟩))) (⟨b,YQ O T,T⟩::L) R)\/
   (oH all t o.guard=true/\lF o.op=2/\∃Post,eD P o (h9 t) L R Post/\∀v E G,Post v E G->cL.Sublist E/\(∀r∈R,aH r G)/\dP P O n all cL fO aB (z8 t o.dst v) E G))
def wZ(ops:Array Oper)(i:Nat):Nat:=match ops[i]? with
 |some o=>lF o.op
 |none=>3
def Yz(ops:Array Oper)(p:Nat->Bool)(done:Array Bool):Array Bool:=
 (Array.range ops.size).map λi=>done.getD i true||(Nat.beq (wZ ops i) 1 && p i)
def N6(ops:Array Oper)(done:Array Bool):List Nat->Bool
 |[]=>(Region.ready .any ops done).isEmpty
 |i::aB=>
  (Region.ready .any ops done).contains i &&
  (match wZ ops i with
   |0=>Region.free .any ops done i
   |1=>(Region.ready .any ops (Yz ops (λk=>!Nat.beq k i) done)).all λj=>Nat.beq (wZ ops j) 1
   |_=>(Region.ready .any ops (Yz ops (λ_=>true) done)).all λj=>Nat.beq j i) &&
  N6 ops (done.setIfInBounds i true) aB
def Lk{P:Program}(O:pP P)(n:Nat)(ops:Array Oper):Bool:=
 (List.range ops.size).all λi=>match ops[i]? with
  |some o=>match o.op with
   | .alloc T=>o.guard.isNone && (hT O.g2 T).isSome && (match o.dst with
    |some d=>Nat.blt d n && (List.range ops.size).all λj=>Nat.beq j i||match ops[j]? with
     |some mN=>mN.dst !=some d
     |none=>true
    |none=>false) && Region.free .any ops (Array.replicate ops.size false) i
   |_=>true
  |none=>true
structure JX where
 i:Nat
 d:Nat
 b:Nat
 T:TypeId
def EH(t:Nat->Value):List JX->Nat->Value
 |[]=>t
 |e::gQ=>j1 (EH t gQ) e.d (.pointer (some ⟨e.b,0,none⟩))
def Z4{P:Program}(O:pP P)(gQ:List JX):List a5:=gQ.map λe=>⟨e.b,YQ O e.T,e.T⟩
def aLX{P:Program}{aUk:Region.Mode}{ops:Array Oper}{Q:Exit->Act->World->Prop}{S Ej:World->Prop}(dW:∀w,Ej w->S w):∀(f:Nat) (l:Array Bool) (a:Act) (w:World),
 wpAnyH P aUk ops Q Ej f l a w->wpAnyH P aUk ops Q S f l a w
 |0,_,_,_,h=>h
 |f+1,_,_,_,h=>⟨h.1,λi aA=>wpOp_mono (λfE w' cN=>⟨dW _ cN.1,aLX dW f _ fE w' cN.2⟩) (h.2 i aA)⟩
structure YV{P:Program}(O:pP P)(n:Nat)(ops:Array Oper)(done dF:Array Bool)(gQ:List JX):Prop where
 size:dF.size=done.size
 dF:∀i d,dF.getD i d=true↔done.getD i d=true\/∃e∈gQ,e.i=i
 op:∀e∈gQ,∃o,ops[e.i]?=some o/\o.op=.alloc e.T/\o.dst=some e.d/\o.guard=none
 tG:∀e∈gQ,done.getD e.i true=false
 nR:(gQ.map (·.i)).Nodup
 a7M:(gQ.map (·.d)).Nodup
def b13{ops:Array Oper}{i:Nat}{NB:Oper}(aA:ops[i]? =some NB)(h:Region.free .any ops (Array.replicate ops.size false) i=true){j:Nat}{mN:Oper}(aY:ops[j]? =some mN)(iO:j≠i)
 (w6:∀e∈mN.after,Region.binds .any e=true->e.on≠i):NB.apart ops mN=true:=by refine a8E aA h j mN aY iO ?_ w6;have:j<ops.size:=(Array.getElem?_eq_some_iff.1 aY).1;simp[this]
section
variable{P:Program}{O:pP P}{n:Nat}{ops:Array Oper}{c:y7}{cL:List a5}{fO:gA}
def aC2(h:Lk O n ops=true){i:Nat}{o:Oper}{T:TypeId}(aA:ops[i]?=some o)(ho:o.op=.alloc T):
 o.guard=none/\(∃jB,hT O.g2 T=some jB)/\(∃d,o.dst=some d/\d<n/\∀j mN,ops[j]?=some mN->j≠i->mN.dst≠some d)/\Region.free .any ops (Array.replicate ops.size false) i=true:=by
 have N:=List.all_eq_true.1 h i (List.mem_range.2 (Array.getElem?_eq_some_iff.1 aA).1);simp only[aA,ho,oS,Option.isNone_iff_eq_none]at N;obtain⟨⟨⟨N,V⟩,aQ⟩,b7⟩:=N;refine⟨N,Option.isSome_iff_exists.1 V,?_,b7⟩;cases hd:o.dst with
 |none=>rw[hd]at aQ;cases aQ
 |some d=>rw[hd]at aQ;simp only[oS]at aQ;refine⟨d,rfl,by simpa using aQ.1,λj mN aY iO e=>?_⟩;have eG:=List.all_eq_true.1 aQ.2 j (List.mem_range.2 (Array.getElem?_eq_some_iff.1 aY).1);simp[aY,VX iO,e]at eG
def aBk{t:Nat->Value}{k:Nat}: ∀{gQ:List JX},(∀e∈gQ,e.d≠k)->EH t gQ k=t k
 |[],_=>rfl
 |e::gQ,h=>by
  have N:=h e fX
  simp only[EH,j1,VX (Cz N),cond_false]
  exact aBk λe X=>h e (by simp[X])
def a9A{t:Nat->Value}{d:Option Tmp}{v:Value}: ∀{gQ:List JX},(∀e∈gQ,d≠some e.d)->z8 (EH t gQ) d v=EH (z8 t d v) gQ
 |[],_=>rfl
 |e::gQ,h=>by
  have N:=h e fX
  have cM:=a9A (t:=t) (d:=d) (v:=v) (gQ:=gQ) λe X=>h e (by simp[X])
  simp only[EH]
  rw[<-cM]
  cases d with
  |none=>rfl
  |some d=>
   have iO:d≠e.d:=λvM=>N (by rw[vM])
   funext k
   simp only[z8,j1]
   by_cases hk:k=d
   ·subst hk
    simp[VX iO]
   ·rw[VX hk,cond_false,cond_false]
def b6H{t:Nat->Value}{o:Oper}(hs:∀cs b,o.op≠.select cs b){gQ:List JX}(h:∀e∈gQ,e.d∉o.looksAt ops):execOp (h9 (EH t gQ)) o=execOp (h9 t) o:=by
 refine execOp_congr o hs λx K=>?_;cases x with
 |tmp k=>refine aBk λe X hk=>h e X ?_;subst hk;exact sI _ (List.mem_filterMap.2 ⟨.tmp e.d,by simpa using K,rfl⟩)
 |_=>rfl
def aNm{t:Nat->Value}{o:Oper}{gQ:List JX}(h:∀e∈gQ,e.d∉o.looksAt ops):oH ops (EH t gQ) o.guard=oH ops t o.guard:=by
 unfold oH;cases hg:o.guard with
 |none=>rfl
 |some p=>
  obtain⟨j,qG⟩:=p;have:Sw ops (EH t gQ) j=Sw ops t j:=by
   unfold Sw;cases hd:(ops[j]?).bind (·.dst)with
   |none=>rfl
   |some d=>have:EH t gQ d=t d:=aBk λe X hk=>h e X (by subst hk;exact mA _ (by simp[hg,hd]));simp only[this]
  simp only[this]
def aNT(hD:Lk O n ops=true){done dF:Array Bool}{gQ:List JX}(c1:YV O n ops done dF gQ){i:Nat}{o:Oper}(aA:ops[i]? =some o)(jN: ∀e∈gQ,e.i≠i)
 (X3:∀e∈o.after,Region.binds .any e=true->done.getD e.on false=true):∀e∈gQ,e.d∉o.looksAt ops/\o.dst≠some e.d:=by
 intro e X;obtain⟨Ii,N,V,aQ,b7⟩:=c1.op e X;obtain⟨_,_,_,MV⟩:=aC2 hD N V;have bBL:=b13 N MV aA (Cz (jN e X)) (λx K hb bD8=>by
  have eG:=X3 x K hb;rw[bD8]at eG;have gF:=c1.tG e X;have:done.getD e.i false=false:=by
   rcases gY e.i done.size with cN|cN;·simp[cN]at gF|-;exact gF
   ·simp[LL cN]
  rw[this]at eG;cases eG)
 obtain⟨j5,kK,lV⟩:=Oper.apart_spec bBL;exact⟨j5 e.d aQ,kK e.d aQ⟩
def aNH{o:Oper}{T:TypeId}(h:o.op=.alloc T):lF o.op=1:=by rw[h];rfl
def aMb{o:Oper}(h:lF o.op=1):∃T,o.op=.alloc T:=by
 cases ho:o.op<;>rw[ho]at h<;>simp only[lF]at h<;>first|exact⟨_,rfl⟩|(exact absurd h bH)|skip
 split at h<;>exact absurd h bH
def aOq(op:Op):lF op=0\/lF op=1\/lF op=2:=by
 unfold lF;split<;>first|(exact .inl rfl)|(exact .inr (.inl rfl))|(exact .inr (.inr rfl))|skip
 split<;>first|(exact .inl rfl)|(exact .inr (.inr rfl))
def ZP{l:Array Bool}{i:Nat}(h:i<l.size)(d:Bool):(l.setIfInBounds i true).getD i d=true:=by simp[h]
def YV.step{done dF:Array Bool}{gQ:List JX}(c1:YV O n ops done dF gQ){i:Nat}(jN:∀e∈gQ,e.i≠i)(aA:i<done.size):
 YV O n ops (done.setIfInBounds i true) (dF.setIfInBounds i true) gQ:=by
 refine⟨by simp[c1.size],λk d=>?_,c1.op,λe X=>?_,c1.nR,c1.a7M⟩;·
  by_cases hk:i=k;·subst hk;rw[ZP aA,ZP (by rw[c1.size];exact aA)];simp
  ·rw[getD_set_ne d hk,getD_set_ne d hk];exact c1.dF k d
 ·rw[getD_set_ne true (Cz (jN e X))];exact c1.tG e X
def a0D: ∀(zQ xX:List Nat),zQ.Nodup->(∀x∈zQ,x∈xX)->zQ.length<=xX.length
 |[],_,_,_=>by simp
 |x::zQ,xX,hn,hs=>by
  rw[YO]at hn
  have K:=hs x fX
  have:=a0D zQ (xX.erase x) hn.2 λy aN=>by
   have iO:y≠x:=λe=>hn.1 (e▸aN)
   exact(List.mem_erase_of_ne iO).2 (hs y (by simp[aN]))
  rw[List.length_erase_of_mem K]at this
  have:0<xX.length:=List.length_pos_of_mem K
  simp only[sK]
  omega
def aOr{t:Nat->Value}{e:JX}{JW:List JX}: ∀{LX:List JX},((LX++e::JW).map (·.d)).Nodup->EH t (LX++e::JW)=EH (j1 t e.d (.pointer (some ⟨e.b,0,none⟩))) (LX++JW)
 |[],h=>by
  simp only[m0,y3,YO]at h
  have:=a9A (t:=t) (d:=some e.d) (v:=.pointer (some ⟨e.b,0,none⟩)) (gQ:=JW) λx K hd=>h.1 (List.mem_map.2 ⟨x,K,(y2 hd).symm⟩)
  exact this
 |x::LX,h=>by
  simp only[oF,y3,YO]at h
  simp only[oF,EH,aOr h.2]
def dL.DJ{L E:List a5}{R:List fG}{w:World}(h:dL c L R w)(hp:L.Perm E):dL c E R w:=by obtain⟨⟨aC,bX,hg⟩,ho,hk⟩:=h;exact⟨⟨aC,⟨(hp.map _).nodup_iff.1 bX.nR,λe X=>bX.own e (hp.mem_iff.2 X),λe X=>bX.u7 e (hp.mem_iff.2 X),bX.tH,bX.p3⟩,hg⟩,λe X=>ho e (hp.mem_iff.2 X),hk⟩
def aRm{p:Nat->Bool}{done:Array Bool}{i:Nat}(aA:i<ops.size)(d:Bool):(Yz ops p done).getD i d=(done.getD i true||(Nat.beq (wZ ops i) 1 && p i)):=by simp[Yz,aA]
def aCN{p:Nat->Bool}{done dF:Array Bool}{gQ:List JX}(c1:YV O n ops done dF gQ)(hp:∀e∈gQ,p e.i=true)(pB:done.size=ops.size){j:Nat}(aY:j∈Region.ready .any ops dF)(hk:wZ ops j≠1):
 j∈Region.ready .any ops (Yz ops p done):=by
 obtain⟨bQ,o,ho,sB⟩:=mem_ready.1 aY;have jH:j<ops.size:=(Array.getElem?_eq_some_iff.1 ho).1;refine mem_ready.2 ⟨?_,o,ho,λe X hb=>?_⟩;·
  rw[aRm jH];have N:done.getD j true=false:=by
   cases hd:done.getD j true with
   |false=>rfl
   |true=>rw[(c1.dF j true).2 (.inl hd)]at bQ;cases bQ
  have V:Nat.beq (wZ ops j) 1=false:=VX hk;simp[N,V]
 ·
  have N:=sB e X hb;have bDg:e.on<ops.size:=by
   rcases gY e.on dF.size with cN|cN;·rw[c1.size,pB]at cN;exact cN
   ·simp[LL cN]at N
  rw[aRm bDg];rcases(c1.dF e.on false).1 N with V|⟨x,K,a2d⟩;·
   have:done.getD e.on true=true:=by
    rcases gY e.on done.size with cN|cN;·simp[cN]at V|-;exact V
    ·simp[LL cN]
   simp only[this,Bool.true_or]
  ·obtain⟨bKJ,aQ,b7,_,_⟩:=c1.op x K;(have eG:wZ ops e.on=1:=by rw[<-a2d];simp only[wZ,aQ];exact aNH b7);have gF:=hp x K;rw[a2d]at gF;simp[eG,gF]
def aQb{o:Oper}{a:Act}{bA:Operand->Value}{w:World}{next:Act->World->Prop}{Q:Exit->Act->World->Prop}(X:execOp a.eval o=execOp bA o)(h:o.upon P a next Q ((execOp bA o).run P w)):o.wp P a w next Q:=by unfold Oper.wp;rw[X];exact h
def b4f{done dF:Array Bool}{t:Nat->Value}{L:List a5}{R:List fG}{a:Act}{w:World}(eB:N6 ops done []=true)(c1:YV O n ops done dF [])(AL:dP P O n ops cL fO [] t L R)
 (kS:nU n (EH t []) a) (cI:dL c (Z4 O []++L) R w) {S:World->Prop} (h0:Nat):wpAnyH P .any ops (IH n c fO) S h0 dF a w:=by
 refine wpAnyH_done ?_ ⟨trivial,t,L,R,AL,kS,cI⟩ h0;simp only[N6,List.isEmpty_iff]at eB;refine List.eq_nil_iff_forall_not_mem.2 λj aY=>?_;obtain⟨bQ,o,ho,sB⟩:=mem_ready.1 aY;have N:done.getD j true=false:=by
  cases hd:done.getD j true with
  |false=>rfl
  |true=>rw[(c1.dF j true).2 (.inl hd)]at bQ;cases bQ
 have:j∈Region.ready .any ops done:=by
  refine mem_ready.2 ⟨N,o,ho,λe X hb=>?_⟩;rcases(c1.dF e.on false).1 (sB e X hb)with h|⟨x,K,_⟩;·exact h
  ·cases K
 rw[eB]at this;cases this
def aLB(LB:Region.noSelect ops=true)(hD:Lk O n ops=true):∀(m h0:Nat) (i7:List Nat) (os:List Oper) (done dF:Array Bool) (gQ:List JX) (t:Nat->Value) (L:List a5) (R:List fG) (a:Act) (w:World),
 h0+i7.length<=m->i7.length<=h0+gQ.length->i7.map (ops[·]?)=os.map some->N6 ops done i7=true->YV O n ops done dF gQ->(∀e∈gQ,e.i∈i7)->done.size=ops.size->
 (∀i,i<ops.size->done.getD i true=false->i∈i7)->
 nU n (EH t gQ) a->dL c (Z4 O gQ++L) R w->cL.Sublist L->dP P O n ops cL fO os t L R->wpAnyH P .any ops (IH n c fO) (dL c cL R) h0 dF a w:=by
 intro m;induction m with
 |zero=>
  intro h0 i7 os done dF gQ t L R a w hm JC wH eB c1 T1 pB FW kS cI q8 AL;obtain rfl:i7=[]:=by cases i7 with|nil=>rfl|cons x l=>simp at hm
  exact aVr
 |succ m cM=>
  intro h0 i7 os done dF gQ t L R a w hm JC wH eB c1 T1 pB FW kS cI q8 AL;have dW:dL c cL R w:=cI.vB (q8.trans (YL _ _)) (λr M=>⟨r,M,.mW⟩)
  -- a making of a variable that comes up early
  have early:∀(f:Nat),h0=f+1->∀j,j∈Region.ready .any ops dF->wZ ops j=1->
   wpOp P ops (IH n c fO) j (λfE w'=>dL c cL R w'/\wpAnyH P .any ops (IH n c fO) (dL c cL R) f (dF.setIfInBounds j true) fE w') a w:=by
   intro f hf j aY HI;obtain⟨bQ,mN,M1,sB⟩:=mem_ready.1 aY;(have aFg:lF mN.op=1:=by simpa[wZ,M1]using HI);obtain⟨T,dN⟩:=aMb aFg;obtain⟨hg,⟨jB,a17⟩,⟨d,hd,JA,aSP⟩,MV⟩:=aC2 hD M1 dN;obtain⟨qJ,zO,HP⟩:=Yr (O.ok _ _ a17) w;have a65:done.getD j true=false:=by
    cases hd:done.getD j true with
    |false=>rfl
    |true=>rw[(c1.dF j true).2 (.inl hd)]at bQ;cases bQ
   (have aE9:∀e∈gQ,e.i≠j:=λe X aA=>by rw[(c1.dF j true).2 (.inr ⟨e,X,aA⟩)]at bQ;cases bQ);(have aT9:qJ.cells.toList=YQ O T:=by rw[HP];simp[YQ,a17]);(have rA:dL c (Z4 O (⟨j,d,w.heap.size,T⟩::gQ)++L) R (w.alloc (.cells qJ.cells T)):=by exact aX0);unfold wpOp;simp only[M1];rw[kS.wanted,hg];simp only[oH,if_true];refine .inl ?_;(have Bm:(execOp a.eval mN).run P w=.ok (.value (.pointer (some ⟨w.heap.size,0,none⟩))) (w.alloc (.cells qJ.cells T)):=by exact aWn);unfold Oper.wp;rw[Bm];refine⟨rA.vB (q8.trans (YL _ _)) (λr M=>⟨r,M,.mW⟩),?_⟩;have Oa:j<ops.size:=(Array.getElem?_eq_some_iff.1 M1).1;(have a66:j<dF.size:=by rw[c1.size,pB];exact Oa);have a67:j∈i7:=FW j Oa a65;refine cM f i7 os done _ (⟨j,d,w.heap.size,T⟩::gQ) t L R _ _ D (by simp only[sK];omega) wH eB ?_ ?_ pB FW ?_ rA q8 AL;·exact aVT
   ·exact aWf
   ·exact aWG
  cases i7 with
  |nil=>exact aVr
  |cons i aB=>
   cases os with
   |nil=>simp at wH
   |cons o os=>
    simp only[y3,a8J]at wH;obtain⟨pC,wH⟩:=wH;simp only[N6,oS]at eB;obtain⟨⟨XT,RE⟩,Bf⟩:=eB;(have XT:i∈Region.ready .any ops done:=by simpa using XT);obtain⟨a1B,o',Of,Oo⟩:=mem_ready.1 XT;obtain rfl:o'=o:=y2 (Of.symm.trans pC);have Ny:i<ops.size:=(Array.getElem?_eq_some_iff.1 pC).1;(have XS:i<done.size:=by rw[pB];exact Ny);(have XU:wZ ops i=lF o'.op:=by simp[wZ,pC]);have Ar:∀k,k<ops.size->(done.setIfInBounds i true).getD k true=false->k∈aB:=by
     intro k hk hd;by_cases Ob:i=k;·subst Ob;rw[ZP XS]at hd;cases hd
     ·
      rw[getD_set_ne true Ob]at hd;rcases List.mem_cons.1 (FW k hk hd)with h|h;·exact absurd h.symm Ob
      ·exact h
    (have Av:(done.setIfInBounds i true).size=ops.size:=by simp[pB]);(have bCq:∀k,done.getD k true=true->∀d,dF.getD k d=true\/k>=done.size:=by exact aWH);obtain⟨hd,AL⟩:=AL
    -- if the operation is no making of a variable, it has not come up, and is apart from the early ones
    (have RS:lF o'.op≠1->∀e∈gQ,e.i≠i:=by exact aWO);(have a0Q:lF o'.op≠1->gQ.length<=aB.length:=by exact aVo);have X3:lF o'.op≠1->i∈Region.ready .any ops dF:=by
     intro hk;refine mem_ready.2 ⟨?_,o',pC,λe X hb=>(c1.dF _ _).2 (.inl (Oo e X hb))⟩;cases hl:dF.getD i true with
     |false=>rfl
     |true=>exact aWg
    have apart:lF o'.op≠1->∀e∈gQ,e.d∉o'.looksAt ops/\o'.dst≠some e.d:=λhk=>aNT hD c1 pC (RS hk) Oo;(have Ly:lF o'.op≠1->∀e∈gQ,e.i∈aB:=λhk e X=>by exact aWt);(have frame:lF o'.op≠1->∀v,nU n (EH (z8 t o'.dst v) gQ) (a.put o'.dst v):=λhk v=>by exact aXL);(have Vl:lF o'.op≠1->Region.wanted o' (yielded ops a.tmps)=oH ops t o'.guard:=λhk=>by rw[kS.wanted,aNm (λe X=>(apart hk e X).1)]);(have XR:lF o'.op≠1->execOp a.eval o'=execOp (h9 t) o':=λhk=>by exact aWo);rcases aOq o'.op with hk|hk|hk;·
     -- it leaves the world alone
     (have e6:lF o'.op≠1:=by rw[hk];decide);have rU:=a0Q e6;obtain⟨f,rfl⟩:∃f,h0=f+1:=⟨h0-1,by simp only[sK]at JC;omega⟩;rw[XU,hk]at RE;have MV:∀j mN,ops[j]?=some mN->j≠i->dF.getD j true=false->(∀e∈mN.after,Region.binds .any e=true->e.on≠i)->o'.apart ops mN=true:=by
      intro j mN aY iO hl w6;refine a8E pC RE j mN aY iO ?_ w6;cases hd:done.getD j true with
      |false=>rfl
      |true=>rw[(c1.dF j true).2 (.inl hd)]at hl;cases hl
     (have go:∀v,YieldsIf P ops (dL c cL R) o' v a->dP P O n ops cL fO os (z8 t o'.dst v) L R->wpAnyH P .any ops (IH n c fO) (dL c cL R) (f+1) dF a w:=by intro v aN AM;refine wpAnyH_first pC (a8K LB) (λ_ _ _ h=>h.1.elim) f dF a w MV (X3 e6) aN dW ?_;exact cM f aB os _ _ gQ _ L R _ w Jn Xl wH Bf (c1.step (RS e6) XS) (Ly e6) Av Ar (frame e6 v) cI q8 AM);rcases AL with⟨cV,_,AM⟩|⟨cV,_,v,hv,AM⟩|⟨N,_⟩|⟨_,V,_⟩;·exact aWT
     ·exact go v (.inl ⟨by rw[Vl e6];exact cV,λw' Bs=>by rw[XR e6];exact hv c w' Bs⟩) AM
     ·exact absurd N e6
     ·exact Is
    ·
     -- it makes a variable
     rw[XU,hk]at RE;rcases AL with⟨_,N,_⟩|⟨_,V,_⟩|⟨_,T,dN,AM⟩|⟨_,V,_⟩;·exact absurd hk N
     ·exact Is
     ·
      by_cases jN: ∃e∈gQ,e.i=i;·
       -- it has come up early
       obtain⟨e,X,Nr⟩:=jN;obtain⟨Ii,N,V,aQ,b7⟩:=c1.op e X;rw[Nr]at N;obtain rfl:Ii=o':=y2 (N.symm.trans pC);(obtain rfl:e.T=T:=by rw[V]at dN;exact Op.alloc.inj dN);obtain⟨LX,JW,rfl⟩:=List.append_of_mem X;(have DC:∀x∈LX++JW,x∈LX++e::JW:=λx K=>by exact aXC);(have aFw:∀x∈LX++JW,x.i≠i:=by exact aVL);refine cM h0 aB os _ dF (LX++JW) _ _ R a w Jn aYk wH Bf ?_ ?_ Av Ar ?_ ?_ (q8.cons _) (AM e.b);·exact aVS
       ·exact aWm
       ·exact aXT
       ·exact aWL
      ·
       -- it has not: whatever comes up now makes a variable
       have a63:∀e∈gQ,e.i≠i:=λe X aA=>jN ⟨e,X,aA⟩;have UQ:i∈Region.ready .any ops dF:=by
        refine mem_ready.2 ⟨?_,o',pC,λe X hb=>(c1.dF _ _).2 (.inl (Oo e X hb))⟩;cases hl:dF.getD i true with
        |false=>rfl
        |true=>exact aWj
       (have rU:gQ.length+1<=(i::aB).length:=by exact aVE);obtain⟨f,rfl⟩:∃f,h0=f+1:=⟨h0-1,by omega⟩;refine wpAnyH_all rfl (Wx UQ) λj aY=>early f rfl j aY ?_;exact aVq
     ·exact Is
    ·
     -- it turns the world
     (have e6:lF o'.op≠1:=by rw[hk];decide);have rU:=a0Q e6;obtain⟨f,rfl⟩:∃f,h0=f+1:=⟨h0-1,by simp only[sK]at JC;omega⟩;rw[XU,hk]at RE;refine wpAnyH_all rfl (Wx (X3 e6)) λj aY=>?_;by_cases HI:wZ ops j=1;·exact early f rfl j aY HI
     ·
      have RC:=aCN (p:=λ_=>true) c1 (λ_ _=>rfl) pB aY HI;have:=List.all_eq_true.1 RE j RC;(obtain rfl:j=i:=by simpa using this);unfold wpOp;simp only[pC];rw[Vl e6];rcases AL with⟨cV,_,AM⟩|⟨_,V,_⟩|⟨N,_⟩|⟨cV,_,Post,hg,AM⟩;·rw[cV,if_neg fX];exact⟨dW,cM f aB os _ _ gQ _ L R _ w Jn Xl wH Bf (c1.step (RS e6) XS) (Ly e6) Av Ar (frame e6 undef) cI q8 AM⟩
      ·exact Is
      ·exact absurd N e6
      ·rw[cV,if_pos rfl];refine .inl (aQb (XR e6) ?_);refine(hg.frame (Z4 O gQ)) c w cI a _ _ ?_;rintro v iM G w' ⟨E,rfl,hp⟩ rA;obtain⟨XJ,MO,aEU⟩:=AM v E G hp;refine⟨rA.vB (XJ.trans (YL _ _)) MO,?_⟩;refine aLX (Ej:=dL c cL G) (λx K=>K.vB g3 MO) _ _ _ _ ?_;exact cM f aB os _ _ gQ _ E G _ w' Jn Xl wH Bf (c1.step (RS e6) XS) (Ly e6) Av Ar (frame e6 v) rA XJ aEU
end
def QH(ops:List Oper):List Nat->List Oper
 |[]=>[]
 |i::l=>match ops[i]? with
  |some o=>o::QH ops l
  |none=>QH ops l
def a4j{P:Program}(O:pP P)(n:Nat)(ops:Array Oper)(i7:List Nat):Bool:=
 Region.noSelect ops && Lk O n ops && N6 ops (Array.replicate ops.size false) i7 && ((List.range ops.size).all λi=>i7.contains i) && i7.all λi=>Nat.blt i ops.size
def a0u(ops:List Oper): ∀(i7:List Nat),(∀i∈i7,i<ops.length)->i7.map (ops.toArray[·]?)=(QH ops i7).map some
 |[],_=>rfl
 |i::l,h=>by
  have aA:=h i fX
  have cM:=a0u ops l λj aY=>h j (by simp[aY])
  simp only[y3,QH,List.getElem?_toArray,ET aA]
  congr 1
  simpa using cM
def gJ{P:Program}(O:pP P){n id:Nat}{ops:List Oper}{t:Nat->Value}{L:List a5}{R:List fG}{Q:gA}(i7:List Nat)(cL:List a5)(hm:P.follows .mixedOrders=true)(BO:a4j O n ops.toArray i7=true)(q8:cL.Sublist L)
 (h:dP P O n ops.toArray cL Q (QH ops i7) t L R):cH P n (.region id ops.toArray true) t L R Q:=by
 simp only[a4j,oS]at BO;obtain⟨⟨⟨⟨N,V⟩,aQ⟩,b7⟩,eG⟩:=BO;have jH:∀i∈i7,i<ops.length:=λi aA=>by simpa using List.all_eq_true.1 eG i aA
 intro c a w hf hs;refine wp_region_held (S:=dL c cL R) hm ?_;have rU:i7.length<=ops.toArray.size\/True:=.inr trivial;refine aLB (O:=O) (cL:=cL) N V (ops.toArray.size+i7.length) ops.toArray.size i7 (QH ops i7) (Array.replicate ops.toArray.size false) _ [] t L R a _ (g4 _) ?_ (a0u ops i7 jH) aQ ?_ (λe X=>by cases X) fX ?_ hf ?_ q8 h;·
  -- the plan lists each operation once: what is ready is not done
  have key:∀(bS:List Nat) (done:Array Bool),N6 ops.toArray done bS=true->bS.Nodup/\∀i∈bS,done.getD i true=false:=by
   intro bS;induction bS with
   |nil=>intro _ _;exact⟨Qh,λi aA=>by cases aA⟩
   |cons i bS cM=>exact aV1
  have:=a0D i7 (List.range ops.length) (key i7 _ aQ).1 (λi aA=>List.mem_range.2 (jH i aA));exact NI
 ·exact aXO
 ·exact aXH
 ·exact dL.drew hs
section
variable{P:Program}{O:pP P}{n:Nat}{all:Array Oper}{cL:List a5}{fO:gA}{op:Op}{ty:TypeId}{pos:String}{after:Array Edge}{aB:List Oper}{t:Nat->Value}{L E:List a5}{R G:List fG}{d:Tmp}{v:Value}{g:Option (Nat×Bool)}{T:TypeId}{x y:Operand}
def gS(h:fO .normal t L R):dP P O n all cL fO [] t L R:=h
def b37(hv:cJ P ⟨some d,op,ty,pos,after,g⟩ (h9 t) cL R v)(hk:lF op=0)(hg:oH all t g=true)(hd:Nat.blt d n=true)(h:dP P O n all cL fO aB (j1 t d v) L R):dP P O n all cL fO (⟨some d,op,ty,pos,after,g⟩::aB) t L R:=
 ⟨hd,.inr (.inl ⟨hg,hk,v,hv,h⟩)⟩
def a4(hv:cJ P ⟨some d,op,ty,pos,after,g⟩ (h9 t) cL R v)(h:dP P O n all cL fO aB (j1 t d v) L R)(hk:lF op=0:=by exact rfl)(hg:oH all t g=true:=by exact rfl)(hd:Nat.blt d n=true:=by exact rfl):dP P O n all cL fO (⟨some d,op,ty,pos,after,g⟩::aB) t L R:=b37 (hv:=hv) (hk:=hk) (hg:=hg) (hd:=hd) (h:=h)
def b40(hk:Nat.beq (lF op) 1=false)(hg:oH all t g=false)(hd:Nat.blt d n=true)(h:dP P O n all cL fO aB (j1 t d undef) L R):dP P O n all cL fO (⟨some d,op,ty,pos,after,g⟩::aB) t L R:=
 ⟨hd,.inl ⟨hg,λe=>by simp[e]at hk,h⟩⟩
def b6d{k m Z g5 z}(dN:hT O.g2 T=some ⟨k,m,Z,g5,z⟩)(hd:Nat.blt d n=true)
 (h:∀b,dP P O n all cL fO aB (j1 t d (.pointer (some ⟨b,0,none⟩))) (⟨b,z,T⟩::L) R):dP P O n all cL fO (⟨some d,.alloc T,ty,pos,after,none⟩::aB) t L R:=
 ⟨hd,.inr (.inr (.inl ⟨rfl,T,rfl,λb=>by
  have:=h b
  have e:YQ O T=z:=by simp[YQ,dN]
  rw[e]
  exact this⟩))⟩
def o4{Post:oY}(hg:eD P ⟨some d,op,ty,pos,after,g⟩ (h9 t) L R Post)(hk:lF op=2)(cV:oH all t g=true)(hd:Nat.blt d n=true)
 (h:∀v E G,Post v E G->cL.Sublist E/\(∀r∈R,aH r G)/\dP P O n all cL fO aB (j1 t d v) E G):dP P O n all cL fO (⟨some d,op,ty,pos,after,g⟩::aB) t L R:=
 ⟨hd,.inr (.inr (.inr ⟨cV,hk,Post,hg,h⟩))⟩
def GO{Post:oY}(hg:eD P ⟨none,op,ty,pos,after,g⟩ (h9 t) L R Post)(hk:lF op=2)(cV:oH all t g=true)
 (h:∀v E G,Post v E G->cL.Sublist E/\(∀r∈R,aH r G)/\dP P O n all cL fO aB t E G):dP P O n all cL fO (⟨none,op,ty,pos,after,g⟩::aB) t L R:=
 ⟨rfl,.inr (.inr (.inr ⟨cV,hk,Post,hg,λv E G hp=>h v E G hp⟩))⟩
def q1{f:FuncId}{xs:List Operand}{rG:Array TypeId}{args:List Value}{Post:oY}(ha:xs.map (h9 t)=args)(h:aI P f args.toArray L R Post)(cV:oH all t g=true)(hd:Nat.blt d n=true)
 (k:∀v E G,Post v E G->cL.Sublist E/\(∀r∈R,aH r G)/\dP P O n all cL fO aB (j1 t d v) E G):dP P O n all cL fO (⟨some d,.call ⟨.value (.func f),xs.toArray,rG⟩,ty,pos,after,g⟩::aB) t L R:=
 o4 (a0A a9b rfl h) rfl cV hd k
def ZA{k m Z g5 z b o}{cs gH:List Value}{v:Value}{n5:TypeId}(dN:hT O.g2 T=some ⟨k,m,Z,g5,z⟩)(K:h9 t x= .pointer (some ⟨b,o,none⟩))(aN:h9 t y=v)(hn:m=1)
 (c4:uS b cs n5 gH L E) (pV:Nat.blt o cs.length=true) (rS:cs.set o v=gH) (N:v.oneCell'=true) (q8:cL.Sublist E)
 (h:dP P O n all cL fO aB t E R):dP P O n all cL fO (⟨none,.store T x y,ty,pos,after,none⟩::aB) t L R:=
 GO (aQz O dN K aN hn c4 pV rS N) rfl rfl λ_ iM G ⟨dY,eY⟩=>by subst dY;subst eY;exact⟨q8,mB _,h⟩
def Ye{k m Z g5 z b o}{cs vs gH:List Value}{n5:TypeId}(dN:hT O.g2 T=some ⟨k,m,Z,g5,z⟩)(K:h9 t x= .pointer (some ⟨b,o,none⟩))(aN:h9 t y= .agg vs.toArray)(hn:vs.length=m)
 (c4:uS b cs n5 gH L E) (pV:Nat.ble (o+vs.length) cs.length=true) (rS:cs.take o++vs++cs.drop (o+vs.length)=gH) (N:vs.all (·.oneCell')=true) (q8:cL.Sublist E)
 (h:dP P O n all cL fO aB t E R):dP P O n all cL fO (⟨none,.store T x y,ty,pos,after,none⟩::aB) t L R:=
 GO (aJs O dN K aN hn c4 pV rS N) rfl rfl λ_ iM G ⟨dY,eY⟩=>by subst dY;subst eY;exact⟨q8,mB _,h⟩
def b4N{k m Z g5 z b}{cs vs:List Value}{n5:TypeId}(dN:hT O.g2 T=some ⟨k,m,Z,g5,z⟩)(K:h9 t x= .pointer (some ⟨b,0,none⟩))(aN:h9 t y= .agg vs.toArray)(hn:vs.length=m)
 (c4:uS b cs n5 vs L E) (pV:vs.length=cs.length) (N:vs.all (·.oneCell')=true) (q8:cL.Sublist E)
 (h:dP P O n all cL fO aB t E R):dP P O n all cL fO (⟨none,.store T x y,ty,pos,after,none⟩::aB) t L R:=
 Ye dN K aN hn c4 (by simp[pV]) (by simp[pV]) N q8 h
def Rl{t:Nat->Value}{k:Nat}{v:Value}(h:t k=v):j1 t k v=t:=by
 funext i;unfold j1;cases hb:Nat.beq i k with
 |false=>rfl
 |true=>rw[cond_true,aIh hb];exact h.symm
def l0{os:List Oper}{k:Nat}{b:Bool}(hb:t k=.bool b)(N:b=true->dP P O n all cL fO os (j1 t k (.bool true)) L R)(V:b=false->dP P O n all cL fO os (j1 t k (.bool false)) L R):dP P O n all cL fO os t L R:=by
 cases b with
 |true=>have:=N rfl;rwa[Rl hb]at this
 |false=>have:=V rfl;rwa[Rl hb]at this
def GK{os:List Oper}{k:Nat}{b:Bool}{Q:gA}(hb:t k=.bool b)(N:b=true->c6 P n all os (j1 t k (.bool true)) L R Q)(V:b=false->c6 P n all os (j1 t k (.bool false)) L R Q):c6 P n all os t L R Q:=by
 cases b with
 |true=>have:=N rfl;rwa[Rl hb]at this
 |false=>have:=V rfl;rwa[Rl hb]at this
end
def CX(z:List Value):Nat->List Value
 |0=>[]
 |n+1=>z++CX z n
def b2t(z:List Value)(n:Nat):(CX z n).length=n*z.length:=by
 induction n with
 |zero=>simp[CX]
 |succ n cM=>simp[CX,cM,PK,Nat.add_comm]
def aOc(z:List Value)(eC:0<z.length): ∀(n i:Nat),i<n*z.length->(CX z n)[i]? =z[i%z.length]?
 |0,i,h=>by simp at h
 |n+1,i,h=>by
  simp only[CX]
  rcases gY i z.length with cN|cN
  ·rw[HU cN,a2R cN]
  ·rw[NM cN,aOc z eC n (i-z.length) (by rw[PK]at h;omega)]
   rw[Nat.mod_eq_sub_mod cN]
def aNB(z:Array Value)(n:Nat):((Array.range (n*z.size)).map (z[·%z.size]!)).toList=CX z.toList n:=by
 apply R2;intro i;rcases gY i (n*z.size)with h|h;·
  have eC:0<z.size:=by
   rcases a8y z.size with bQ|bQ;·rw[bQ]at h;simp at h
   ·exact bQ
  have hm:i%z.size<z.size:=Nat.mod_lt _ eC;rw[aOc z.toList (by simpa using eC) n i Xu];simp[h,hm]
 ·rw[sJ Xu,sJ (by rw[b2t];simpa using h)]
def Zv(size:Nat)(cs:List Value):List (Nat×List Value)->Option (List Value)
 |[]=>some cs
 |(i,vs)::aB=>bif Nat.beq vs.length size && Nat.ble (i*size+vs.length) cs.length then Zv size (ZI cs (i*size) vs) aB else none
def aL5(size:Nat):∀(parts:List (Nat×Value)) (cs:List Value) (cU:List Value),
 Zv size cs (parts.map λp=>(p.1,p.2.cells.toList))=some cU->Instr.fill (λi=>some (i*size,size)) cs.toArray parts=some cU.toArray
 |[],cs,cU,h=>by simp only[Cy,Zv,Qi]at h;simp[Instr.fill,h]
 |(i,v)::aB,cs,cU,h=>by
  simp only[y3,Zv]at h
  simp only[Instr.fill]
  cases hb:(Nat.beq v.cells.toList.length size && Nat.ble (i*size+v.cells.toList.length) cs.length)with
  |false=>rw[hb]at h;cases h
  |true=>
   rw[hb,cond_true]at h
   simp only[oS,Iz,Nat.ble_eq,aH5]at hb
   have:=aL5 size aB _ cU h
   rw[if_neg (by simp[hb.1];omega)]
   have eC:(v.cells.zipIdx.foldl (λcs (c,j)=>cs.setIfInBounds (i*size+j) c) cs.toArray)=(ZI cs (i*size) v.cells.toList).toArray:=by
    show v.cells.zipIdx.foldl (λcs (x:Value×Nat)=>cs.setIfInBounds (i*size+x.2) x.1) cs.toArray=_
    rw[<-Array.foldl_toList]
    have:=aCa v.cells.toList (i*size) 0 cs.toArray
    simpa using this
   rw[eC]
   exact this
inductive gZ where
 |nil
 |own (g cap:Nat) (spare:List Value)
def gZ.val:gZ->Nat->Value
 | .nil,_=>.slice none 0 0
 | .own g cap _,n=>.slice (some ⟨g,0,none⟩) n cap
def gZ.L(e:TypeId)(xs:List Value):gZ->List a5
 | .nil=>[]
 | .own g _ spare=>[⟨g,xs++spare,e⟩]
def gZ.ok(size:Nat)(xs:List Value)(n:Nat):gZ->Prop
 | .nil=>n=0/\xs=[]
 | .own _ cap spare=>xs.length=n*size/\n<=cap/\cap<=maxLen/\(xs++spare).length=cap*size
inductive J4(fQ:List a5):List a5->(List a5->List a5)->Prop
 |mW {B}:J4 fQ (fQ++B) (λz6=>z6++B)
 |cons {x L f} (h:J4 fQ L f):J4 fQ (x::L) (λz6=>x::f z6)
 |xJ {FK L f} (h:J4 fQ L f):J4 fQ (FK++L) (λz6=>FK++f z6)
def J4.split{fQ L f}(h:J4 fQ L f):∃A B,L=A++fQ++B/\∀z6,f z6=A++z6++B:=by
 induction h with
 | @mW B=>exact⟨[],B,by simp,λz6=>by simp⟩
 | @cons x L f _ cM=>obtain⟨A,B,N,V⟩:=cM;exact⟨x::A,B,by simp[N],λz6=>by simp[V]⟩
 | @xJ FK L f _ cM=>obtain⟨A,B,N,V⟩:=cM;exact⟨FK++A,B,by simp[N],λz6=>by simp[V]⟩
def Fm(L:List a5)(R:List fG)(v:Value)(m size:Nat)(uL:List Value):Prop:=
 ∃a cap,v=.slice (some a) m cap/\uL.length=m*size/\∀c w,dL c L R w->∀j u,uL[j]?=some u->w.cell? (a.add j)=some u
def b3R{L:List a5}{R:List fG}{b m cap size:Nat}{cs uL:List Value}{T:TypeId}(jN:H2 ⟨b,cs,T⟩ L)(hl:uL.length=m*size)(hp:cs.take (m*size)=uL):Fm L R (.slice (some ⟨b,0,none⟩) m cap) m size uL:=by
 refine⟨_,_,rfl,hl,λc w cI j u aY=>?_⟩;rw[Et,PJ,ZK cI jN.mem];rw[<-hp,Cw]at aY;split at aY;·exact aY
 ·cases aY
def aCb{size:Nat}: ∀(rows:List (List Value)),(∀r∈rows,r.length=size)->∀j,0<size->(rows.flatten)[j]? =(rows[j/size]?).bind (·[j%size]?)
 |[],_,j,_=>by simp
 |r::rows,h,j,hs=>by
  have M:=h r fX
  rw[aIc]
  rcases gY j size with cN|cN
  ·rw[HU D,Nat.div_eq_of_lt cN,a2R cN]
   simp
  ·rw[NM D,M,aCb rows (λx K=>h x (by simp[K])) _ hs]
   rw[Nat.mod_eq_sub_mod cN,Nat.div_eq_sub_div hs cN]
   simp
def aMd{L:List a5}{R:List fG}{j6:Option Addr}{size len cap:Nat}{rows:List (List Value)}{eQ:List fG}(bD:aH (.mk size j6 len cap rows eQ) R)(hs:0<size)(aEE: ∀c w,dL c L R w->∃b off,j6=some ⟨b,off,none⟩)
 (hl:rows.flatten.length=len*size):(∃c w,dL c L R w)->Fm L R (.slice j6 len cap) len size rows.flatten:=by
 rintro⟨aRV,gX,bQ⟩;obtain⟨b,off,ha⟩:=aEE aRV gX bQ;subst ha;refine⟨_,_,rfl,hl,λc w cI j u aY=>?_⟩;rw[Et];have rA:=cI;obtain⟨⟨aC,bX,hg⟩,ho,hk⟩:=cI;obtain⟨r,JF,l6⟩:=bD;have HK:=(bX.p3 r JF).sub l6;cases HK with
 |mk XV hc hm cV DC RJ=>
  rw[aCb rows cV j hs]at aY;cases aGq:rows[j/size]? with
  |none=>rw[aGq]at aY;cases aY
  |some row=>rw[aGq]at aY;have:=a3O rA (aR:=size) (len:=len) (cap:=cap) (i:=j/size) (j:=j%size) (j6:=some ⟨b,off,none⟩) (rows:=rows) (eQ:=eQ) ⟨r,JF,l6⟩ aGq aY;rw[<-this];simp only[zI,pJ,Tm];congr 2;have:=Nat.div_add_mod j size;rw[a8T]at this;omega
section
variable{P:Program}{bA:Operand->Value}{L:List a5}{R:List fG}{dst:Option Tmp}{ty:TypeId}{pos:String}{after:Array Edge}{guard:Option (Nat×Bool)}(O:pP P){T:TypeId}{x y:Operand}
def L0{e n Z g5 z eE fL qR nC iX len}{ps:List (Nat×Operand)}{hN:List (Nat×List Value)}{cU:List Value}(dN:hT O.g2 T=some ⟨.slice e,n,Z,g5,z⟩)(c1:hT O.g2 e=some ⟨eE,fL,qR,nC,iX⟩)
 (zM:iX.length=fL) (F2:Nat.ble (len*fL) 16777216=true) (Bg:Nat.beq (len*fL) 0=false) (hq:a0W bA ps=hN) (hf:Zv fL (CX iX len) hN=some cU):
 eD P ⟨dst,.buildSlice T len ps.toArray,ty,pos,after,guard⟩ bA L R (λv E G=>∃b,v=.slice (some ⟨b,0,none⟩) len len/\E=⟨b,cU,e⟩::L/\G=R):=by
 intro c w hs a next Q hB
 have c4:=QX (O.ok _ _ dN) rfl;have aTL:=run_sizeOf (O.ok _ _ c1) w;obtain⟨qJ,zO,HP⟩:=Yr (O.ok _ _ c1) w;simp only at aTL HP;subst hq;rw[aLn]at hf;have BU:qJ.cells.size=fL:=by rw[<-zM,<-HP];simp
 have K8:((Array.range (len*fL)).map (qJ.cells[·%qJ.cells.size]!))=(CX iX len).toArray:=by have:=aNB qJ.cells len;rw[HP,BU]at this;rw[<-this,BU]
 have aEZ:=aL5 fL (ps.map λp=>(p.1,bA p.2)) (CX iX len) cU hf;have aFo:(ps.toArray.map λ(p:Nat×Operand)=>(p.1,bA p.2)).toList=ps.map λp=>(p.1,bA p.2):=by simp
 have bAW:¬(len*fL>2^24):=by have:=LM F2;omega
 have bQ:¬(len*fL=0):=λh=>by rw[h]at Bg;cases Bg
 have aE5:(Instr.buildSlice T len (ps.toArray.map λ(p:Nat×Operand)=>(p.1,bA p.2))).run P w=.ok (.slice (some ⟨w.heap.size,0,none⟩) len len) (w.alloc (.cells cU.toArray e)):=by unfold Instr.buildSlice;simp only[y5,run_underlying c4,wO,aTL];rw[if_neg bAW,if_neg bQ];simp only[y5,zO,wO,NL,aFo];rw[K8,aEZ];simp[newRow]
 refine TQ (w':=w.alloc (.cells cU.toArray e)) (v:=.slice (some ⟨w.heap.size,0,none⟩) len len) ?_ (hB _ _ _ _ ⟨w.heap.size,rfl,rfl,rfl⟩ (hs.alloc _ _));have dY:execOp bA ⟨dst,.buildSlice T len ps.toArray,ty,pos,after,guard⟩=(do pure (.value (<-Instr.buildSlice T len (ps.toArray.map λ(p:Nat×Operand)=>(p.1,bA p.2))))):=rfl;rw[dY];simp only[y5,aE5,wO,NL]
def b2k{e n Z g5 z eE fL qR nC iX i2 eV}{m:Nat}{i j:Int}(dN:hT O.g2 T=some ⟨.slice e,n,Z,g5,z⟩)(c1:hT O.g2 e=some ⟨eE,fL,qR,nC,iX⟩)(zM:iX.length=fL)
 (K:bA x=.int i2 i) (aN:bA y=.int eV j) (aA:i=(m:Int)) (aY:j=(m:Int)) (hb:nC*m<=281474976710656) (hm:m<=9223372036854775807):
 eD P ⟨dst,.makeSlice T x y,ty,pos,after,guard⟩ bA L R (λv E G=>∃b,v=.slice (some ⟨b,0,none⟩) m m/\E=⟨b,CX iX m,e⟩::L/\G=R):=by
 intro c w hs a next Q hB
 subst aA;subst aY;have c4:=QX (O.ok _ _ dN) rfl;obtain⟨jB,u,qJ,N,V,aQ,b7⟩:=MA (O.ok _ _ c1);have F2:jB.size=fL:=by have:=congrArg jT.PF b7;simpa[KA]using this.symm
 have FU:jB.bytes=nC:=by have:=congrArg jT.g5 b7;simpa[KA]using this.symm
 have eC:qJ.cells.toList=iX:=by have:=congrArg jT.z b7;simpa[KA]using this.symm
 have BU:qJ.cells.size=fL:=by rw[<-zM,<-eC];simp
 have An:(jB.bytes:Int)*(m:Int)<=281474976710656:=by rw[FU,<-Int.natCast_mul];omega
 have M:=run_make (P:=P) w T e jB qJ c4 N aQ i2 eV (m:Int) (m:Int) D (oE _) An D;have K8:madeCells qJ.cells ((m:Int).toNat*jB.size)=(CX iX m).toArray:=by have:=aNB qJ.cells m;rw[eC,BU]at this;rw[vY,F2,madeCells,<-this,BU]
 rw[K8,vY]at M;refine TQ (w':=w.alloc (.cells (CX iX m).toArray e)) (v:=.slice (some ⟨w.heap.size,0,none⟩) m m) ?_ (hB _ _ _ _ ⟨w.heap.size,rfl,rfl,rfl⟩ (hs.alloc _ _));simp[execOp,K,aN,M]
def a43{e n Z g5 z eE fL qR nC iX}{s:gZ}{xs uL:List Value}{len m:Nat}{f:List a5->List a5}(dN:hT O.g2 T=some ⟨.slice e,n,Z,g5,z⟩)(c1:hT O.g2 e=some ⟨eE,fL,qR,nC,iX⟩)(zM:iX.length=fL)
 (K:bA x=s.val len) (hok:s.ok fL xs len) (vQ:J4 (s.L e xs) L f) (hs:Fm L R (bA y) m fL uL) (hm:0<m) (N:uL.all (·.oneCell')=true) (rU:len+m<=9223372036854775807) (MR:(len+m)*nC<=140737488355328):
 eD P ⟨dst,.call ⟨.builtin .append,#[x,y],#[T,T]⟩,ty,pos,after,guard⟩ bA L R (λv E G=>∃g cap spare,v=(gZ.own g cap spare).val (len+m)/\(gZ.own g cap spare).ok fL (xs++uL) (len+m)/\E=f ((gZ.own g cap spare).L e (xs++uL))/\G=R):=by
 intro c w cI a next Q hB
 have c4:=QX (O.ok _ _ dN) rfl;obtain⟨jB,u,qJ,UV,Pl,Cb,Vm⟩:=MA (O.ok _ _ c1);have F2:jB.size=fL:=by have:=congrArg jT.PF Vm;simpa[KA]using this.symm
 have FU:jB.bytes=nC:=by have:=congrArg jT.g5 Vm;simpa[KA]using this.symm
 have eC:qJ.cells.toList=iX:=by have:=congrArg jT.z Vm;simpa[KA]using this.symm
 have BU:qJ.cells.size=fL:=by rw[<-zM,<-eC];simp
 obtain⟨uC,a0O,aN,Ba,bCb⟩:=hs;have Um:=bCb c w cI;obtain⟨A,B,c2,hf⟩:=vQ.split;have bD9:∀u∈uL,u.oneCell'=true:=List.all_eq_true.1 N;have dY:execOp bA ⟨dst,.call ⟨.builtin .append,#[x,y],#[T,T]⟩,ty,pos,after,guard⟩=(do pure (.value (<-Builtin.append_ #[T,T] ty #[bA x,bA y]))):=by exact a8o
 have Qx:∀k,(Builtin.zeroCells qJ.cells k).toList.length=k*fL:=λk=>by rw[aH5,size_zeroCells,BU]
 -- the ends of both kinds
 have aUm:∀(qV:Nat) (aLJ:List a5),aLJ=A++B->dL c (A++B) R w->qV<len+m->xs.length=len*fL->
  (∀aHW:World,aHW=w.drew.alloc (.cells (xs.toArray++uL.toArray++Builtin.zeroCells qJ.cells (grownCap w (len+m) qV e-(len+m))) e)->
   next (a.put dst (.slice (some ⟨w.heap.size,0,none⟩) (len+m) (grownCap w (len+m) qV e))) aHW):=by
  intro qV aLJ aSl Oz ho RM aHW bE8;have aE4:=grownCap_ge w (len+m) qV e;have bCh:grownCap w (len+m) qV e<=maxLen:=grownCap_le_maxLen w (len+m) qV e Qn;have V:=(Oz.drew).alloc (xs.toArray++uL.toArray++Builtin.zeroCells qJ.cells (grownCap w (len+m) qV e-(len+m))) e;rw[bE8];refine hB _ _ R _ ⟨w.heap.size,grownCap w (len+m) qV e,(Builtin.zeroCells qJ.cells (grownCap w (len+m) qV e-(len+m))).toList,rfl,⟨?_,aE4,bCh,?_⟩,rfl,rfl⟩ ?_;·rw[iD,RM,Ba,Qd]
  ·rw[iD,iD,RM,Ba,Qx,<-Qd,<-Qd];congr 1;omega
  ·rw[hf];refine V.DJ ?_;simp only[gZ.L,World.size_drew,Array.toList_append,mQ,oF,m0];exact List.perm_middle.symm
 cases s with
 |nil=>
  obtain⟨rfl,rfl⟩:=hok;simp only[gZ.L,EX]at c2;have M:=run_append_nil (P:=P) w T ty e jB qJ c4 UV Cb uC m a0O uL (by rw[F2];exact Ba) Um hm D (by rw[FU];simp only[PJ]at MR;omega);have Oz:dL c (A++B) R w:=by rw[<-c2];exact cI
  refine TQ (w':=_) (v:=_) (h:=?_) (k:=aUm 0 _ rfl Oz D fX _ rfl);rw[dY,K,aN];simp only[gZ.val,y5,M,wO,NL,PJ];simp
 |own g cap spare=>
  obtain⟨Ig,a2q,a2r,Ci⟩:=hok;have DC:(⟨g,xs++spare,e⟩:a5)∈L:=by rw[c2];simp[gZ.L]
  have hb:w.heap[g]?=some (.cells (xs++spare).toArray e (0,0)):=by obtain⟨⟨aC,bX,_⟩,_,_⟩:=cI;exact bX.own _ DC
  by_cases a7q:len+m<=cap;·
   (have pV:len*jB.size+uL.length<=(xs++spare).toArray.size:=by rw[F2,Ba,aIe,Ci,<-Qd];exact a2L _ a7q);have M:=run_append_room (P:=P) w T ty e jB c4 UV g len cap (xs++spare).toArray hb uC m a0O uL (by rw[F2];exact Ba) Um bD9 a7q pV;(have rS:(List.take (len*jB.size) (xs++spare).toArray.toList++uL++List.drop (len*jB.size+uL.length) (xs++spare).toArray.toList)=(xs++uL)++spare.drop uL.length:=by rw[F2,<-Ig];simp only[List.take_left',mQ];have bQ:List.drop (xs.length+uL.length) xs=[]:=a8Q D;(have V:xs.length+uL.length-xs.length=uL.length:=by omega);rw[List.drop_append,bQ,V,m0]);rw[rS]at M;(have bE0:uS g (xs++spare) e ((xs++uL)++spare.drop uL.length) L (f ((gZ.own g cap (spare.drop uL.length)).L e (xs++uL))):=by rw[c2,hf];simp only[gZ.L,mQ,oF,m0];exact .xJ .mW);refine TQ (w':=_) (v:=_) (h:=?_) (k:=hB (.slice (some ⟨g,0,none⟩) (len+m) cap) _ R _ ⟨g,cap,spare.drop uL.length,rfl,⟨?_,a7q,a2r,?_⟩,rfl,rfl⟩ (cI.setRow bE0));·rw[dY,K,aN];simp only[gZ.val,y5,M,wO,NL]
   ·rw[iD,Ig,Ba,Qd]
   ·rw[iD]at Ci;have eG:(len+m)*fL<=cap*fL:=a2L _ a7q;rw[Qd,<-Ig,<-Ba]at eG;simp only[iD,F9];omega
  ·(have holds:∀j v,xs[j]?=some v->w.cell? ((⟨g,0,none⟩:Addr).add j)=some v:=λj v aY=>by exact aXB);have M:=run_append_grow (P:=P) w T ty e jB qJ c4 UV Cb ⟨g,0,none⟩ len cap xs (by rw[F2];exact Ig) holds uC m a0O uL (by rw[F2];exact Ba) Um D D (growslice_fits D (by rw[FU];exact MR));(have Oz:dL c (A++B) R w:=by refine cI.vB ?_ (λr M=>⟨r,M,.mW⟩);rw[c2];exact a8G (aHZ _ _) g3);refine TQ (w':=_) (v:=_) (h:=?_) (k:=aUm cap _ rfl Oz D Ig _ rfl);rw[dY,K,aN];simp only[gZ.val,y5,M,wO,NL]
end
def dL.KV{c:y7}{L:List a5}{R:List fG}{w:World}{b:Nat}{cs:List Value}{T:TypeId}{aR len cap:Nat}{rows:List (List Value)}{eQ:List fG}(h:dL c (⟨b,cs,T⟩::L) R w)
 (hl:rows.length=len) (hc:len<=cap) (hm:cap<9223372036854775808) (cV:∀r∈rows,r.length=aR) (hp:0<aR) (rS:cs.take (len*aR)=rows.flatten) (l6:∀s∈eQ,aH s R):
 dL c L (.mk aR (some ⟨b,0,none⟩) len cap rows eQ::R) w:=by
 obtain⟨⟨aC,bX,hg⟩,ho,hk⟩:=h;have hb:=bX.own ⟨b,cs,T⟩ fX;have u5:=bX.nR;simp only[y3,YO]at u5;have up:∀s,tW w aC s->tW w (λx=>aC x\/x=b) s:=λs hs=>hs.mono (λ_ h=>.inl h) (λ_ _=>rfl);have jH:b<w.heap.size:=bX.lt (e:=⟨b,cs,T⟩) fX;refine⟨⟨λx=>aC x\/x=b,⟨u5.2,λe X=>bX.own e (by simp[X]),λe X K=>?_,λx K=>?_,λr M=>?_⟩,λx K=>?_⟩,λe X=>ho e (by simp[X]),hk⟩;·
  rcases K with K|K;·exact bX.u7 e (by simp[X]) K
  ·exact u5.1 (List.mem_map.2 ⟨e,X,K⟩)
 ·
  rcases K with K|rfl;·exact bX.tH x K
  ·exact jH
 ·
  rcases List.mem_cons.1 M with rfl|M;·
   refine .mk hl hc hm cV ?_ (λs hs=> ?_);·refine .inr ⟨b,0,rfl,.inr rfl,λi j aA aY=> ?_⟩;(have N:w.cell? ⟨b,0+i*aR+j,none⟩=cs[i*aR+j]?:=by simp only[VQ.Vr]at hb;simp[World.cell?,hb]);rw[N];(have V:i*aR+j<len*aR:=by have:(i+1)*aR<=len*aR:=a2L _ aA;rw[PK]at this;omega);(have aQ:cs[i*aR+j]?=rows.flatten[i*aR+j]?:=by rw[<-rS,Cw,if_pos V]);rw[aQ,aCb rows cV _ hp];(have d1:(i*aR+j)/aR=i:=by rw[a8T,Nat.mul_add_div hp,Nat.div_eq_of_lt aY,Nat.add_zero]);(have d2:(i*aR+j)%aR=j:=by rw[a8T,Nat.mul_add_mod,a2R aY]);rw[d1,d2]
   ·obtain⟨r,M,RJ⟩:=l6 s hs;exact up _ ((bX.p3 r M).sub RJ)
  ·exact up _ (bX.p3 r M)
 ·
  rcases K with K|rfl;·exact hg x K
  ·
   rcases ho ⟨x,cs,T⟩ fX with h|h;·exact .inr (.inr h)
   ·exact .inr (.inl h)
def aMO{P:Program}{n:Nat}{all:Array Oper}{ops:List Oper}{t:Nat->Value}{L:List a5}{R:List fG}{Q:gA}{b:Nat}{cs:List Value}{T:TypeId}{aR len cap:Nat}{rows:List (List Value)}{eQ:List fG}
 (hl:rows.length=len) (hc:len<=cap) (hm:cap<9223372036854775808) (cV:∀r∈rows,r.length=aR) (hp:0<aR) (rS:cs.take (len*aR)=rows.flatten) (l6:∀s∈eQ,aH s R)
 (h:c6 P n all ops t L (.mk aR (some ⟨b,0,none⟩) len cap rows eQ::R) Q):c6 P n all ops t (⟨b,cs,T⟩::L) R Q:=
 λc a w hf hs=>h c a w hf (hs.KV hl hc hm cV hp rS l6)
def JM{P:Program}{n:Nat}{all:Array Oper}{ops:List Oper}{t:Nat->Value}{L:List a5}{R:List fG}{Q:gA}{b:Nat}{cs:List Value}{T:TypeId}(aR len cap:Nat)(rows:List (List Value))(eQ:List fG)(cV:∀r∈rows,r.length=aR)(h:c6 P n all ops t L (.mk aR (some ⟨b,0,none⟩) len cap rows eQ::R) Q)(hl:rows.length=len:=by exact rfl)(hc:len<=cap:=by exact bH)(hm:cap<9223372036854775808:=by exact bH)(hp:0<aR:=by exact bH)(rS:cs.take (len*aR)=rows.flatten:=by exact rfl)(l6:∀s∈eQ,aH s R:=by exact lQ):c6 P n all ops t (⟨b,cs,T⟩::L) R Q:=aMO (aR:=aR) (len:=len) (cap:=cap) (rows:=rows) (eQ:=eQ) (hl:=hl) (hc:=hc) (hm:=hm) (cV:=cV) (hp:=hp) (rS:=rS) (l6:=l6) (h:=h)
def b5h{P:Program}{n:Nat}{code:Code}{t:Nat->Value}{L E:List a5}{R:List fG}{Q:gA}(hp:L.Perm E)(h:cH P n code t E R Q):cH P n code t L R Q:=
 λc a w hf hs=>h c a w hf (hs.DJ hp)
def uV{P:Program}{n:Nat}{code:Code}{t:Nat->Value}{L E:List a5}{R G:List fG}{Q:gA}(c2:E.Sublist L)(bD:∀r∈G,aH r R)(h:cH P n code t E G Q):cH P n code t L R Q:=
 λc a w hf hs=>h c a w hf (hs.vB c2 bD)
def Z7(bV:List Nat)(cL fY:List a5)(d:Option Tmp):List a5:=match d with
 |some d=>bif bV.contains d then fY else cL
 |none=>fY
def GQ(bV:List Nat)(ops:Array Oper)(k:Nat):Bool:=match(ops[k]?).bind (·.dst)with
 |some d=>bV.contains d
 |none=>true
def aKC{bV:List Nat}{cL fY:List a5}{ops:Array Oper}{i:Nat}{o:Oper}(pC:ops[i]?=some o):Z7 bV cL fY o.dst=if GQ bV ops i=true then fY else cL:=by
 have h:GQ bV ops i=(match o.dst with|some d=>bV.contains d|none=>true):=by unfold GQ;rw[pC];rfl
 rw[h];obtain⟨d,op,ty,pos,bIn,g⟩:=o;cases d with
 |none=>rfl
 |some d=>
  simp only[Z7];by_cases hc:bV.contains d=true;·rw[if_pos hc,hc];rfl
  ·rw[if_neg hc,Bool.eq_false_iff.2 hc];rfl
def w8(P:Program)(O:pP P)(n:Nat)(all:Array Oper)(bV:List Nat)(cL fY:List a5)(fO:gA):List Oper->(Nat->Value)->List a5->List fG->Prop
 |[],t,L,R=>fO .normal t L R
 |o::aB,t,L,R=>XD n o.dst=true/\
  ((oH all t o.guard=false/\lF o.op≠1/\w8 P O n all bV cL fY fO aB (z8 t o.dst undef) L R)\/
   (oH all t o.guard=true/\lF o.op=0/\∃v,cJ P o (h9 t) (Z7 bV cL fY o.dst) R v/\w8 P O n all bV cL fY fO aB (z8 t o.dst v) L R)\/
   (lF o.op=1/\∃T,o.op=.alloc T/\∀b,w8 P O n all bV cL fY fO aB (z8 t o.dst (.pointer (some ⟨b,0,none⟩))) (⟨b,YQ O T,T⟩::L) R)\/
   (oH all t o.guard=true/\lF o.op=2/\∃Post,eD P o (h9 t) L R Post/\∀v E G,Post v E G->cL.Sublist E/\(∀r∈R,aH r G)/\w8 P O n all bV cL fY fO aB (z8 t o.dst v) E G))
def a5Q(ops:Array Oper)(i:Nat)(mS:List Nat)(k:Nat):Bool:=Nat.beq k i||(match ops[k]? with
 |some o=>o.after.any λe=>Region.binds .any e && mS.contains e.on
 |none=>false)
def Zr(ops:Array Oper)(i:Nat)(i7:List Nat):List Nat:=i7.foldl (λmS k=>bif a5Q ops i mS k then k::mS else mS) []
def Ze(n:Nat)(gC:List Nat)(mS:List Nat):Array Bool:=(Array.range n).map λi=>gC.contains i && !mS.contains i
def LW(ops:Array Oper)(dF:Array Bool):Prop:=∀j mN,ops[j]?=some mN->dF.getD j true=true->∀e∈mN.after,Region.binds .any e=true->dF.getD e.on false=true
def LW.set{ops:Array Oper}{dF:Array Bool}(h:LW ops dF){j:Nat}(aY:j∈Region.ready .any ops dF):LW ops (dF.setIfInBounds j true):=by
 intro k ok hk hl e X hb;by_cases HI:j=k;·subst HI;obtain⟨_,o,ho,sB⟩:=mem_ready.1 aY;obtain rfl:o=ok:=y2 (ho.symm.trans hk);exact getD_set_true (sB e X hb)
 ·rw[getD_set_ne true HI]at hl;exact getD_set_true (h k ok hk hl e X hb)
def LW.zero{ops:Array Oper}:LW ops (Array.replicate ops.size false):=by intro j mN aY hl;have:j<ops.size:=(Array.getElem?_eq_some_iff.1 aY).1;simp[this]at hl
def b74{ops:Array Oper}{i:Nat}{dF:Array Bool}(hc:LW ops dF)(aA:dF.getD i true=false)(i7:List Nat):∀k∈Zr ops i i7,dF.getD k true=false:=by
 have key:∀(i7 mS:List Nat),(∀k∈mS,dF.getD k true=false)->∀k∈i7.foldl (λmS k=>bif a5Q ops i mS k then k::mS else mS) mS,dF.getD k true=false:=by
  intro i7;induction i7 with
  |nil=>intro mS h;exact h
  |cons x i7 cM=>
   intro mS h;rw[List.foldl_cons];refine cM _ ?_;cases K:a5Q ops i mS x with
   |false=>rw[cond_false];exact h
   |true=>
    rw[cond_true];intro k hk;rcases List.mem_cons.1 hk with rfl|hk;·
     simp only[a5Q,Qj,Iz]at K;rcases K with rfl|K;·exact aA
     ·
      cases ho:ops[k]? with
      |none=>rw[ho]at K;cases K
      |some o=>
       rw[ho]at K;obtain⟨e,X,K⟩:=Array.any_eq_true'.1 K;simp only[oS]at K;cases hl:dF.getD k true with
       |false=>rfl
       |true=>
        have N:=hc k o ho hl e X K.1;have V:=h e.on (by simpa using K.2);rcases gY e.on dF.size with cN|cN;·simp[cN]at N V;rw[N]at V;cases V
        ·simp[LL cN]at N
    ·exact h k hk
 exact key i7 [] (λk hk=>by cases hk)
def VI(bV:List Nat)(ops:Array Oper)(gC dJ:List Nat):Bool:=
 (dJ.all λk=>!Nat.beq (wZ ops k) 1 && !gC.contains k) &&
 (gC.all λk=>Nat.blt k ops.size && (!Nat.beq (wZ ops k) 0||GQ bV ops k||(Region.ready .any ops (Ze ops.size gC (Zr ops k gC))).all λj=>!dJ.contains j)) &&
 ((List.range ops.size).all λk=>gC.contains k||dJ.contains k)
section
variable{P:Program}{ops:Array Oper}{bV:List Nat}{Q:Exit->Act->World->Prop}{S e2:World->Prop}{gC dJ:List Nat}
def b3F(h:VI bV ops gC dJ=true){k:Nat}(hk:k∈dJ):wZ ops k≠1:=by simp only[VI,oS]at h;have:=List.all_eq_true.1 h.1.1 k hk;simp only[oS]at this;intro e;rw[e]at this;exact absurd this.1 bH
def Tk(h:VI bV ops gC dJ=true){k:Nat}(hk:k∈dJ):k∉gC:=by simp only[VI,oS]at h;have:=List.all_eq_true.1 h.1.1 k hk;simp only[oS,a2N]at this;intro hm;rw[List.contains_iff_mem.2 hm]at this;cases this.2
def b7p(h:VI bV ops gC dJ=true){i:Nat}(aA:i∈gC)(hk:wZ ops i=0)(hp:GQ bV ops i=false){dF:Array Bool}(i1:LW ops dF)(EA:dF.size=ops.size)(HD: ∀k∈dJ,dF.getD k true=false)(hl:dF.getD i true=false)
 {j:Nat} (aY:j∈Region.ready .any ops dF):j∉dJ:=by
 simp only[VI,oS]at h;obtain⟨⟨_,N⟩,FW⟩:=h;have V:=List.all_eq_true.1 N i aA;simp only[hk,hp,oS]at V;have aQ:((Region.ready .any ops (Ze ops.size gC (Zr ops i gC))).all λj=>!dJ.contains j)=true:=by have b7:=V.2;rw[show Nat.beq 0 0=true from rfl]at b7;simpa using b7
 intro OW;obtain⟨bQ,o,ho,sB⟩:=mem_ready.1 aY;have Oa:j<ops.size:=(Array.getElem?_eq_some_iff.1 ho).1;have a67:j∉gC:=Tk (by simp only[VI,oS];exact⟨⟨by assumption,N⟩,FW⟩) OW;have:j∈Region.ready .any ops (Ze ops.size gC (Zr ops i gC)):=by
  refine mem_ready.2 ⟨by simp[Ze,Oa,a67],o,ho,λe X hb=>?_⟩;have eG:=sB e X hb;have jH:e.on<ops.size:=by
   rcases gY e.on dF.size with cN|cN;·rw[EA]at cN;exact cN
   ·simp[LL cN]at eG
  have gF:dF.getD e.on true=true:=by(have:e.on<dF.size:=by rw[EA];exact jH);simp[this]at eG|-;exact eG
  have jN:e.on∈gC:=by
   have iF:=List.all_eq_true.1 FW e.on (List.mem_range.2 jH);simp only[Qj,List.contains_iff_mem]at iF;rcases iF with h|h;·exact h
   ·rw[HD _ h]at gF;cases gF
  have iO:e.on∉Zr ops i gC:=λX=>by rw[b74 i1 hl gC _ X]at gF;cases gF
  simp[Ze,jH,jN,iO]
 have:=List.all_eq_true.1 aQ j this;rw[List.contains_iff_mem.2 OW]at this;cases this
def JP(P:Program)(ops:Array Oper)(Q:Exit->Act->World->Prop)(S e2:World->Prop)(dJ:List Nat):Nat->Array Bool->Act->World->Prop
 |0,dF,a,w=>Region.ready .any ops dF=[]/\Q .normal a w
 |h0+1,dF,a,w=>(Region.ready .any ops dF=[]->Q .normal a w)/\
  ∀i∈Region.ready .any ops dF,wpOp P ops Q i (λfE w'=>(e2 w'/\(dJ.any (λk=>(dF.setIfInBounds i true).getD k false)=true\/S w'))/\JP P ops Q S e2 dJ h0 (dF.setIfInBounds i true) fE w') a w
def aAh: ∀(h0:Nat) (dF:Array Bool) (a:Act) (w:World),JP P ops Q S e2 dJ h0 dF a w->wpAny P .any ops Q h0 dF a w
 |0,_,_,_,h=>h
 |h0+1,_,_,_,h=>⟨h.1,λi aA=>wpOp_mono (λfE w' cN=>aAh h0 _ fE w' cN.2) (h.2 i aA)⟩
def a0f{h0:Nat}{dF:Array Bool}{a:Act}{w:World}(iO:Region.ready .any ops dF≠[])
 (h:∀i∈Region.ready .any ops dF,wpOp P ops Q i (λfE w'=>(e2 w'/\(dJ.any (λk=>(dF.setIfInBounds i true).getD k false)=true\/S w'))/\JP P ops Q S e2 dJ h0 (dF.setIfInBounds i true) fE w') a w):JP P ops Q S e2 dJ (h0+1) dF a w:=
 ⟨λbQ=>absurd bQ iO,h⟩
def aAn{Ej a4H:World->Prop}(dW: ∀w,Ej w->S w)(uI: ∀w,a4H w->e2 w): ∀(f:Nat) (l:Array Bool) (a:Act) (w:World),JP P ops Q Ej a4H dJ f l a w->JP P ops Q S e2 dJ f l a w
 |0,_,_,_,h=>h
 |f+1,_,_,_,h=>⟨h.1,λi aA=>wpOp_mono (λfE w' cN=>⟨⟨uI _ cN.1.1,cN.1.2.imp id (dW _)⟩,aAn dW uI f _ fE w' cN.2⟩) (h.2 i aA)⟩
def a5v{dF:Array Bool}(h:∀k∈dJ,dF.getD k true=false):dJ.any (λk=>dF.getD k false)=false:=by
 cases hb:dJ.any (λk=>dF.getD k false)with
 |false=>rfl
 |true=>
  obtain⟨k,hk,hl⟩:=List.any_eq_true.1 hb;have:=h k hk;rcases gY k dF.size with cN|cN;·simp[cN]at this hl;rw[this]at hl;cases hl
  ·simp[LL cN]at hl
def aLU{i:Nat}{NB:Oper}{v:Value}(eC:VI bV ops gC dJ=true)(BR:i∈gC)(yR:wZ ops i=0)(aA:ops[i]? =some NB)(LB: ∀(j:Nat) (o:Oper) cs b,ops[j]? =some o->o.op≠ .select cs b)
 (T3: ∀c a w,Q (.panic c) (a.put NB.dst v) w->Q (.panic c) a w) (h0:Nat) (dF:Array Bool) (a:Act) (w:World) (i1:LW ops dF) (EA:dF.size=ops.size) (HD: ∀k∈dJ,dF.getD k true=false)
  (MV:∀j mN,ops[j]?=some mN->j≠i->dF.getD j true=false->(∀e∈mN.after,Region.binds .any e=true->e.on≠i)->NB.apart ops mN=true)
  (M:i∈Region.ready .any ops dF) (aN:YieldsIf P ops (if GQ bV ops i=true then e2 else S) NB v a) (dW:S w) (XN:∀w,S w->e2 w)
  (H:JP P ops Q S e2 dJ h0 (dF.setIfInBounds i true) (a.put NB.dst v) w):JP P ops Q S e2 dJ (h0+1) dF a w:=by
 -- what holds of it for as long as it has not come up
 let FK:World->Prop:=if GQ bV ops i=true then e2 else S;have bFe:YieldsIf P ops FK NB v a:=aN;have aSx:∀w,S w->FK w:=by
  intro w cV;show(if GQ bV ops i=true then e2 else S) w;split;·exact XN w cV
  ·exact cV
 have bBI:GQ bV ops i=true->∀w,e2 w->FK w:=by intro hp w cV;show(if GQ bV ops i=true then e2 else S) w;rw[if_pos hp];exact cV
 have HP:GQ bV ops i=false->∀dF:Array Bool,LW ops dF->dF.size=ops.size->(∀k∈dJ,dF.getD k true=false)->dF.getD i true=false->∀j∈Region.ready .any ops dF,j∉dJ:=λhp dF i1 EA HD hl j aY=>
  b7p eC BR yR hp i1 EA HD hl aY
 have K7:i∉dJ:=λh=>Tk eC h BR;clear eC aN
 -- along all orders
 have bFN:∀(h0:Nat) (dF:Array Bool) (a:Act) (w:World),LW ops dF->dF.size=ops.size->(GQ bV ops i=false->∀k∈dJ,dF.getD k true=false)->
  (∀j mN,ops[j]?=some mN->j≠i->dF.getD j true=false->(∀e∈mN.after,Region.binds .any e=true->e.on≠i)->NB.apart ops mN=true)->
  i∈Region.ready .any ops dF->YieldsIf P ops FK NB v a->FK w->e2 w->(dJ.any (λk=>dF.getD k false)=true\/S w)->
  JP P ops Q S e2 dJ h0 (dF.setIfInBounds i true) (a.put NB.dst v) w->JP P ops Q S e2 dJ (h0+1) dF a w:=by
  intro h0;induction h0 with
  |zero=>
   intro dF a w _ EA HD _ M aN AG uI dW H;refine a0f (Wx M) λj aY=>?_;by_cases RC:j=i;·exact aWA
   ·have:=ready_mono aY RC;rw[H.1]at this;cases this
  |succ h0 cM=>
   intro dF a w i1 EA HD MV M aN AG uI dW H;refine a0f (Wx M) λj aY=>?_;by_cases RC:j=i;·exact aWA
   ·
    have N:=H.2 j (ready_mono aY RC);obtain⟨aS7,mN,M1,sB⟩:=mem_ready.1 aY;have bDw:∀e∈mN.after,Region.binds .any e=true->e.on≠i:=λe X hb MT=>by
     have N:=sB e X hb;have bQ:=(mem_ready.1 M).1;rw[MT]at N;rcases gY i dF.size with cN|cN;·simp[cN]at bQ N;rw[bQ]at N;cases N
     ·simp[LL cN]at N
    have bCK:∀k ok,ops[k]?=some ok->k≠i->(dF.setIfInBounds j true).getD k true=false->(∀e∈ok.after,Region.binds .any e=true->e.on≠i)->NB.apart ops ok=true:=by
     intro k ok hk iO hl w6;refine MV k ok hk iO ?_ w6;by_cases aS6:j=k;·subst aS6;exact aS7
     ·rwa[getD_set_ne true aS6]at hl
    (have bDf:(dF.setIfInBounds j true).size=ops.size:=by simp[EA]);(have aSk:GQ bV ops i=false->∀k∈dJ,(dF.setIfInBounds j true).getD k true=false:=λhp k hk=>by have OW:=HP hp dF i1 EA (HD hp) (mem_ready.1 M).1 j aY;rw[getD_set_ne true (show¬j=k from λe=>OW (e▸hk))];exact HD hp k hk);have V:=wpOp_putIf M1 (MV j mN M1 RC aS7 bDw) (λcs b=>LB i NB cs b aA) (λcs b=>LB j mN cs b M1) T3 aN N;(have nB:∀{l:Array Bool},dJ.any (λk=>(l.setIfInBounds i true).getD k false)=true->dJ.any (λk=>l.getD k false)=true:=by intro l h;obtain⟨k,hk,hl⟩:=List.any_eq_true.1 h;refine List.any_eq_true.2 ⟨k,hk,?_⟩;rwa[getD_set_ne false (show¬i=k from λe=>K7 (e▸hk))]at hl);refine wpOp_mono (λfE w' aQ=>?_) V;obtain⟨a2f,⟨b2,hc⟩,aTH⟩:=aQ;have bCk:(dF.setIfInBounds i true).setIfInBounds j true=(dF.setIfInBounds j true).setIfInBounds i true:=by
     first
      |exact Array.setIfInBounds_comm _ _ RC
      |exact Array.setIfInBounds_comm _ _ (Cz RC)
    rw[bCk]at aTH hc;have Gs:dJ.any (λk=>(dF.setIfInBounds j true).getD k false)=true\/S w':=hc.imp (λh=>nB h) id;have bBG:FK w':=by
     cases hp:GQ bV ops i with
     |true=>exact bBI hp w' b2
     |false=>exact aSx w' (Gs.resolve_left (by rw[a5v (aSk hp)];decide))
    exact⟨⟨b2,Gs⟩,cM (dF.setIfInBounds j true) fE w' (i1.set aY) bDf aSk bCK (ready_mono M (Cz RC)) a2f bBG b2 Gs aTH⟩
 exact bFN h0 dF a w i1 EA (λ_=>HD) MV M bFe (aSx w dW) (XN w dW) (.inr dW) H
end
section
variable{P:Program}{O:pP P}{n:Nat}{ops:Array Oper}{c:y7}{cL:List a5}{fO:gA}
def aLm{Q:Exit->Act->World->Prop}{S e2:World->Prop}{dJ:List Nat}:∀(h0:Nat) (dF:Array Bool) (a:Act) (w:World),dF.size=ops.size->(∀k,k<ops.size->k∉dJ->dF.getD k true=true)->
 wpAnyH P .any ops Q e2 h0 dF a w->JP P ops Q S e2 dJ h0 dF a w
 |0,_,_,_,_,_,h=>h
 |h0+1,dF,_,_,EA,sB,h=>⟨h.1,λi aA=>by
  obtain⟨bQ,o,ho,_⟩:=mem_ready.1 aA
  have Ny:i<ops.size:=(Array.getElem?_eq_some_iff.1 ho).1
  have K7:i∈dJ:=by
   rcases GA (i∈dJ)with h|h
   ·exact h
   ·rw[sB i Ny h]at bQ;cases bQ
  refine wpOp_mono (λfE w' cN=>⟨⟨cN.1,.inl (List.any_eq_true.2 ⟨i,K7,ZP (by rw[EA];exact Ny) false⟩)⟩,aLm h0 _ fE w' (by simp[EA]) (λk hk hn=>?_) cN.2⟩) (h.2 i aA)
  by_cases a1C:i=k
  ·subst a1C;exact ZP (by rw[EA];exact Ny) true
  ·rw[getD_set_ne true a1C];exact sB k hk hn⟩
def aJh{Eh:gA}{dJ:List Nat}{fY:List a5}{S:World->Prop}(LB:Region.noSelect ops=true)(hD:Lk O n ops=true){os:List Oper}{h0:Nat}{done dF:Array Bool}{t:Nat->Value}{L:List a5}{R:List fG}{a:Act}{w:World}
 (wH:dJ.map (ops[·]?)=os.map some) (eB:N6 ops done dJ=true) (c1:YV O n ops done dF []) (pB:done.size=ops.size) (JC:dJ.length<=h0) (FW:∀i,i<ops.size->done.getD i true=false->i∈dJ) (kS:nU n (EH t []) a) (cI:dL c (Z4 O []++L) R w) (AF:fY.Sublist L)
 (AL:dP P O n ops fY Eh os t L R):JP P ops (IH n c Eh) S (dL c fY R) dJ h0 dF a w:=by
 refine aLm h0 dF a w (by rw[c1.size,pB]) (λk hk hn=>?_) ?_;·
  cases hd:done.getD k true with
  |true=>exact(c1.dF k true).2 (.inl hd)
  |false=>exact absurd (FW k hk hd) hn
 ·exact aLB LB hD (h0+dJ.length) h0 dJ os done dF [] t L R a w (g4 _) (by simpa using JC) wH eB c1 (λe X=>by cases X) pB FW kS cI AF AL
def b51{Eh:gA}{Vs:List Oper}{bV gC dJ:List Nat}{fY:List a5}(AF:fY.Sublist cL)(eC:VI bV ops gC dJ=true)(bEa:dJ.map (ops[·]?)=Vs.map some)(fJ:fO=λ_ t L R=>dP P O n ops fY Eh Vs t L R)(LB:Region.noSelect ops=true)(hD:Lk O n ops=true):∀(m h0:Nat) (i7:List Nat) (os:List Oper) (done dF:Array Bool) (gQ:List JX) (t:Nat->Value) (L:List a5) (R:List fG) (a:Act) (w:World),
 h0+i7.length<=m->i7.length+dJ.length<=h0+gQ.length->i7.map (ops[·]?)=os.map some->N6 ops done (i7++dJ)=true->(∀k∈i7,k∈gC)->(∀k∈dJ,done.getD k true=false)->LW ops dF->YV O n ops done dF gQ->(∀e∈gQ,e.i∈i7)->done.size=ops.size->
 (∀i,i<ops.size->done.getD i true=false->i∈i7\/i∈dJ)->
 nU n (EH t gQ) a->dL c (Z4 O gQ++L) R w->cL.Sublist L->w8 P O n ops bV cL fY fO os t L R->JP P ops (IH n c Eh) (dL c cL R) (dL c fY R) dJ h0 dF a w:=by
 intro m;induction m with
 |zero=>
  intro h0 i7 os done dF gQ t L R a w hm JC wH eB kE a1t i1 c1 T1 pB FW kS cI q8 AL;obtain rfl:i7=[]:=by cases i7 with|nil=>rfl|cons x l=>simp at hm
  exact aVF
 |succ m cM=>
  intro h0 i7 os done dF gQ t L R a w hm JC wH eB kE a1t i1 c1 T1 pB FW kS cI q8 AL;have dW:dL c cL R w:=cI.vB (q8.trans (YL _ _)) (λr M=>⟨r,M,.mW⟩);have EA:dF.size=ops.size:=by rw[c1.size,pB]
  have HD:∀k∈dJ,dF.getD k true=false:=by
   intro k hk;cases hl:dF.getD k true with
   |false=>rfl
   |true=>
    rcases(c1.dF k true).1 hl with h|⟨e,X,aA⟩;·rw[a1t k hk]at h;cases h
    ·exact absurd (kE _ (T1 e X)) (by rw[aA];exact Tk eC hk)
  -- a making of a variable that comes up early
  have early:∀(f:Nat),h0=f+1->∀j,j∈Region.ready .any ops dF->wZ ops j=1->
   wpOp P ops (IH n c Eh) j (λfE w'=>(dL c fY R w'/\(dJ.any (λk=>(dF.setIfInBounds j true).getD k false)=true\/dL c cL R w'))/\JP P ops (IH n c Eh) (dL c cL R) (dL c fY R) dJ f (dF.setIfInBounds j true) fE w') a w:=by
   intro f hf j aY HI;obtain⟨bQ,mN,M1,sB⟩:=mem_ready.1 aY;(have aFg:lF mN.op=1:=by simpa[wZ,M1]using HI);obtain⟨T,dN⟩:=aMb aFg;obtain⟨hg,⟨jB,a17⟩,⟨d,hd,JA,aSP⟩,MV⟩:=aC2 hD M1 dN;obtain⟨qJ,zO,HP⟩:=Yr (O.ok _ _ a17) w;have a65:done.getD j true=false:=by
    cases hd:done.getD j true with
    |false=>rfl
    |true=>rw[(c1.dF j true).2 (.inl hd)]at bQ;cases bQ
   (have aE9:∀e∈gQ,e.i≠j:=λe X aA=>by rw[(c1.dF j true).2 (.inr ⟨e,X,aA⟩)]at bQ;cases bQ);(have aT9:qJ.cells.toList=YQ O T:=by rw[HP];simp[YQ,a17]);(have rA:dL c (Z4 O (⟨j,d,w.heap.size,T⟩::gQ)++L) R (w.alloc (.cells qJ.cells T)):=by exact aX0);unfold wpOp;simp only[M1];rw[kS.wanted,hg];simp only[oH,if_true];refine .inl ?_;(have Bm:(execOp a.eval mN).run P w=.ok (.value (.pointer (some ⟨w.heap.size,0,none⟩))) (w.alloc (.cells qJ.cells T)):=by exact aWn);unfold Oper.wp;rw[Bm];refine⟨⟨rA.vB ((AF.trans q8).trans (YL _ _)) (λr M=>⟨r,M,.mW⟩),.inr (rA.vB (q8.trans (YL _ _)) (λr M=>⟨r,M,.mW⟩))⟩,?_⟩;have Oa:j<ops.size:=(Array.getElem?_eq_some_iff.1 M1).1;(have a66:j<dF.size:=by rw[c1.size,pB];exact Oa);have a67:j∈i7:=(FW j Oa a65).resolve_right λh=>b3F eC h HI;refine cM f i7 os done _ (⟨j,d,w.heap.size,T⟩::gQ) t L R _ _ D (by simp only[sK];omega) wH eB kE a1t (i1.set aY) ?_ ?_ pB FW ?_ rA q8 AL;·exact aVT
   ·exact aWf
   ·exact aWG
  cases i7 with
  |nil=>exact aVF
  |cons i aB=>
   cases os with
   |nil=>simp at wH
   |cons o os=>
    simp only[y3,a8J]at wH;obtain⟨pC,wH⟩:=wH;simp only[oF,N6,oS]at eB;obtain⟨⟨XT,RE⟩,Bf⟩:=eB;(have XT:i∈Region.ready .any ops done:=by simpa using XT);obtain⟨a1B,o',Of,Oo⟩:=mem_ready.1 XT;obtain rfl:o'=o:=y2 (Of.symm.trans pC);have Ny:i<ops.size:=(Array.getElem?_eq_some_iff.1 pC).1;(have XS:i<done.size:=by rw[pB];exact Ny);(have XU:wZ ops i=lF o'.op:=by simp[wZ,pC]);have Ar:∀k,k<ops.size->(done.setIfInBounds i true).getD k true=false->k∈aB\/k∈dJ:=by
     intro k hk hd;by_cases Ob:i=k;·subst Ob;rw[ZP XS]at hd;cases hd
     ·
      rw[getD_set_ne true Ob]at hd;rcases FW k hk hd with h|h;·
       rcases List.mem_cons.1 h with h|h;·exact absurd h.symm Ob
       ·exact .inl h
      ·exact .inr h
    have a7k:∀k∈aB,k∈gC:=λk hk=>kE k (PL _ hk);have BR:i∈gC:=kE i fX;(have a6V:∀k∈dJ,(done.setIfInBounds i true).getD k true=false:=λk hk=>by rw[getD_set_ne true (show¬i=k from λe=>Tk eC hk (e▸BR))];exact a1t k hk);(have Av:(done.setIfInBounds i true).size=ops.size:=by simp[pB]);(have bCq:∀k,done.getD k true=true->∀d,dF.getD k d=true\/k>=done.size:=by exact aWH);obtain⟨hd,AL⟩:=AL
    -- if the operation is no making of a variable, it has not come up, and is apart from the early ones
    (have RS:lF o'.op≠1->∀e∈gQ,e.i≠i:=by exact aWO);(have a0Q:lF o'.op≠1->gQ.length<=aB.length:=by exact aVo);have X3:lF o'.op≠1->i∈Region.ready .any ops dF:=by
     intro hk;refine mem_ready.2 ⟨?_,o',pC,λe X hb=>(c1.dF _ _).2 (.inl (Oo e X hb))⟩;cases hl:dF.getD i true with
     |false=>rfl
     |true=>exact aWg
    have apart:lF o'.op≠1->∀e∈gQ,e.d∉o'.looksAt ops/\o'.dst≠some e.d:=λhk=>aNT hD c1 pC (RS hk) Oo;(have Ly:lF o'.op≠1->∀e∈gQ,e.i∈aB:=λhk e X=>by exact aWt);(have frame:lF o'.op≠1->∀v,nU n (EH (z8 t o'.dst v) gQ) (a.put o'.dst v):=λhk v=>by exact aXL);(have Vl:lF o'.op≠1->Region.wanted o' (yielded ops a.tmps)=oH ops t o'.guard:=λhk=>by rw[kS.wanted,aNm (λe X=>(apart hk e X).1)]);(have XR:lF o'.op≠1->execOp a.eval o'=execOp (h9 t) o':=λhk=>by exact aWo);rcases aOq o'.op with hk|hk|hk;·
     -- it leaves the world alone
     (have e6:lF o'.op≠1:=by rw[hk];decide);have rU:=a0Q e6;obtain⟨f,rfl⟩:∃f,h0=f+1:=⟨h0-1,by simp only[sK]at JC;omega⟩;rw[XU,hk]at RE;have MV:∀j mN,ops[j]?=some mN->j≠i->dF.getD j true=false->(∀e∈mN.after,Region.binds .any e=true->e.on≠i)->o'.apart ops mN=true:=by
      intro j mN aY iO hl w6;refine a8E pC RE j mN aY iO ?_ w6;cases hd:done.getD j true with
      |false=>rfl
      |true=>rw[(c1.dF j true).2 (.inl hd)]at hl;cases hl
     have aTc:=aKC (bV:=bV) (cL:=cL) (fY:=fY) pC;(have aEy:∀w',(if GQ bV ops i=true then dL c fY R else dL c cL R) w'->dL c (Z7 bV cL fY o'.dst) R w':=by exact aWk);(have go:∀v,YieldsIf P ops (if GQ bV ops i=true then dL c fY R else dL c cL R) o' v a->w8 P O n ops bV cL fY fO os (z8 t o'.dst v) L R->JP P ops (IH n c Eh) (dL c cL R) (dL c fY R) dJ (f+1) dF a w:=by intro v aN AM;refine aLU eC BR (by rw[XU];exact hk) pC (a8K LB) (λ_ _ _ h=>h.1.elim) f dF a w i1 EA HD MV (X3 e6) aN dW (λw cV=>cV.vB AF (λr M=>⟨r,M,.mW⟩)) ?_;exact cM f aB os _ _ gQ _ L R _ w Jn Xl wH Bf a7k a6V (i1.set (X3 e6)) (c1.step (RS e6) XS) (Ly e6) Av Ar (frame e6 v) cI q8 AM);rcases AL with⟨cV,_,AM⟩|⟨cV,_,v,hv,AM⟩|⟨N,_⟩|⟨_,V,_⟩;·exact aWT
     ·exact go v (.inl ⟨by rw[Vl e6];exact cV,λw' Bs=>by rw[XR e6];exact hv c w' (aEy w' Bs)⟩) AM
     ·exact absurd N e6
     ·exact Is
    ·
     -- it makes a variable
     rw[XU,hk]at RE;rcases AL with⟨_,N,_⟩|⟨_,V,_⟩|⟨_,T,dN,AM⟩|⟨_,V,_⟩;·exact absurd hk N
     ·exact Is
     ·
      by_cases jN: ∃e∈gQ,e.i=i;·
       -- it has come up early
       obtain⟨e,X,Nr⟩:=jN;obtain⟨Ii,N,V,aQ,b7⟩:=c1.op e X;rw[Nr]at N;obtain rfl:Ii=o':=y2 (N.symm.trans pC);(obtain rfl:e.T=T:=by rw[V]at dN;exact Op.alloc.inj dN);obtain⟨LX,JW,rfl⟩:=List.append_of_mem X;(have DC:∀x∈LX++JW,x∈LX++e::JW:=λx K=>by exact aXC);(have aFw:∀x∈LX++JW,x.i≠i:=by exact aVL);refine cM h0 aB os _ dF (LX++JW) _ _ R a w Jn aYk wH Bf a7k a6V i1 ?_ ?_ Av Ar ?_ ?_ (q8.cons _) (AM e.b);·exact aVS
       ·exact aWm
       ·exact aXT
       ·exact aWL
      ·
       -- it has not: whatever comes up now makes a variable
       have a63:∀e∈gQ,e.i≠i:=λe X aA=>jN ⟨e,X,aA⟩;have UQ:i∈Region.ready .any ops dF:=by
        refine mem_ready.2 ⟨?_,o',pC,λe X hb=>(c1.dF _ _).2 (.inl (Oo e X hb))⟩;cases hl:dF.getD i true with
        |false=>rfl
        |true=>exact aWj
       (have rU:gQ.length+1<=(i::aB).length:=by exact aVE);obtain⟨f,rfl⟩:∃f,h0=f+1:=⟨h0-1,by omega⟩;refine a0f (Wx UQ) λj aY=>early f rfl j aY ?_;exact aVq
     ·exact Is
    ·
     -- it turns the world
     (have e6:lF o'.op≠1:=by rw[hk];decide);have rU:=a0Q e6;obtain⟨f,rfl⟩:∃f,h0=f+1:=⟨h0-1,by simp only[sK]at JC;omega⟩;rw[XU,hk]at RE;refine a0f (Wx (X3 e6)) λj aY=>?_;by_cases HI:wZ ops j=1;·exact early f rfl j aY HI
     ·
      have RC:=aCN (p:=λ_=>true) c1 (λ_ _=>rfl) pB aY HI;have:=List.all_eq_true.1 RE j RC;(obtain rfl:j=i:=by simpa using this);unfold wpOp;simp only[pC];rw[Vl e6];rcases AL with⟨cV,_,AM⟩|⟨_,V,_⟩|⟨N,_⟩|⟨cV,_,Post,hg,AM⟩;·rw[cV,if_neg fX];exact⟨⟨dW.vB AF (λr M=>⟨r,M,.mW⟩),.inr dW⟩,cM f aB os _ _ gQ _ L R _ w Jn Xl wH Bf a7k a6V (i1.set (X3 e6)) (c1.step (RS e6) XS) (Ly e6) Av Ar (frame e6 undef) cI q8 AM⟩
      ·exact Is
      ·exact absurd N e6
      ·rw[cV,if_pos rfl];refine .inl (aQb (XR e6) ?_);refine(hg.frame (Z4 O gQ)) c w cI a _ _ ?_;rintro v iM G w' ⟨E,rfl,hp⟩ rA;obtain⟨XJ,MO,aEU⟩:=AM v E G hp;refine⟨⟨rA.vB ((AF.trans XJ).trans (YL _ _)) MO,.inr (rA.vB (XJ.trans (YL _ _)) MO)⟩,?_⟩;refine aAn (Ej:=dL c cL G) (a4H:=dL c fY G) (λx K=>K.vB g3 MO) (λx K=>K.vB g3 MO) _ _ _ _ ?_;exact cM f aB os _ _ gQ _ E G _ w' Jn Xl wH Bf a7k a6V (i1.set (X3 e6)) (c1.step (RS e6) XS) (Ly e6) Av Ar (frame e6 v) rA XJ aEU
end
def hF{P:Program}(O:pP P){n id:Nat}{ops:List Oper}{t:Nat->Value}{L:List a5}{R:List fG}{Q:gA}(bV i7 dJ:List Nat)(cL fY:List a5)(hm:P.follows .mixedOrders=true)(BO:(a4j O n ops.toArray (i7++dJ) && VI bV ops.toArray i7 dJ)=true)(q8:cL.Sublist L)(AF:fY.Sublist cL)
 (h:w8 P O n ops.toArray bV cL fY (λ_ t L R=>dP P O n ops.toArray fY Q (QH ops dJ) t L R) (QH ops i7) t L R):cH P n (.region id ops.toArray true) t L R Q:=by
 simp only[oS]at BO;obtain⟨BO,eC⟩:=BO;simp only[a4j,oS]at BO;obtain⟨⟨⟨⟨N,V⟩,aQ⟩,b7⟩,eG⟩:=BO;have jH:∀i∈i7++dJ,i<ops.length:=λi aA=>by simpa using List.all_eq_true.1 eG i aA
 intro c a w hf hs;refine wp_region_any hm (aAh (S:=dL c cL R) (e2:=dL c fY R) (dJ:=dJ) _ _ _ _ ?_);refine b51 (O:=O) (cL:=cL) (dJ:=dJ) (Vs:=QH ops dJ) AF eC (a0u ops dJ λi aA=>jH i (mA _ aA)) rfl N V (ops.toArray.size+i7.length) ops.toArray.size i7 (QH ops i7) (Array.replicate ops.toArray.size false) _ [] t L R a _ (g4 _) ?_ (a0u ops i7 λi aA=>jH i (sI _ aA)) aQ (λ_ h=>h) (λk hk=>by have:=jH k (mA _ hk);simp[this]) LW.zero ?_ (λe X=>by cases X) fX ?_ hf ?_ q8 h;·
  have key:∀(bS:List Nat) (done:Array Bool),N6 ops.toArray done bS=true->bS.Nodup/\∀i∈bS,done.getD i true=false:=by
   intro bS;induction bS with
   |nil=>intro _ _;exact⟨Qh,λi aA=>by cases aA⟩
   |cons i bS cM=>exact aV1
  have:=a0D (i7++dJ) (List.range ops.length) (key _ _ aQ).1 (λi aA=>List.mem_range.2 (jH i aA));exact NI
 ·exact aXO
 ·exact aXH
 ·exact dL.drew hs
section
variable{P:Program}{O:pP P}{n:Nat}{all:Array Oper}{bV:List Nat}{cL fY:List a5}{fO:gA}{op:Op}{ty:TypeId}{pos:String}{after:Array Edge}{aB:List Oper}{t:Nat->Value}{L E:List a5}{R G:List fG}{d:Tmp}{v:Value}{g:Option (Nat×Bool)}{T:TypeId}{x y:Operand}
def b4m{Q:gA}{Vs:List Oper}(h:dP P O n all fY Q Vs t L R):w8 P O n all bV cL fY (λ_ t L R=>dP P O n all fY Q Vs t L R) [] t L R:=h
def b4p(hv:cJ P ⟨some d,op,ty,pos,after,g⟩ (h9 t) cL R v)(hl:bV.contains d=false)(hk:lF op=0)(hg:oH all t g=true)(hd:Nat.blt d n=true)(h:w8 P O n all bV cL fY fO aB (j1 t d v) L R):w8 P O n all bV cL fY fO (⟨some d,op,ty,pos,after,g⟩::aB) t L R:=
 ⟨hd,.inr (.inl ⟨hg,hk,v,by simp only[Z7];rw[hl];exact hv,h⟩)⟩
def eO(hv:cJ P ⟨some d,op,ty,pos,after,g⟩ (h9 t) cL R v)(h:w8 P O n all bV cL fY fO aB (j1 t d v) L R)(hl:bV.contains d=false:=by exact rfl)(hk:lF op=0:=by exact rfl)(hg:oH all t g=true:=by exact rfl)(hd:Nat.blt d n=true:=by exact rfl):w8 P O n all bV cL fY fO (⟨some d,op,ty,pos,after,g⟩::aB) t L R:=b4p (hv:=hv) (hl:=hl) (hk:=hk) (hg:=hg) (hd:=hd) (h:=h)
def b5J(hv:cJ P ⟨some d,op,ty,pos,after,g⟩ (h9 t) fY R v)(hl:bV.contains d=true)(hk:lF op=0)(hg:oH all t g=true)(hd:Nat.blt d n=true)(h:w8 P O n all bV cL fY fO aB (j1 t d v) L R):w8 P O n all bV cL fY fO (⟨some d,op,ty,pos,after,g⟩::aB) t L R:=
 ⟨hd,.inr (.inl ⟨hg,hk,v,by simp only[Z7];rw[hl];exact hv,h⟩)⟩
def m5(hv:cJ P ⟨some d,op,ty,pos,after,g⟩ (h9 t) fY R v)(h:w8 P O n all bV cL fY fO aB (j1 t d v) L R)(hl:bV.contains d=true:=by exact rfl)(hk:lF op=0:=by exact rfl)(hg:oH all t g=true:=by exact rfl)(hd:Nat.blt d n=true:=by exact rfl):w8 P O n all bV cL fY fO (⟨some d,op,ty,pos,after,g⟩::aB) t L R:=b5J (hv:=hv) (hl:=hl) (hk:=hk) (hg:=hg) (hd:=hd) (h:=h)
def aBu(hk:Nat.beq (lF op) 1=false)(hg:oH all t g=false)(hd:Nat.blt d n=true)(h:w8 P O n all bV cL fY fO aB (j1 t d undef) L R):w8 P O n all bV cL fY fO (⟨some d,op,ty,pos,after,g⟩::aB) t L R:=
 ⟨hd,.inl ⟨hg,λe=>by simp[e]at hk,h⟩⟩
def MG{Post:oY}(hg:eD P ⟨some d,op,ty,pos,after,g⟩ (h9 t) L R Post)(hk:lF op=2)(cV:oH all t g=true)(hd:Nat.blt d n=true)
 (h:∀v E G,Post v E G->cL.Sublist E/\(∀r∈R,aH r G)/\w8 P O n all bV cL fY fO aB (j1 t d v) E G):w8 P O n all bV cL fY fO (⟨some d,op,ty,pos,after,g⟩::aB) t L R:=
 ⟨hd,.inr (.inr (.inr ⟨cV,hk,Post,hg,h⟩))⟩
def k2{f:FuncId}{xs:List Operand}{rG:Array TypeId}{args:List Value}{Post:oY}(ha:xs.map (h9 t)=args)(h:aI P f args.toArray L R Post)(cV:oH all t g=true)(hd:Nat.blt d n=true)
 (k:∀v E G,Post v E G->cL.Sublist E/\(∀r∈R,aH r G)/\w8 P O n all bV cL fY fO aB (j1 t d v) E G):w8 P O n all bV cL fY fO (⟨some d,.call ⟨.value (.func f),xs.toArray,rG⟩,ty,pos,after,g⟩::aB) t L R:=
 MG (a0A a9b rfl h) rfl cV hd k
def aPJ{os:List Oper}{k:Nat}{b:Bool}(hb:t k=.bool b)(N:b=true->w8 P O n all bV cL fY fO os (j1 t k (.bool true)) L R)(V:b=false->w8 P O n all bV cL fY fO os (j1 t k (.bool false)) L R):w8 P O n all bV cL fY fO os t L R:=by
 cases b with
 |true=>have:=N rfl;rwa[Rl hb]at this
 |false=>have:=V rfl;rwa[Rl hb]at this
end
def aI.at{P f args fQ L R F}{Post:oY}(vQ:J4 fQ L F)(h:aI P f args fQ R Post):aI P f args L R (λv iM G=>∃E,iM=F E/\Post v E G):=by
 obtain⟨A,B,c2,h1⟩:=vQ.split;refine⟨h.1,λw aC bX=>?_⟩;subst c2;have hp:(A++fQ++B).Perm ((A++B)++fQ):=by rw[mQ,mQ];exact aIj _ YM
 have qU:tS ((A++B)++fQ) aC R w:=⟨(hp.map _).nodup_iff.1 bX.nR,λe X=>bX.own e (hp.mem_iff.2 X),λe X=>bX.u7 e (hp.mem_iff.2 X),bX.tH,bX.p3⟩;have UB:tS fQ aC R w:=⟨(List.nodup_append.1 (by have:=qU.nR;rwa[wP]at this)).2.1,λe X=>qU.own e (mA _ X),λe X=>qU.u7 e (mA _ X),qU.tH,qU.p3⟩;refine(h.2 w aC UB).mono λe w' ⟨v,E,G,X,Bh,cI⟩=>⟨v,F E,G,X,⟨E,rfl,Bh⟩,?_⟩;have N:=dL.frame qU cI;rw[h1];have EC:((A++B)++E).Perm (A++E++B):=by rw[mQ,mQ];exact aIj _ YM
 have V:=N.DJ EC;exact aV2
def aAy{P n code t L R}{Q:gA}{s:fG}(hs:∀w aC,(∀r∈R,tW w aC r)->tW w aC s)(h:cH P n code t L (s::R) Q):cH P n code t L R Q:=by
 intro c a w hf cI;refine h c a w hf ?_;obtain⟨⟨aC,bX,hg⟩,ho,hk⟩:=cI;refine⟨⟨aC,⟨bX.nR,bX.own,bX.u7,bX.tH,λr M=>?_⟩,hg⟩,ho,hk⟩;rcases List.mem_cons.1 M with rfl|M;·exact hs w aC bX.p3
 ·exact bX.p3 r M
inductive zA(b:Nat)(cs:List Value)(T:TypeId):List a5->(List Value->List a5)->Prop
 |mW {L}:zA b cs T (⟨b,cs,T⟩::L) (λgH=>⟨b,gH,T⟩::L)
 |cons {x L f} (h:zA b cs T L f):zA b cs T (x::L) (λgH=>x::f gH)
 |xJ {fQ L f} (h:zA b cs T L f):zA b cs T (fQ++L) (λgH=>fQ++f gH)
def zA.split{b cs T L f}(h:zA b cs T L f):∃A B,L=A++([⟨b,cs,T⟩]++B)/\∀gH,f gH=A++([⟨b,gH,T⟩]++B):=by
 induction h with
 | @mW L=>exact⟨[],L,rfl,λ_=>rfl⟩
 | @cons x L f _ cM=>obtain⟨A,B,N,V⟩:=cM;exact⟨x::A,B,by simp[N],λgH=>by simp[V]⟩
 | @xJ fQ L f _ cM=>obtain⟨A,B,N,V⟩:=cM;exact⟨fQ++A,B,by simp[N],λgH=>by simp[V]⟩
def aI.TU{P f args b cs T L F R}{Post:oY}{xA:Value->List Value->List fG->Prop}(vQ:zA b cs T L F)(h:aI P f args [⟨b,cs,T⟩] R Post)(hp:∀v E G,Post v E G->∃gH,[⟨b,gH,T⟩]=E/\xA v gH G):
 aI P f args L R (λv iM G=>∃gH,F gH=iM/\xA v gH G):=by obtain⟨A,B,c2,h1⟩:=vQ.split;subst c2;refine(aI.at (.xJ .mW) h).mono ?_;rintro v iM G ⟨E,rfl,Bh⟩;obtain⟨gH,rfl,cN⟩:=hp v E G Bh;exact⟨gH,h1 gH,cN⟩
section
variable{P:Program}{bA:Operand->Value}{L:List a5}{R:List fG}{dst:Option Tmp}{ty:TypeId}{pos:String}{after:Array Edge}{guard:Option (Nat×Bool)}{T jD:TypeId}{x y z:Operand}{a b c:Int}{k:IntKind}
def Yl{n:Int}(N:0<=n)(V:n<=18446744073709551615):IntKind.u64.wrap n=n:=by rw[IntKind.wrap_u64];omega
def b4z(K:bA x=.int .u64 a)(aN:bA y=.int .u64 b)(N:0<=a+b)(V:a+b<=18446744073709551615):
 cJ P ⟨dst,.binOp .add T x y jD,ty,pos,after,guard⟩ bA L R (.int .u64 (a+b)):=by have:=aAb (P:=P) (L:=L) (R:=R) (dst:=dst) (ty:=ty) (pos:=pos) (after:=after) (guard:=guard) (T:=T) (jD:=jD) K aN;rwa[Yl N V]at this
def b4a(K:bA x=.int .u64 a)(aN:bA y=.int .u64 b)(N:0<=a*b)(V:a*b<=18446744073709551615):
 cJ P ⟨dst,.binOp .mul T x y jD,ty,pos,after,guard⟩ bA L R (.int .u64 (a*b)):=by have:=aBI (P:=P) (L:=L) (R:=R) (dst:=dst) (ty:=ty) (pos:=pos) (after:=after) (guard:=guard) (T:=T) (jD:=jD) K aN;rwa[Yl N V]at this
def b1O(K:bA x=.int .u64 a)(aN:bA y=.int .u64 b)(ha:0<=a)(bJi:a<=18446744073709551615)(hb:0<b):cJ P ⟨dst,.binOp .quo T x y jD,ty,pos,after,guard⟩ bA L R (.int .u64 (a/b)):=by have:=aBN (P:=P) (L:=L) (R:=R) (dst:=dst) (ty:=ty) (pos:=pos) (after:=after) (guard:=guard) (T:=T) (jD:=jD) K aN D;rw[JQ ha]at this;have N:0<=a/b:=Xc ha D;have V:a/b<=a:=Xb _ ha;rwa[Yl N D]at this
def aMF(K:bA x=.int .u64 a)(aN:bA y=.int .u64 b)(ha:0<=a)(hb:0<b):cJ P ⟨dst,.binOp .rem T x y jD,ty,pos,after,guard⟩ bA L R (.int .u64 (a%b)):=by have:=aAS (P:=P) (L:=L) (R:=R) (dst:=dst) (ty:=ty) (pos:=pos) (after:=after) (guard:=guard) (T:=T) (jD:=jD) K aN D;rwa[aIk ha]at this
def aBS(K:bA x=.int .u64 a)(aN:bA y=.int .u64 4294967295)(N:0<=a)(V:a<=18446744073709551615):
 cJ P ⟨dst,.binOp .and T x y jD,ty,pos,after,guard⟩ bA L R (.int .u64 (a%4294967296)):=λ_ _ _=>by
 obtain⟨n,rfl⟩:∃n:Nat,a=(n:Int):=⟨a.toNat,by omega⟩
 have e:(BitVec.ofInt IntKind.u64.bits ((n:Nat):Int) &&& BitVec.ofInt IntKind.u64.bits 4294967295).toNat=n%4294967296:=by
  show(BitVec.ofInt 64 ((n:Nat):Int) &&& BitVec.ofInt 64 4294967295).toNat=n%4294967296
  rw[BitVec.ofInt_natCast,a8F,BitVec.toNat_ofNat,a2R D]
  exact a8C n 32
 have eY:IntKind.u64.wrap ((n%4294967296:Nat):Int)=((n:Int)%4294967296):=by rw[Yl D D];omega
 have hb:Op.intBits .and .u64 ((n:Nat):Int) 4294967295=(pure (.int .u64 ((n:Int)%4294967296)):Sem Value):=by
  unfold Op.intBits
  dsimp only
  rw[e,eY]
 simp[execOp,K,aN,eqGuard,binOp,hb]
def a0z(K:bA x=.int .u64 a)(aN:bA y=.int k 32):cJ P ⟨dst,.binOp .shr T x y jD,ty,pos,after,guard⟩ bA L R (.int .u64 (a/4294967296)):=λ_ _ _=>by
 have e:a.fdiv (2^32)=a/4294967296:=by rw[a8H _ bH];rfl
 have XF:min (32:Int).toNat IntKind.u64.bits=32:=by decide
 have hb:Op.shift .shr .u64 a k 32=(pure (.int .u64 (a/4294967296)):Sem Value):=by
  unfold Op.shift
  rw[if_neg bH]
  dsimp only
  rw[XF,e]
 simp[execOp,K,aN,eqGuard,binOp,hb]
def aMY{rG:Array TypeId}(K:bA x=.int k a)(aN:bA y=.int k b)(eC:bA z=.int k c):cJ P ⟨dst,.call ⟨.builtin .min,#[x,y,z],rG⟩,ty,pos,after,guard⟩ bA L R (.int k (min (min a b) c)):=λ_ w _=>by
 simp only[execOp,resolve,invoke,builtin,Builtin.min_,a2P,y3,Cy,K,aN,eC]
 have N:(if b<a then b else a)=min a b:=by rw[Int.min_def];split<;>split<;>omega
 have V:(if c<min a b then c else min a b)=min (min a b) c:=by rw[Int.min_def (min a b) c];split<;>split<;>omega
 simp[Builtin.min2,N,V]
def aMj{rG:Array TypeId}(K:bA x=.int k a)(aN:bA y=.int k b)(eC:bA z=.int k c):cJ P ⟨dst,.call ⟨.builtin .max,#[x,y,z],rG⟩,ty,pos,after,guard⟩ bA L R (.int k (max (max a b) c)):=λ_ w _=>by
 simp only[execOp,resolve,invoke,builtin,Builtin.max_,a2P,y3,Cy,K,aN,eC]
 have N:(if b>a then b else a)=max a b:=by rw[Int.max_def];split<;>split<;>omega
 have V:(if c>max a b then c else max a b)=max (max a b) c:=by rw[Int.max_def (max a b) c];split<;>split<;>omega
 simp[Builtin.max2,N,V]
variable(O:pP P)
def b6V{b5:IntKind}{sC fL iA iN gK cS lY iX}(N:hT O.g2 T=some ⟨.int b5,sC,iA,gK,lY⟩)(V:hT O.g2 jD=some ⟨.int .u64,fL,iN,cS,iX⟩)(K:bA x= .int b5 a)
 (aQ:0<=a) (b7:a<=18446744073709551615):cJ P ⟨dst,.convert T jD x,ty,pos,after,guard⟩ bA L R (.int .u64 a):=by have:=aAX (P:=P) (L:=L) (R:=R) (dst:=dst) (ty:=ty) (pos:=pos) (after:=after) (guard:=guard) O N V K;rwa[Yl aQ b7]at this
def aLF(P:Program)(T f:Nat):Option TypeId:=match P.underlying T with
 |some (.struct uE)=>(uE[f]?).map (·.type)
 |_=>none
def aON{e f off n fL PF:Nat}{Z qR:List (Nat×Nat)}{g5 z nC iX eE}{cs:List Value}{v:Value}(dN:hT O.g2 T=some ⟨.struct,n,Z,g5,z⟩)(a6Y:aLF P T f=some e)(c1:hT O.g2 e=some ⟨eE,fL,qR,nC,iX⟩)(hk:eE.isAgg=false)
 (K:bA x=.agg cs.toArray) (hf:Z[f]?=some (off,PF)) (hv:cs[off]?=some v):
 cJ P ⟨dst,.field T x f,ty,pos,after,guard⟩ bA L R v:=λ_ w _=>by
 obtain⟨uE,c4,fW⟩:=aAg (O.ok _ _ dN) rfl
 simp only at fW
 subst fW
 rw[pF]at hf
 obtain⟨Tx,Un,X⟩:=Option.map_eq_some_iff.1 hf
 obtain⟨N,V⟩:=Prod.mk.inj X
 have a6X:uE[f]?=some Tx:=by rw[<-Array.getElem?_toList];exact Un
 have bEV:Tx.type=e:=by simpa[aLF,c4,a6X]using a6Y
 have I8:=a90 (O.ok _ _ c1) w
 rw[show(jT.mk eE fL qR nC iX).k.isAgg=false from hk,<-bEV]at I8
 subst N
 simp[execOp,K,Instr.field,run_underlying c4,a6X,asAgg,part,I8,hv]
end
def QL(P:Program)(n:Nat)(ops:Array Oper)(cL fY:List a5)(Q:gA)(dJ:List Nat)(m:Nat)(done:Array Bool)(t:Nat->Value)(L:List a5)(R:List fG):Prop:=
 ∀c a w,LW ops done->done.size=ops.size->(∀k∈dJ,done.getD k true=false)->nU n t a->dL c L R w->cL.Sublist L->∀h0,m+dJ.length<=h0->JP P ops (IH n c Q) (dL c cL R) (dL c fY R) dJ h0 done a w
def a4u(ops:Array Oper)(gC:List Nat)(done:Array Bool)(i:Nat):Bool:=gC.contains i && ((Region.ready .any ops done).contains i && Region.free .any ops done i)
def aLY(ops:Array Oper)(gC:List Nat)(done:Array Bool)(l:List Nat):Bool:=!l.isEmpty && ((Region.ready .any ops done==l) && l.all λj=>gC.contains j)
def aBY(ops:Array Oper)(done:Array Bool)(dJ:List Nat):Bool:=N6 ops done dJ && (List.range ops.size).all λi=>done.getD i true||dJ.contains i
def SP{P:Program}(O:pP P)(n:Nat)(ops:Array Oper)(bV gC dJ:List Nat):Bool:=Region.noSelect ops && (Lk O n ops && VI bV ops gC dJ)
section
variable{P:Program}{O:pP P}{n m:Nat}{ops:Array Oper}{bV gC dJ:List Nat}{cL fY:List a5}{Q:gA}{done:Array Bool}{t:Nat->Value}{L:List a5}{R:List fG}
def b8e{i:Nat}{o:Oper}{v:Value}(dN:SP O n ops bV gC dJ=true)(AF:fY.Sublist cL)(hok:a4u ops gC done i=true)(pC:ops[i]? =some o)(hk:lF o.op=0)(cV:oH ops t o.guard=true)(hd:XD n o.dst=true)
 (hv:cJ P o (h9 t) (Z7 bV cL fY o.dst) R v) (h:QL P n ops cL fY Q dJ m (done.setIfInBounds i true) (z8 t o.dst v) L R):QL P n ops cL fY Q dJ (m+1) done t L R:=by
 intro c a w i1 pB HD kS cI q8 h0 JC;simp only[SP,oS]at dN;simp only[a4u,oS]at hok;obtain⟨LB,_,eC⟩:=dN;obtain⟨BR,M,MV⟩:=hok;have BR:i∈gC:=by simpa using BR
 have M:i∈Region.ready .any ops done:=by simpa using M
 obtain⟨f,rfl⟩:∃f,h0=f+1:=⟨h0-1,by omega⟩;have XU:wZ ops i=0:=by simp[wZ,pC,hk]
 have dW:dL c cL R w:=cI.vB q8 (λr M=>⟨r,M,.mW⟩);have aTc:=aKC (bV:=bV) (cL:=cL) (fY:=fY) pC;have aEy:∀w',(if GQ bV ops i=true then dL c fY R else dL c cL R) w'->dL c (Z7 bV cL fY o.dst) R w':=by exact aWk
 have XR:execOp a.eval o=execOp (h9 t) o:=by rw[kS.eval]
 refine aLU (bV:=bV) eC BR XU pC (a8K LB) (λ_ _ _ h=>h.1.elim) f done a w i1 pB HD (λj mN aY iO hl w6=>a8E pC MV j mN aY iO hl w6) M
  (v:=v) (.inl ⟨by rw[kS.wanted];exact cV,λw' Bs=>by rw[XR];exact hv c w' (aEy w' Bs)⟩) dW (λw cV=>cV.vB AF (λr M=>⟨r,M,.mW⟩)) ?_
 refine h c _ w (i1.set M) (by simp[pB]) (λk hK=>?_) (kS.put hd v) cI q8 f D;have iO:i≠k:=λe=>Tk eC hK (e▸BR);rw[getD_set_ne true iO];exact HD k hK
def a35(P:Program)(n:Nat)(ops:Array Oper)(cL fY:List a5)(Q:gA)(dJ:List Nat)(m:Nat)(done:Array Bool)(t:Nat->Value)(L:List a5)(R:List fG)(j:Nat):Prop:=
 ∃o,ops[j]?=some o/\oH ops t o.guard=true/\XD n o.dst=true/\∃Post,eD P o (h9 t) L R Post/\∀v E G,Post v E G->cL.Sublist E/\(∀r∈R,aH r G)/\QL P n ops cL fY Q dJ m (done.setIfInBounds j true) (z8 t o.dst v) E G
def La(P:Program)(n:Nat)(ops:Array Oper)(cL fY:List a5)(Q:gA)(dJ:List Nat)(m:Nat)(done:Array Bool)(t:Nat->Value)(L:List a5)(R:List fG):List Nat->Prop
 |[]=>True
 |j::l=>a35 P n ops cL fY Q dJ m done t L R j/\La P n ops cL fY Q dJ m done t L R l
def La.mem{l:List Nat}(h:La P n ops cL fY Q dJ m done t L R l){j:Nat}(aY:j∈l):a35 P n ops cL fY Q dJ m done t L R j:=by
 induction l with
 |nil=>cases aY
 |cons x l cM=>
  rcases List.mem_cons.1 aY with rfl|aY;·exact h.1
  ·exact cM h.2 aY
def kI(l:List Nat)(dN:SP O n ops bV gC dJ=true)(AF:fY.Sublist cL)(hok:aLY ops gC done l=true)(h:La P n ops cL fY Q dJ m done t L R l):QL P n ops cL fY Q dJ (m+1) done t L R:=by
 intro c a w i1 pB HD kS cI q8 h0 JC;simp only[SP,oS]at dN;simp only[aLY,oS]at hok;obtain⟨LB,_,eC⟩:=dN;obtain⟨iO,rW,sB⟩:=hok;have rW:Region.ready .any ops done=l:=by simpa using rW
 obtain⟨f,rfl⟩:∃f,h0=f+1:=⟨h0-1,by omega⟩;refine a0f (by rw[rW];intro e;rw[e]at iO;cases iO) λj aY=>?_;have Ur:j∈l:=by rw[<-rW];exact aY
 obtain⟨o,pC,cV,hd,Post,hg,bDu⟩:=h.mem Ur;have a64:j∈gC:=by simpa using List.all_eq_true.1 sB j Ur
 unfold wpOp;simp only[pC];rw[kS.wanted,cV,if_pos rfl];refine .inl ?_;unfold Oper.wp;rw[kS.eval];refine hg c w cI a _ _ ?_;intro v E G w' hp rA;obtain⟨XJ,MO,pA⟩:=bDu v E G hp;refine⟨⟨(rA.vB XJ MO).vB AF (λr M=>⟨r,M,.mW⟩),.inr (rA.vB XJ MO)⟩,?_⟩;refine aAn (Ej:=dL c cL G) (a4H:=dL c fY G) (λx K=>K.vB g3 MO) (λx K=>K.vB g3 MO) _ _ _ _ ?_;refine pA c _ w' (i1.set aY) (by simp[pB]) (λk hK=>?_) (kS.put hd v) rA XJ f D;have iO:j≠k:=λe=>Tk eC hK (e▸a64);rw[getD_set_ne true iO];exact HD k hK
def b17(os:List Oper)(dN:SP O n ops bV gC dJ=true)(AF:fY.Sublist cL)(hok:aBY ops done dJ=true)(wH:dJ.map (ops[·]?)=os.map some)(h:dP P O n ops fY Q os t L R):QL P n ops cL fY Q dJ m done t L R:=by
 intro c a w i1 pB HD kS cI q8 h0 JC;simp only[SP,oS]at dN;simp only[aBY,oS]at hok;obtain⟨LB,hD,eC⟩:=dN;obtain⟨eB,FW⟩:=hok;refine aJh (O:=O) LB hD wH eB ⟨rfl,λi d=>?_,(λe X=>by cases X),(λe X=>by cases X),Qh,Qh⟩ pB D (λi aA hd=>?_) kS cI (AF.trans q8) h;·simp
 ·have:=List.all_eq_true.1 FW i (List.mem_range.2 aA);rw[hd]at this;exact NI
end
def Dz{P:Program}{O:pP P}{n m:Nat}{Ij:List Oper}{bV gC dJ:List Nat}{cL fY:List a5}{Q:gA}{done:Array Bool}{t:Nat->Value}{L:List a5}{R:List fG}(dN:SP O n Ij.toArray bV gC dJ=true)(AF:fY.Sublist cL)(hok:aBY Ij.toArray done dJ=true)(EC:dJ.all (λk=>Nat.blt k Ij.length)=true)
 (h:dP P O n Ij.toArray fY Q (QH Ij dJ) t L R):QL P n Ij.toArray cL fY Q dJ m done t L R:=
 b17 (QH Ij dJ) dN AF hok (a0u Ij dJ λi aA=>by simpa using List.all_eq_true.1 EC i aA) h
def Dt{P:Program}(O:pP P){n id:Nat}{ops:List Oper}{t:Nat->Value}{L:List a5}{R:List fG}{Q:gA}(bV gC dJ:List Nat)(cL fY:List a5)(m:Nat)(hm:P.follows .mixedOrders=true)(dN:SP O n ops.toArray bV gC dJ=true)(Uv:Nat.ble (m+dJ.length) ops.length=true)
 (EC:dJ.all (λk=>Nat.blt k ops.length)=true) (q8:cL.Sublist L) (h:SP O n ops.toArray bV gC dJ=true->QL P n ops.toArray cL fY Q dJ m (Array.replicate ops.length false) t L R):cH P n (.region id ops.toArray true) t L R Q:=by
 intro c a w hf hs;refine wp_region_any hm (aAh (S:=dL c cL R) (e2:=dL c fY R) (dJ:=dJ) _ _ _ _ ?_);have e:ops.toArray.size=ops.length:=by simp
 have i1:=LW.zero (ops:=ops.toArray);rw[e]at i1;refine h dN c a _ i1 fX (λk hk=>?_) hf (dL.drew hs) q8 _ ?_;·have:=List.all_eq_true.1 EC k hk;simp at this;simp[this]
 ·have:=LM Uv;exact NI
section
variable{P:Program}{O:pP P}{n m:Nat}{ops:Array Oper}{bV gC dJ:List Nat}{cL fY:List a5}{Q:gA}{done:Array Bool}{t:Nat->Value}{L:List a5}{R:List fG}{op:Op}{ty:TypeId}{pos:String}{after:Array Edge}{d:Tmp}{v:Value}{g:Option (Nat×Bool)}
def b3l(i:Nat)(dN:SP O n ops bV gC dJ=true)(AF:fY.Sublist cL)(hok:a4u ops gC done i=true)(pC:ops[i]? =some ⟨some d,op,ty,pos,after,g⟩)(hk:lF op=0)(cV:oH ops t g=true)(hd:Nat.blt d n=true)(hl:bV.contains d=false)
 (hv:cJ P ⟨some d,op,ty,pos,after,g⟩ (h9 t) cL R v) (h:QL P n ops cL fY Q dJ m (done.setIfInBounds i true) (j1 t d v) L R):QL P n ops cL fY Q dJ (m+1) done t L R:=
 b8e dN AF hok pC hk cV hd (by simp only[Z7,hl,cond_false];exact hv) h
def kN(i:Nat)(dN:SP O n ops bV gC dJ=true)(AF:fY.Sublist cL)(pC:ops[i]? =some ⟨some d,op,ty,pos,after,g⟩)(hv:cJ P ⟨some d,op,ty,pos,after,g⟩ (h9 t) cL R v)(h:QL P n ops cL fY Q dJ m (done.setIfInBounds i true) (j1 t d v) L R)(hok:a4u ops gC done i=true:=by exact bE)(hk:lF op=0:=by exact rfl)(cV:oH ops t g=true:=by exact rfl)(hd:Nat.blt d n=true:=by exact rfl)(hl:bV.contains d=false:=by exact rfl):QL P n ops cL fY Q dJ (m+1) done t L R:=b3l (i:=i) (dN:=dN) (AF:=AF) (hok:=hok) (pC:=pC) (hk:=hk) (cV:=cV) (hd:=hd) (hl:=hl) (hv:=hv) (h:=h)
def pO{j:Nat}{Post:oY}(pC:ops[j]? =some ⟨some d,op,ty,pos,after,g⟩)(hg:eD P ⟨some d,op,ty,pos,after,g⟩ (h9 t) L R Post)(cV:oH ops t g=true)(hd:Nat.blt d n=true)
 (h:∀v E G,Post v E G->cL.Sublist E/\(∀r∈R,aH r G)/\QL P n ops cL fY Q dJ m (done.setIfInBounds j true) (j1 t d v) E G):a35 P n ops cL fY Q dJ m done t L R j:=
 ⟨_,pC,cV,hd,Post,hg,h⟩
def o1{j:Nat}{l:List Nat}(h:a35 P n ops cL fY Q dJ m done t L R j)(k:La P n ops cL fY Q dJ m done t L R l):La P n ops cL fY Q dJ m done t L R (j::l):=⟨h,k⟩
def b9r:La P n ops cL fY Q dJ m done t L R []:=trivial
end
section
variable{P:Program}{bA:Operand->Value}{L E:List a5}{R:List fG}{dst:Option Tmp}{ty:TypeId}{pos:String}{after:Array Edge}{guard:Option (Nat×Bool)}{T k e:TypeId}{z:Value}{x y u:Operand}
end
section
variable{b:Nat}{l O2:List (Int×Value)}{L E:List a5}
end
section
open ChangeMaps
variable{P:Program}{bA:Operand->Value}{L E:List a5}{R:List fG}{dst:Option Tmp}{ty:TypeId}{pos:String}{after:Array Edge}{guard:Option (Nat×Bool)}{T k e:TypeId}{z:Value}{x y u:Operand}
end
end Go.Aw
abbrev Go.Aw.aP:=List Go.Aw.a5
abbrev Go.Aw.aJ:=List Go.Aw.fG
