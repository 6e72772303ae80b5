-- By an AI agent; no person has read it.
import Derived.WalkKit
import Derived.Orders
import Derived.OrdersHeld
set_option linter.all false
set_option maxHeartbeats 4000000
namespace Go.Aw
open Go
abbrev dJ:Nat->Nat->List Nat
 |_,0=>[]
 |a,n+1=>a::dJ (a+1) n
variable{p:Prop}
def aBN(h:p:=by
 refine aJ ?_ ?_<;>intro dE;·
  apply UY∘jM;refine eD rfl aQA ?_;apply(AJ);refine aJ ?_ ?_<;>intro gZ;·apply(vD);exact Gh
  exact aBO
 apply(sQ);refine aJ ?_ ?_<;>intro fW;·
  apply UY∘jM;refine eD rfl aQA ?_;apply(OB);apply dT (aD:=[_,_,_,_,_,_,_,_]) (j:=7) (b4:=27) rfl rfl aK rfl b2 rfl;·exact b7h
  intro WX;apply(dD);refine aJ ?_ ?_<;>intro lJ;·apply(vD);exact Gh
  exact aBO
 apply(sQ);refine aJ ?_ ?_<;>intro kK;·
  apply(UY);iterate 3 apply(gF)
  apply kZ∘F1;refine eD rfl b66 ?_;apply(AJ);refine aJ ?_ ?_<;>intro qM;·apply(vD);exact Gh
  exact aBO
 apply(vD);exact Gh):=h
def a3A(h:p:=by
 refine aJ ?_ ?_<;>intro kK;·
  apply x0∘AK;apply dT (aD:=[_,_,_,_,_,_]) (j:=3) (b4:=47) rfl rfl aK rfl b2 rfl;·exact b61
  intro m2;apply(dD);refine aJ ?_ ?_<;>intro qM;·exact b7o
  have WP:=bR (l:=q.l) (k:=e.aS.toNat) default D;apply gI∘nZ∘aZF∘Ap∘UV;refine eS (bY (iH (cC (dM ?_))));apply(q3);refine aJ ?_ ?_<;>intro MR;·exact b7a
  apply(sQ);refine aJ ?_ ?_<;>intro V2;·exact b7c
  refine cC (cC ?_);apply aWi∘Cq∘aW0∘nQ;refine b7 QB rfl rfl rfl ?_;refine b7 (aU7 M rfl rfl rfl) rfl rfl rfl ?_;apply(A9);refine aJ ?_ ?_<;>intro Th;·exact b7k
  exact b69
 exact b7q):=h
def a3B(h:p:=by
 apply Lw∘a0D∘aIl;refine jI (bY (mE (lO (i7 ?_))));refine cF L R Gw ?_;have yJ:=aY1 (n:=n) bI K cK dE;refine⟨f,d+1,_,rfl,⟨by omega,λh=>?_,λh=>?_⟩,rfl,rfl⟩;·
  cases b with
  |false=>first|(cases h;done)|(simp at fV;done)
  |true=>rw[yJ,kR.z1 rfl];dsimp only;rw[if_pos a4o]
 ·
  cases b with
  |false=>rw[yJ,kR.no rfl]
  |true=>first|(simp at fV;done)|(rw[yJ,kR.z1 rfl];dsimp only;rw[if_neg a4o])):=h
def aOO(h:p:=by
 refine aJ ?_ ?_<;>intro fW;·
  apply eV∘k2∘oD∘aJn;rintro v E R' ⟨m,r,b,rfl,kR,rfl,rfl⟩;have b1k:=kR.B2;have yJ:=aTU (n:=n) bI K cK dE (by first|exact .inl gZ|exact .inr fW);refine aA jE rfl ?_;iterate 3 apply(A8)
  apply LQ∘xF∘fD∘OB;apply dT (aD:=[_,_,_]) (j:=2) (b4:=89) rfl rfl aK rfl b2 rfl;·intro iM;replace iM:=cP iM;exact(gB) v6
  intro o7;apply(fD);apply dT (aD:=[_,_,_,_,_]) (j:=7) (b4:=94) rfl rfl aK rfl b2 rfl;·intro nV;replace nV:=cP nV;exact(Cr) v6
  intro WX;apply(fD);apply dT (aD:=[_,_,_,_,_]) (j:=14) (b4:=101) rfl rfl aK rfl b2 rfl;·exact b7i
  intro Fi;apply(dD);refine aJ ?_ ?_<;>intro lJ;·
   apply oO∘eA∘l6;refine eS (bY (mE (i7 (lO (i7 ?_)))));refine cF L R Gw ?_;refine⟨0,0,false,rfl,⟨by omega,(λh=>by cases h),λ_=>?_⟩,rfl,rfl⟩;cases b with
   |false=>rw[yJ,kR.no rfl]
   |true=>rw[yJ,kR.z1 rfl];dsimp only;rw[if_neg (by simp at lJ;omega)]
  exact b7e
 exact b68):=h
def aBO(h:p:=by
 refine gG (hG (bY (cC (cC (dM ?_)))));apply(AK);apply dT (aD:=[_,_,_]) (j:=3) (b4:=51) rfl rfl aK rfl b2 rfl;·exact QG
 intro m2;apply(dD);refine aJ ?_ ?_<;>intro MR;·apply(uJ);exact Gh
 apply(aWK);refine aJ ?_ ?_<;>intro V2;·apply aI2∘aWN;refine eD rfl b65 ?_;apply(uG);exact Gh
 apply(Rb);exact Gh):=h
def aOP(h:p:=by
 refine⟨by rw[c6.size];simp,λk d=> ?_,λx K=>c6.op x (vR x K),λx K=> ?_, ?_, ?_⟩;·
  rw[c6.dB k d];by_cases Y:i=k;·subst Y;rw[UO SV];simp only[true_or,iff_true];exact .inr ⟨e,V,Ei⟩
  ·
   rw[getD_set_ne d Y];refine or_congr Iff.rfl ⟨λ⟨x,K,Uv⟩=>?_,λ⟨x,K,Uv⟩=>⟨x,vR x K,Uv⟩⟩;rcases List.mem_append.1 K with h|h;·exact⟨x,oI _ h,Uv⟩
   ·
    rcases List.mem_cons.1 h with rfl|h;·exact absurd (Ei.symm.trans Uv) Y
    ·exact⟨x,kE _ h,Uv⟩
 ·rw[getD_set_ne true (XT (a9Z x K))];exact c6.vM x (vR x K)
 ·exact c6.lC.sublist (aPx _ (a3J iP (a3G _ _)))
 ·exact c6.Vg.sublist (aPx _ (a3J iP (a3G _ _)))):=h
def aOQ(h:p:=by
 refine⟨by simp[c6.size],λk aKF=> ?_,λe V=> ?_,λe V=> ?_, ?_, ?_⟩;·
  by_cases Y:j=k;·subst Y;rw[UO a9I];simp
  ·rw[getD_set_ne aKF Y,c6.dB k aKF];simp[Y]
 ·
  rcases List.mem_cons.1 V with rfl|V;·exact⟨lD,IX,dF,a7,bE⟩
  ·exact c6.op e V
 ·
  rcases List.mem_cons.1 V with rfl|V;·exact a2t
  ·exact c6.vM e V
 ·simp only[pV,P9];exact⟨λa1=>by obtain⟨e,V,aB⟩:=List.mem_map.1 a1;exact a9H e V aB,c6.lC⟩
 ·simp only[pV,P9];refine⟨λa1=>?_,c6.Vg⟩;obtain⟨e,V,aB⟩:=List.mem_map.1 a1;obtain⟨Aj,G,U,aO,bW⟩:=c6.op e V;exact aL1 e.i Aj G (a9H e V) (by rw[aO,aB])):=h
def aOR(h:p:=by
 iterate 3 apply(gF)
 apply kZ∘Rd∘UV;iterate 3 apply(gF)
 apply kZ∘Rd∘mY∘pE;refine e3 [(1,.int _ _),(4,.pointer _),(6,.pointer _),(60,.slice _ _ _),(61,.int _ _),(62,.int _ _)] cB λg9=>?_;refine oM ([8,9]++dJ 62 23) ((⟨λg=>[(62,.int .i64 ((g.1:Nat):Int))],λg=>⟨jN,[.int .i64 (EM p q g.1).bJ,.int .i64 (EM p q g.1).bN],51⟩::⟨dU,[.int .i64 0,.int .i64 0],51⟩::⟨eN,p.cells,179⟩::L,λ_=>R,λg=>p.bD.l.length-g.1⟩:e0 {k:Nat//k<=p.bD.l.length})) (⟨0,by omega⟩) cB b7f eX ?_;rintro⟨k,Y⟩ c1;try dsimp only
 apply(gU);refine aJ ?_ ?_<;>intro cK;·exact b7g
 exact b7m):=h
def aOS(h:p:=by
 refine iU [8,11,13] o5 b9 aQ ?_;refine nM ?_ ?_;·
  skip
  apply(Y1);rintro v E R' ⟨O0,rfl,rfl,qL⟩;replace qL:=qL.symm;subst qL;exact aPi
 refine nM ?_ ?_;·
  skip
  apply(L5);rintro v E R' ⟨vJ,rfl,rfl,j2⟩;replace j2:=j2.symm;subst j2;apply(fI);exact aBK
 apply(kC);refine m9 rfl NR rfl rfl ?_;rintro v E R' ⟨fK,rfl,rfl,lV⟩;replace lV:=lV.symm;subst lV;apply(fI);exact aBL):=h
def aOT(h:p:=by
 refine iU [3,8,13] o5 b9 aQ ?_;refine nM ?_ ?_;·
  skip
  apply(MB);rintro v E R' ⟨zI,rfl,rfl,kW⟩;replace kW:=kW.symm;subst kW;apply(fI);exact aBK
 refine nM ?_ ?_;·
  skip
  apply(Y1);rintro v E R' ⟨O0,rfl,rfl,qL⟩;replace qL:=qL.symm;subst qL;exact aPj
 apply(kC);refine m9 rfl NR rfl rfl ?_;rintro v E R' ⟨fK,rfl,rfl,lV⟩;replace lV:=lV.symm;subst lV;apply(fI);exact aBM):=h
def aOU(h:p:=by
 refine iU [3,8,11] o5 b9 aQ ?_;refine nM ?_ ?_;·
  skip
  apply(MB);rintro v E R' ⟨zI,rfl,rfl,kW⟩;replace kW:=kW.symm;subst kW;apply(fI);exact aBL
 refine nM ?_ ?_;·
  skip
  apply(Y1);rintro v E R' ⟨O0,rfl,rfl,qL⟩;replace qL:=qL.symm;subst qL;exact aPk
 apply kC∘L5;rintro v E R' ⟨vJ,rfl,rfl,j2⟩;replace j2:=j2.symm;subst j2;apply(fI);exact aBM):=h
def aOV(h:p:=by
 first
  |exact eG ⟨(k+1,P,aD),by dsimp only;omega,kR.F5 fW,mH.F5 fW⟩
  |have zR:p3 a s (k:Int) a.a8.l.length=⟨(a.aE.Z.l.getD k default).aC.bJ+y.bJ,(a.aE.Z.l.getD k default).aC.bN+y.bN⟩:=by
    cases bU:p3 a s (k:Int) a.a8.l.length with
    |mk cN aB=>rw[bU]at TA WV;dsimp only at TA WV;rw[TA,WV]
   (have aLO:¬(a.aE.Z.l.getD k default).dZ=true:=by simpa using fW);exact eG ⟨(k+1,_,_),by dsimp only;omega,kR.next aLO ⟨by rw[tZ,zR],rfl,b2A.2⟩ (fL aKL (hS V7)) b3y,mH.next aLO D D jC aG bZ D b3u b3v⟩):=h
def aOW(h:p:=by
 apply Lv∘GO;exact lP ⟨(z-1,(⟨aNA,M5.l++[z]⟩,op),eF),by dsimp only;omega,by
 dsimp only;have aMo:¬(0<=x.eI/\((aL.set z.toNat ⟨x.eI,x.fY,x.hQ,x.dZ,true⟩).getD x.eI.toNat default).dZ=true):=by rintro⟨G,U⟩;first|omega|exact fW U|(rw[U]at fW;cases fW)
 have eH:eF=(aL.set z.toNat ⟨x.eI,x.fY,x.hQ,x.dZ,true⟩):=by
  rcases BC (0<=x.eI)with G|G;·rw[DM,if_pos G,uL,if_neg (λU=>aMo ⟨G,U⟩)]
  ·rw[DM,if_neg G]
 rw[CA,if_neg aMo,eH,Ba D],aMw,HE⟩ hM cB bC eX kM):=h
def aOX(h:p:=by
 refine iU [5] SN b9 aQ ?_;apply kC∘aX2;rintro v E R' ⟨aBb,rfl,Ug,rfl,rfl⟩;apply(fI);refine QY SN b9 aQ rfl ?_;apply Ao∘Cn;refine jI ?_;first
  |exact Nt ⟨(Ft,aBb),Ue,Ug⟩ hM cB (Mr _) iP eX
  |exact Nt ⟨(Ft,aBb),Ue,Ug⟩ hM cB (a33 _ _ _) iP eX):=h
def aOY(h:p:=by
 intro done aG;simp only[JT,lY]at aG;obtain⟨bA,a7⟩:=cA _ aG.2;have O:i∈Region.ready .any ops.toArray done:=by simpa using aG.1.1
 obtain⟨bV,_⟩:=mem_ready.1 O;refine⟨List.nodup_cons.2 ⟨λa1=>?_,bA⟩,λk Y=>?_⟩;·
  have:=a7 i a1;rcases gX i done.size with cD|cD;·rw[UO cD]at this;cases this
  ·simp[NL cD]at bV
 ·
  rcases List.mem_cons.1 Y with rfl|Y;·exact bV
  ·
   by_cases Tr:i=k;·subst Tr;exact bV
   ·have:=a7 k Y;rwa[getD_set_ne true Tr]at this):=h
def aOZ(h:p:=by
 refine⟨?_,?_,?_⟩;·
  obtain⟨EH,b02,bE⟩:=U.aD;refine⟨EH,b02,λb aT=>?_⟩;rcases bE b aT with h|h|⟨e,V,V1⟩;·exact .inl h
  ·exact .inr (.inl h)
  ·exact .inr (.inr ⟨e,aG.mem_iff.2 V,V1⟩)
 ·
  intro e V;rcases U.own e V with⟨r7,uR,V1⟩|h;·exact .inl ⟨r7,aG.mem_iff.2 uR,V1⟩
  ·exact .inr h
 ·have k:=U.HK;refine⟨k.os,k.tape,k.output,k.size,λb aT bA=>k.block b aT λ⟨e,V,V1⟩=>bA ⟨e,aG.mem_iff.2 V,V1⟩⟩):=h
def aO0(h:p:=by
 apply vE∘gB∘w1;rintro v E R' ⟨a8e,rfl,rfl,PD⟩;replace PD:=PD.symm;subst PD;apply(aTH);rintro v E R' ⟨aNz,rfl,aAa,rfl,rfl⟩;apply(LO);exact lP ⟨(k+1,(⟨aNz,_⟩:J Int)),by dsimp only;omega,aAa,jH.z1 aMI zQ (by
 first
  |exact .inl (NJ D)
  |(refine .inr ?_
    rw[aF7 D];intro e;exact cK (uA e)))⟩ hM cB bC eX kM):=h
def aO1(h:p:=by
 apply(fI);refine iU [3,5] o5 b9 aQ ?_;refine nM ?_ ?_;·
  skip
  apply(MB);rintro v E R' ⟨zI,rfl,rfl,kW⟩;replace kW:=kW.symm;subst kW;exact aC0
 apply kC∘X9;rintro v E R' ⟨oF,eK,rfl,oA,tO,j4,DP,rfl,rfl⟩;refine⟨bC,hC,?_⟩;apply YD∘YA;exact aBM):=h
def aO2(h:p:=by apply h1∘w1;rintro v E R' ⟨aZ2,rfl,rfl,Dv⟩;replace Dv:=Dv.symm;subst Dv;apply(aUj);rintro v E R' ⟨b57,rfl,a2E,rfl,rfl⟩;apply q6∘Y5;first|exact eG ⟨(eK,j+1,_),j4,by dsimp only;omega,a2E,FI.next (.inl rfl)⟩|exact eG ⟨(eK,j+1,_),j4,by dsimp only;omega,a2E,FI.next (.inr b4O)⟩):=h
def aO3(h:p:=by apply h1∘w1;rintro v E R' ⟨vJ,rfl,rfl,j2⟩;replace j2:=j2.symm;subst j2;apply(aRm);rintro v E R' ⟨aBb,rfl,Ug,rfl,rfl⟩;apply q6∘Y5;first|exact eG ⟨(g8,i+1,_),g6,by dsimp only;omega,Ug,h0.next (.inl rfl)⟩|exact eG ⟨(g8,i+1,_),g6,by dsimp only;omega,Ug,h0.next (.inr a2U)⟩):=h
def aO4(h:p:=by
 apply(k9);first
  |(have dI:=Kz;exact eG ⟨(k+1,(⟨aBd,_⟩:J iI)),by dsimp only;omega,Kz,by dsimp only;rw[GB,jH,N8,if_neg a4t,if_neg fW,if_pos gZ];rfl⟩)
  |exact eG ⟨(k+1,p),by dsimp only;omega,fJ,by dsimp only;rw[GB,jH,N8,if_neg a4t,if_neg fW,if_neg gZ];simp⟩):=h
def aO5(h:p:=by
 have:=Ri (i::gE.map (·.i)) (i::aC) (List.nodup_cons.2 ⟨λa1=>by obtain⟨e,V,aB⟩:=List.mem_map.1 a1;exact a2r e V aB,c6.lC⟩) (λx K=>by
  rcases List.mem_cons.1 K with rfl|K;·simp
  ·obtain⟨e,V,rfl⟩:=List.mem_map.1 K;exact O5 e V)
 simpa using this):=h
def aO6(h:p:=by
 obtain rfl:gE=[]:=by cases gE with|nil=>rfl|cons e gE=>exact absurd (O5 e eY) eY
 obtain rfl:os=[]:=by cases os with|nil=>rfl|cons x l=>simp at sV
 exact aKl HG jX b3W dC c6 p9 (by simpa using FQ) (by simpa using B7) lB cW (AV.trans o4) (by rw[fF]at xQ;exact xQ)):=h
def aO7(h:p:=by
 apply oO∘l6;refine eS (bY (mE (a0j ?_)));refine cF (LJ _) R TS ?_;refine⟨0,false,_,rfl,⟨(λh=>by cases h),λ_=>⟨rfl,λj G U=>?_⟩⟩,rfl,rfl⟩;by_cases a6:j=0;·rw[a6,a8u];exact bI
 ·
  first
   |(exfalso;omega)
   |exact a1.no G U (oH _) Xb):=h
def aO8(h:p:=by first|exact eG ⟨(CE+1,tW+(q7 (a.a8.l.getD CE default) (s.a8.l.getD CE 0)).bJ),by dsimp only;omega,by dsimp only;rw[x6,if_pos dE,a2Q,Int.add_assoc]⟩|exact eG ⟨(CE+1,tW),by dsimp only;omega,by dsimp only;rw[x6,if_neg dE,a2Q]⟩):=h
def aO9(h:p:=by first|exact eG ⟨(PR+1,WZ-(nB (a.bD.l.getD PR default) (s.bD.l.getD PR 0) q).bJ),by dsimp only;omega,by dsimp only;rw[B4,if_pos fW,Tx,Int.sub_sub]⟩|exact eG ⟨(PR+1,WZ),by dsimp only;omega,by dsimp only;rw[B4,if_neg fW,Tx]⟩):=h
def aOt(h:p:=by
 apply(fI);refine iU [5,13] o5 b9 aQ ?_;refine nM ?_ ?_;·
  skip
  apply(X9);rintro v E R' ⟨oF,eK,rfl,oA,tO,j4,DP,rfl,rfl⟩;refine⟨bC,hC,?_⟩;apply YD∘YA;exact aBK
 exact b62):=h
def aOu(h:p:=by
 apply(fI);refine iU [5,11] o5 b9 aQ ?_;refine nM ?_ ?_;·
  skip
  apply(X9);rintro v E R' ⟨oF,eK,rfl,oA,tO,j4,DP,rfl,rfl⟩;refine⟨bC,hC,?_⟩;apply YD∘YA;exact aBL
 exact b63):=h
def aOv(h:p:=by
 rintro v E R' ⟨b6c,rfl,b3L,rfl,rfl⟩;apply(LO);exact lP ⟨(k+1,(⟨b6c,_⟩:J iI)),by dsimp only;omega,b3L,by
 dsimp only;rw[GB,jH,N8,if_neg a4t,if_pos fW];first
  |rw[if_pos gZ,kF]
  |rw[if_neg gZ];rfl⟩ hM cB bC eX kM):=h
def aOw(h:p:=by
 intro x K Uu;have bA:=c6.lC;rw[CO,pV,Ms,P9]at bA;rcases List.mem_append.1 K with h|h;·exact bA.2.2 x.i (List.mem_map.2 ⟨x,h,rfl⟩) e.i eY (by rw[Uu,Ei])
 ·exact bA.2.1.1 (List.mem_map.2 ⟨x,h,by rw[Uu,Ei]⟩)):=h
def aBI(h:p:=by
 refine⟨by simp,λr p aG=>?_⟩;rw[K5]at aG;split at aG;·cases aG;exact⟨J.iJ,rfl⟩
 ·cases aG):=h
def aOx(h:p:=by
 intro Y;have:=Ri (gE.map (·.i)) aC c6.lC (λx K=>by
  obtain⟨e,V,rfl⟩:=List.mem_map.1 K;rcases List.mem_cons.1 (O5 e V)with h|h;·exact absurd h (M6 Y e V)
  ·exact h)
 simpa using this):=h
def aOy(h:p:=by
 by_cases DQ:tI ops j=1;·exact DQ
 ·have:=a7f (p:=λk=> !Nat.beq k i) c6 (λe V=>by simp[QP (a2r e V)]) p9 a6 DQ;exact absurd (aB8 (List.all_eq_true.1 MY j this)) DQ):=h
def aOz(h:p:=by
 obtain rfl:gE=[]:=by cases gE with|nil=>rfl|cons e gE=>exact absurd (O5 e eY) eY
 obtain rfl:os=[]:=by cases os with|nil=>rfl|cons x l=>simp at sV
 exact aTh dC c6 xQ lB cW hK):=h
def aOA(h:p:=by
 refine gK _ _ _ w' ⟨.own g cap spare,?_,?_,?_,rfl⟩ pL;·rw[J.val];dsimp only;rw[aZ];rfl
 ·rw[J.ok];dsimp only;rw[aZ];exact xU
 ·rw[hR,J.L];dsimp only;rw[<-e]):=h
def aBJ(h:p:=by
 rw[lN,I9,lN];split;·rename_i h;subst h;simp[Y]
 ·rename_i h;rw[if_neg (λe=>h e.symm)]):=h
def aOB(h:p:=by rw[WQ];obtain⟨⟨aD,bF,bE⟩,cM,Y⟩:=aF;refine(h.2 w aD bF).mono ?_;rintro e w' ⟨v,E,R',rfl,aG,cW⟩;exact k v E R' w' aG (c5.trans ⟨⟨aD,bF,bE⟩,cM,Y⟩ bE cW)):=h
def aOC(h:p:=by
 have aZ:=h.len;refine⟨by simp[aZ],λj a6=>?_,λj G U=>?_⟩;·
  rw[I9];split;·rename_i e;rw[if_pos D,K,e]
  ·exact h.ML j D
 ·rw[P7 D];exact h.TF j D U):=h
def aOD(h:p:=by
 apply fI∘aTt∘aSa;refine QY yG b9 aQ rfl ?_;refine jI ?_;first
  |exact Nt ⟨(SB,aBe),La⟩ hM cB (Mr _) aQM eX
  |exact Nt ⟨(SB,aBe),La⟩ hM cB Wg aQM eX):=h
def aOE(h:p:=by apply kC∘Zv;rintro v E R' ⟨rfl,rfl,rfl⟩;apply(fI);refine iU [2] SN b9 aQ ?_;apply kC∘aIQ;rintro v E R' ⟨Ft,rfl,Ue,rfl,rfl⟩;apply fI∘aH9;exact aOX):=h
def aOF(h:p:=by subst MX;refine bB.wpOp aB AX ⟨⟨DM,fL.imp (λh=>?_) id⟩,H⟩;obtain⟨k,Y,aZ⟩:=List.any_eq_true.1 h;exact List.any_eq_true.2 ⟨k,Y,getD_set_true aZ⟩):=h
def aOG(h:p:=by
 refine⟨h.len,λj a6=>?_,λj G U=>h.TF j D U⟩;rcases gX j i with G|G;·exact h.ML j G
 ·
  obtain rfl:j=i:=by omega
  rw[h.TF j (gS _) aB,K]):=h
def aOH(h:p:=by
 apply(k9);exact lP (⟨k+1,by omega,λj a6=>by
 rcases gX j k with h|h;·exact jX j h
 ·
  obtain rfl:j=k:=by omega
  omega⟩) hM cB bC eX kM):=h
def aOI(h:p:=by exact a5a (bL:=[(3,[.i]),(3,[.i])]) aQ aQ aB aQ aQ (by intro p aG;simp only[nX,pO,or_false]at aG;rcases aG with rfl|rfl<;>exact JV aQ)):=h
def aOJ(h:p:=by have:=lB.put (d:=lD.dst) (by rw[a7];simpa[SF]using ZT) (.pointer (some ⟨w.heap.size,0,none⟩));rw[a7]at this|-;exact this):=h
def aOK(h:p:=by
 exact lP ⟨k+1,by omega,λj a6=>by
 rcases gX j k with h|h;·exact jX j h
 ·
  obtain rfl:j=k:=by omega
  omega⟩ hM cB bC eX kM):=h
def aOL(h:p:=by
 intro k Y d;rcases gX k done.size with cD|cD;·exact .inl ((c6.dB k d).2 (.inl (by simp[cD]at Y|-;exact Y)))
 ·exact .inr cD):=h
def aBK(h:p:=by
 refine iU [8,13] o5 b9 aQ ?_;refine nM ?_ ?_;·
  skip
  exact b7v
 exact b7p):=h
def aBL(h:p:=by
 refine iU [8,11] o5 b9 aQ ?_;refine nM ?_ ?_;·
  skip
  exact b7x
 exact b7r):=h
def aOM(h:p:=by first|exact eG ⟨(k+1,_),by dsimp only;omega,hR.next dE D aG aAf⟩|exact eG ⟨(k+1,F),by dsimp only;omega,hR.F5 Bb⟩):=h
def aBM(h:p:=by
 refine iU [3,8] o5 b9 aQ ?_;refine nM ?_ ?_;·
  skip
  exact b7s
 exact b7u):=h
def aON(h:p:=by refine aEo (w':=w.setRow b _) ?_ (gK undef E R _ ⟨rfl,rfl⟩ (aF.setRow cZ));simp[execOp,K,bB,Instr.storeAt,Instr.sureAddr,this]):=h
def aBG(h:p:=by refine zX ⟨_,?_⟩;rw[T7];(repeat' split)<;>first|rfl|omega):=h
def aOo(h:p:=by refine cW.yN ?_;simp only[UP,CO,pV,kF,mK];refine aCc _ ?_;exact(Wg (l₁:=F9.map λe=>(⟨e.b,TU M e.T,e.T⟩:bQ))).symm):=h
def aOp(h:p:=by intro Y e V aB;obtain⟨Aj,G,U,_,_⟩:=c6.op e V;rw[aB]at G;obtain rfl:Aj=o':=uA (G.symm.trans oB);exact Y (aES U)):=h
def Vw(h:p:=by
 split at this;·cases this
 ·omega):=h
def Vx(h:p:=by simp[execOp,resolve,invoke,builtin]):=h
def aOq(h:p:=by
 rcases(c6.dB i true).1 aZ with h|⟨e,V,aB⟩;·rw[h]at Tq;cases Tq
 ·exact absurd aB (M6 Y e V)):=h
def aOr(h:p:=by have U:=cA λaZ=>h (.tail _ aZ);simp only[mK,Lib.indexByte,beq_iff_eq,G,if_false,U,kL];rw[if_neg D];omega):=h
def aBH(h:p:=by unfold IntKind.wrap;simp[IntKind.bits,IntKind.signed];omega):=h
def aOs(h:p:=by
 rcases(c6.dB i true).1 aZ with h|⟨e,V,aB⟩;·rw[h]at Tq;cases Tq
 ·exact absurd aB (a2r e V)):=h
def Gh(h:p:=by refine eL L R ?_;exact b6V):=h
def aPa(h:p:=by
 intro w' PP;rw[aMg];split at PP;·rename_i h;rw[if_pos h];exact PP
 ·rename_i h;rw[if_neg h];exact PP):=h
def aPb(h:p:=by
 intro x K;rcases List.mem_cons.1 (O5 x (vR x K))with h|h;·exact absurd h (a9Z x K)
 ·exact h):=h
def aPc(h:p:=by obtain⟨qQ,b6k,b6l,op,b6h,b6i⟩:=lD;simp only at dF;subst dF;simp[execOp,Instr.alloc,WW,newVar,newRow]):=h
def aPd(h:p:=by rw[lB.eval];exact aRk (ops:=ops) (λcs b=>a3X HG i o' cs b oB) (λe V=>(apart Y e V).1)):=h
def aPe(h:p:=by exact lP ⟨k+1,by omega⟩ hM (by dsimp only;rw[cW];exact⟨rfl,rfl,trivial⟩) bC eX kM):=h
def Vy(h:p:=by rename_i G;exact absurd h G):=h
def aPf(h:p:=by exact⟨.nil,by rw[V];rfl,J.iJ,by rw[V];rfl,by rw[pC];rfl,λr O=>aU O⟩):=h
def aPg(h:p:=by
 rcases List.mem_cons.1 (O5 e V)with h|h;·exact absurd h (M6 Y e V)
 ·exact h):=h
def aPh(h:p:=by rcases bA with rfl|rfl|rfl|rfl|rfl|rfl|rfl|rfl<;>constructor<;>omega):=h
def aPi(h:p:=by
 apply(fI);refine iU [11,13] o5 b9 aQ ?_;refine nM ?_ ?_;·
  skip
  exact b6Y
 exact b7z):=h
def aPj(h:p:=by
 apply(fI);refine iU [3,13] o5 b9 aQ ?_;refine nM ?_ ?_;·
  skip
  exact b6Z
 exact b7A):=h
def aPk(h:p:=by
 apply(fI);refine iU [3,11] o5 b9 aQ ?_;refine nM ?_ ?_;·
  skip
  exact b60
 exact b7C):=h
def aPl(h:p:=by
 split at aO;·exact⟨by omega,by omega,bW,by omega,by omega,by omega⟩
 ·omega):=h
def aBP(h:p:=by intro fV;replace fV:=cP fV;exact(gB) v6):=h
def aBQ(h:p:=by intro fV;replace fV:=cP fV;exact(h1) NN):=h
def aPm(h:p:=by exact eG ⟨(k+1,l.set P.o9.toNat _),by dsimp only;omega,fJ.next kR D a2N⟩):=h
def aBR(h:p:=by show(w.heap.push _)[b]?=_;rw[b6W,if_neg D]):=h
def aPn(h:p:=by
 intro e V;rcases List.mem_cons.1 V with rfl|V;·exact a2u
 ·exact O5 e V):=h
def aPo(h:p:=by intro i aB _;have:=List.all_eq_true.1 bW i (List.mem_range.2 aB);simpa using this):=h
def aBS(h:p:=by apply(Cs);exact eG (⟨k+1,by omega⟩)):=h
def aBT(h:p:=by split<;>first|omega|(dsimp only;omega)):=h
def aPp(h:p:=by refine cW.rU ?_ (λr O=>⟨r,O,.lK⟩);rw[b3];exact a3J (a3M _ _) iP):=h
def aPq(h:p:=by
 rcases List.mem_append.1 K with h|h;·exact oI _ h
 ·exact kE _ (K6 _ h)):=h
def aPr(h:p:=by rw[UH,K7,T6 cW vR];rw[K4 (List.getElem?_eq_some_iff.1 a6).1];exact a6):=h
def aPs(h:p:=by
 intro c w aF a next Q k
 rw[h c w aF];exact k v L R w ⟨rfl,rfl,rfl⟩ aF):=h
def hS:=@List.mem_of_getElem?
def lN:=@List.getD_eq_getElem?_getD
def hL:=@List.length_append
def kE:=@List.mem_append_right
def gX:=@Nat.lt_or_ge
def kF:=@List.append_assoc
def kL:=@List.length_cons
def gS:=@Nat.le_refl
def oI:=@List.mem_append_left
def lY:=@Bool.and_eq_true
def mK:=@List.cons_append
def rE:=@List.length_singleton
def oU:=@List.Sublist.refl
def s6:=@Nat.le_of_ble_eq_true
def w4:=@List.getElem?_eq_getElem
def nJ:=@List.nil_append
def pW:=@List.getElem?_map
def pO:=@List.not_mem_nil
def u1:=@List.getElem?_eq_none
def rD:=@Result.andThen_ok
def nX:=@List.mem_cons
def yV:=@List.take_of_length_le
def pU:=@List.length_map
def tZ:=@Int.toNat_natCast
def K3:=@List.exists_of_findSome?_eq_some
def pV:=@List.map_cons
def rV:=@List.append_nil
def NJ:=@List.eq_nil_of_length_eq_zero
def uA:=@Option.some.inj
def vZ:=@List.flatMap_cons
def K4:=@List.getElem?_append_left
def oH:=@Int.le_refl
def K5:=@List.getElem?_replicate
def v1:=@List.length_nil
def NK:=@List.findSome?_eq_none_iff
def w3:=@List.length_set
def I8:=@List.getElem?_set_self
def BA:=@List.take_add_one
def BB:=@List.take_length
def NL:=@Array.getElem?_eq_none
def s5:=@Sem.run_bind
def x3:=@Int.mul_nonneg
def CO:=@List.map_append
def I9:=@List.getElem?_set
def K6:=@List.mem_cons_of_mem
def rW:=@Nat.zero_le
def F8:=@List.length_drop
def XP:=@Int.tdiv_eq_ediv_of_nonneg
def XQ:=@List.getElem?_append_right
def D7:=@List.mem_append
def P7:=@List.getElem?_set_ne
def XR:=@List.sublist_append_right
def HS:=@List.length_take
def BC:=@Classical.em
def P8:=@List.getElem?_range
def NM:=@List.foldl_append
def P9:=@List.nodup_cons
def JA:=@Int.mul_le_mul
def D8:=@Sem.run_pure
def a33:=@List.perm_append_comm_assoc
def Ba:=@Int.toNat_of_nonneg
def Wl:=@Array.getElem?_setIfInBounds_ne
def Gu:=@List.getElem?_singleton
def XU:=@List.mem_singleton
def HT:=@Int.lt_or_le
def HU:=@Nat.le_trans
def XV:=@List.getElem?_take
def Wp:=@Int.mul_le_mul_of_nonneg_left
def K7:=@Nat.zero_add
def Gv:=@List.length_replicate
def Gj:=@List.perm_append_comm
def Gk:=@List.mem_of_mem_drop
def Gl:=@List.getElem?_append
def K2:=@Nat.succ_mul
def a3G:=@List.sublist_cons_self
def Au:=@List.ext_getElem?
def Gm:=@List.getElem_of_mem
def a3J:=@List.Sublist.append
def a3K:=@Int.mul_le_mul_of_nonneg_right
def a3L:=@Nat.and_two_pow_sub_one_eq_mod
def a3M:=@List.sublist_append_left
def Gp:=@List.ne_nil_of_mem
def Gr:=@Nat.lt_of_lt_of_le
def Gs:=@List.mem_cons_self
def Ax:=@Option.bind_some
def a3O:=@List.take_append_of_le_length
def We:=@Option.bind_eq_some_iff
def Mr:=@List.Perm.refl
def XO:=@List.mem_range
def P6:=@List.set_set
def Gt:=@Bool.not_eq_true'
def Ms:=@List.nodup_append
def Ay:=@Option.map_some
def Wf:=@List.drop_eq_nil_of_le
def a3S:=@Int.fdiv_eq_ediv_of_nonneg
def Wg:=@List.perm_middle
def Mu:=@Nat.lt_or_eq_of_le
def Az:=@List.nodup_nil
def Wh:=@List.mem_of_mem_take
def a3X:=@Region.noSelect_spec
def Wi:=@Nat.mul_le_mul_right
def Mw:=@Option.some.injEq
def a3Z:=@List.find?_range_eq_some
def Mx:=@Nat.le_of_lt_succ
def XS:=@List.map_nil
def Wk:=@List.flatMap_append
def My:=@List.length_tail
def a30:=@ByteArray.data_extract
def Mz:=@Int.ediv_nonneg
def aB8:=@Nat.eq_of_beq_eq_true
def aCa:=@Array.getD_eq_getD_getElem?
def aCc:=@List.Perm.append_left
def aCd:=@Int.tmod_eq_emod_of_nonneg
def a35:=@List.pairwise_append
def a38:=@Int.ediv_emod_unique
def Na:=@List.drop_zero
def Wm:=@Int.ediv_le_self
def Wn:=@List.getElem_mem
def Wo:=@List.map_toArray
def Wq:=@Nat.mod_eq_of_lt
def a4b:=@List.replicate_succ
def a4d:=@Array.length_toList
def Wb:=@Bool.eq_iff_iff
def a3F:=@Int.tmod_lt_of_pos
def Wc:=@List.foldl_cons
def aBW:=@Nat.le_mul_of_pos_right
def a3H:=@Nat.eq_zero_or_pos
def a3I:=@List.filter_append
def Mp:=@Int.mul_assoc
def Wd:=@Bool.or_eq_true
def aBX:=@List.getElem?_cons_zero
def aPw:=@Int.ediv_nonpos_of_nonpos_of_neg
def Gn:=@Int.neg_mul
def Gq:=@Nat.add_mul
def a3N:=@List.size_toArray
def Av:=@Nat.beq_eq
def aBY:=@List.set_append_right
def Mq:=@Nat.add_comm
def aBZ:=@Array.getElem?_append
def a3P:=@List.flatMap_nil
def a3Q:=@Region.free_spec
def aPx:=@List.Sublist.map
def a3R:=@BitVec.toNat_and
def aPy:=@List.drop_append_of_le_length
def aB0:=@List.replicate_succ'
def aB1:=@List.mem_of_mem_tail
def a3T:=@Int.emod_nonneg
def Mt:=@Int.mul_neg
def a3U:=@Int.tmod_nonneg
def aB2:=@Nat.mul_le_mul_left
def a3W:=@List.range_succ
def Mv:=@Nat.mul_one
def b6W:=@Array.getElem?_push
def a3Y:=@List.cons.injEq
def aB3:=@List.findSome?_map
def aB4:=@Int.emod_lt_of_pos
def Wj:=@Nat.sub_self
def aB5:=@List.set_cons_zero
def aB6:=@Array.empty_append
def aB7:=@Int.sub_eq_add_neg
def a32:=@List.drop_drop
def aB9:=@List.flatten_cons
def aCb:=@List.length_range
def a34:=@ByteArray.ext
def XT:=@Ne.symm
def a36:=@Nat.add_assoc
def aCe:=@List.nil_sublist
def aCf:=@Option.getD_some
def aCg:=@List.drop_append
def aCh:=@List.filter_cons
def a39:=@Int.mul_zero
def a4a:=@Nat.mul_comm
def a4c:=@Bool.or_true
def eW(h:p:=by exact λs aF=>by cases aF):=h
def bH(h:p:=by exact λ_=>rfl):=h
def iP{aY:Type}{l:List aY}:l.Sublist l:=oU l
def b9{aY:Type}{l:List aY}:[].Sublist l:=aCe l
def aPz(h:p:=by exact⟨by refine congrArg Value.bool ?_;rw[Wb];simp,rfl,rfl⟩):=h
def b6V(h:p:=by exact⟨by refine congrArg (Value.int .i64) ?_;rw[LD,Oz];(repeat' split)<;>omega,rfl,rfl⟩):=h
def a3V(h:p:=by exact⟨by refine congrArg (Value.int .i64) ?_;rw[Po];(repeat' split)<;>omega,rfl,rfl⟩):=h
def a4u(h:p:=by refine QY o5 b9 aQ rfl ?_;apply(uY);refine jI ?_;exact Nt (⟨zI,O0,vJ,fK⟩,⟨(oF,eK),⟨oA,tO⟩,j4,DP⟩) hM cB b7y iP eX):=h
def b69(h:p:=by refine gG (bY (dM ?_));apply iS∘a6X;refine aA iX rfl ?_;apply w0∘aRe;rintro v E R' ⟨rfl,rfl⟩;refine eS (hG (hG ?_));exact s9 ⟨(p,(⟨q.o,q.l.set e.aS.toNat ⟨(q.l.getD e.aS.toNat default).bK,(q.l.getD e.aS.toNat default).to,(q.l.getD e.aS.toNat default).len,(q.l.getD e.aS.toNat default).h6,(q.l.getD e.aS.toNat default).qD,decide (e.kind=3),(q.l.getD e.aS.toNat default).aC,(q.l.getD e.aS.toNat default).fQ⟩⟩:J cR)),⟨iN,J.yS bH g7⟩,aIS D D Th⟩ hM cB Wt eX):=h
def b7a(h:p:=by apply(a6Y);refine aA iX rfl ?_;apply w0∘aVi;rintro v E R' ⟨rfl,rfl⟩;refine eS (hG (hG ?_));exact s9 ⟨(p,(⟨q.o,q.l.set e.aS.toNat ⟨(q.l.getD e.aS.toNat default).bK,(q.l.getD e.aS.toNat default).to,(q.l.getD e.aS.toNat default).len,(q.l.getD e.aS.toNat default).h6,(q.l.getD e.aS.toNat default).qD,(q.l.getD e.aS.toNat default).dZ,e.nI,(q.l.getD e.aS.toNat default).fQ⟩⟩:J cR)),⟨iN,J.yS bH g7⟩,aRH D D⟩ hM cB Wt eX):=h
def b7c(h:p:=by apply(a6Y);refine aA iX rfl ?_;apply w0∘aRF;rintro v E R' ⟨rfl,rfl⟩;refine eS (hG (hG ?_));exact s9 ⟨(p,(⟨q.o,q.l.set e.aS.toNat ⟨(q.l.getD e.aS.toNat default).bK,(q.l.getD e.aS.toNat default).to,(q.l.getD e.aS.toNat default).len,(q.l.getD e.aS.toNat default).h6,(q.l.getD e.aS.toNat default).qD,(q.l.getD e.aS.toNat default).dZ,(q.l.getD e.aS.toNat default).aC,e.nI⟩⟩:J cR)),⟨iN,J.yS bH g7⟩,aR6 D D⟩ hM cB Wt eX):=h
def aCS(h:p:=by(iterate 14 apply(tV));apply(C7);refine yX rfl ?_;apply eV∘KB∘y4;refine cF L R NQ ?_;(have V:r6 s c.l fl.l r p t=19:=by rw[r6,if_neg bI,if_neg D,if_pos aQb]);exact⟨by rw[Ib V D,V],rfl,rfl⟩):=h
def aQa(h:p:=by apply(fI);refine iU [10] FL b9 aQ ?_;apply kC∘aYh;rintro v E R' ⟨b54,rfl,b3x,rfl,rfl⟩;apply fI∘aUZ∘aUS;refine QY FL b9 aQ rfl ?_;apply Ao∘U0∘Cp;exact eG ⟨(aNf,j+1,⟨aNt,_⟩,⟨b54,_⟩),b2R,⟨by dsimp only;omega,by dsimp only;omega⟩,⟨aMv,b3x⟩,fL.next a2s mH bZ jO Ej⟩):=h
def QG(h:p:=by intro fV;replace fV:=cP fV;exact(Co) iA):=h
def a4x(h:p:=by apply Lw∘a0D∘aIl;refine jI (bY (mE (lO (i7 ?_))));refine cF L R Gw ?_;(have yJ:w5 l.l (n+1) i=if x.left=0/\x.right=0/\0<=x.cond/\x.cond<64 then some (i,1)else none:=by rw[w5,if_neg bI,<-K,if_pos cK]);exact aWP):=h
def aQg(h:p:=by apply(fI);refine iU [10] FK b9 aQ ?_;apply kC∘aWV;rintro v E R' ⟨aA9,rfl,a2B,rfl,rfl⟩;apply fI∘aYO∘aUM;refine QY FK b9 aQ rfl ?_;apply Ao∘Cn;refine jI ?_;exact zX ⟨(a3c,aA9),Ud,a2B⟩):=h
def JC(h:p:=by intro iM;replace iM:=cP iM;exact(a6V) iA):=h
def b7h(h:p:=by intro nV;replace nV:=cP nV;(have S6:=bR (l:=s.e8.l) (k:=c.target.toNat) default (by(try simp at nV);omega));apply(nZ);(have b98:0<=c.target/\c.target<s.e8.l.length:=by(try simp at nV);omega);exact(aSx∘tG∘P0) iA):=h
def aQp(h:p:=by refine iU [24] q9 b9 aQ ?_;apply kC∘aTO;rintro v E R' ⟨rfl,rfl,rfl⟩;refine⟨bC,hC,?_⟩;apply aT1∘aVK;refine QY q9 b9 aQ rfl ?_;refine jI ?_;exact zX ()):=h
def v6(h:p:=by exact(P0) iA):=h
def aQu(h:p:=by refine fE XY rfl rfl rfl rfl ?_;apply aJE∘F2∘zY∘aRa;rintro v E R' ⟨rfl,rfl⟩;apply(fI);refine jI (bY (cC (dM ?_)));apply Cc∘yD;refine cF (q.L 3 aR++((⟨p.o,(p.l.set s.toNat ⟨x.eI,x.fY,t,x.dZ,x.dL⟩).set s.toNat ⟨x.eI,x.fY,t,x.dZ,lt⟩⟩:J cH).L 143 cH.cells++L)) R ED ?_;exact aUb):=h
def BJ(h:p:=by exact⟨rfl,rfl,rfl⟩):=h
def a4A(h:p:=by rw[<-kF,<-kF];exact List.Perm.append_right _ Gj):=h
def b7k(h:p:=by apply(a6W);refine eS (bY (mE (i7 (lO (lO (a0j ?_))))));refine cF L R TR ?_;exact aWG):=h
def b7l(h:p:=by apply OD∘aTf;rintro v E R' ⟨CM,h8,rfl,g4,VU,zO,rfl,rfl⟩;refine⟨bC,hC,?_⟩;apply NE∘wZ∘LR∘XA;refine jI (hG (bY (cC (dM ?_))));apply a0n∘y5;refine cF [hI c x h8] R (qI rfl Wu) ?_;exact aS4):=h
def b7o(h:p:=by apply(a6W);refine eS (bY (mE (i7 (lO (a0j ?_)))));refine cF L R TR ?_;exact aVf):=h
def aQK(h:p:=by refine g2 b7n rfl ?_;rintro v E R' ⟨aNr,rfl,b3q,rfl,rfl⟩;apply cJ∘aRf∘gQ∘l5∘UW;refine cF ((⟨aNr,l.l⟩:J Int).L 5 s8++(c9.L 216 nO.cells++L)) S (tD rfl QA yW) ?_;exact aSr):=h
def b7q(h:p:=by apply(a6W);refine eS (bY (mE (lO (a0j ?_))));refine cF L R TR ?_;exact aRK):=h
def aQP(h:p:=by apply IE∘jM∘oE∘aDP;rintro v E R' ⟨s1,eK,rfl,oA,tO,St,j4,rfl,rfl⟩;apply(r1);refine eS (hG (bY (cC (dM ?_))));apply a0n∘y5;refine cF [hI c x eK] R (qI rfl Wu) ?_;exact aTx):=h
def b7t(h:p:=by refine aA jE rfl ?_;(iterate 3 apply(A8));apply LQ∘uK;(iterate 3 apply(cJ));refine aA NO rfl ?_;apply oE∘fD∘LQ∘l6∘D4;refine cF L R Gw ?_;exact aZj):=h
def aC7(h:p:=by apply(Ct);refine eL L R ?_;exact⟨by rw[yV (gS _)],rfl,rfl⟩):=h
def b7w(h:p:=by apply vX∘h1;refine eD rfl b67 ?_;apply(dO);intro jB;apply p6∘nZ∘Rd;refine eS (bY (dM ?_));apply nZ∘Rd∘tF;exact eG ⟨k+1,by omega⟩):=h
def Ns(h:p:=by exact⟨0,by rw[V],λh=>by omega,rfl,oV _⟩):=h
def a4L(h:p:=by apply eA∘tF;exact lP ⟨k+1,by omega⟩ hM b64 bC eX kM):=h
def T2(h:p:=by exact(aWJ) iA):=h
def NN(h:p:=by exact(NC) iA):=h
def Wr(h:p:=by intro jP;replace jP:=cP jP;exact(Ix) iA):=h
def a4h(h:p:=by intro iM;replace iM:=cP iM;exact(cJ∘Rc) iA):=h
def b61(h:p:=by intro fV;replace fV:=cP fV;exact(gB∘Rc) iA):=h
def aPG(h:p:=by refine oZ (oX (AF (oW ?_)));exact s9 ⟨(GZ,VW,_),by dsimp only;omega,PJ,a2a,λh=>by first|(exfalso;have cD:VW<r0 up start:=h;omega)|simpa using dE⟩ b7b cB bC eX):=h
def K9(h:p:=by exact(Am) iA):=h
def aCk(h:p:=by apply(GP);refine eL L (p0 n.lE::pH n.l9::(S++R)) ?_;exact aVN):=h
def aPK(h:p:=by apply e1∘gF∘aGS∘r1;refine eS (hG (bY (cC (dM ?_))));apply Ii∘yD;refine cF L R ED ?_;exact aV3):=h
def aPM(h:p:=by rintro v E R' ⟨r,rfl,O,rfl,rfl⟩;apply NC∘sP;refine m5 L R ?_;exact⟨congrArg Value.bool (decide_eq_decide.2 O),rfl,rfl⟩):=h
def aPO(h:p:=by rintro v E R' ⟨p,S,rfl,iN,dC,rfl,rfl⟩;apply C8∘sO;refine cF (p.L 3 aR++L) (S++R) LB ?_;exact⟨p,S,rfl,iN,dC,rfl,rfl⟩):=h
def a4m(h:p:=by intro zN;replace zN:=cP zN;exact(Co) iA):=h
def QC(h:p:=by exact(NB) iA):=h
def aPP(h:p:=by refine oZ (oX (oW (bY (dM ?_))));apply(GO);exact eG ⟨(z-1,(M5,op),aL),by dsimp only;omega,by dsimp only;rw[CA,if_neg b7j],Z2,HE⟩):=h
def aPQ(h:p:=by apply(uJ);refine eL [hI c x k] R ?_;exact⟨0,k,rfl,by omega,λ_=>by omega,λ_=>rfl,Y,λ_=>⟨rfl,rfl⟩,rfl,rfl⟩):=h
def a4q(h:p:=by intro fV;replace fV:=cP fV;exact(a6X) iA):=h
def aPR(h:p:=by rintro v E R' ⟨z,ok,aPv,rfl,hR,rfl,rfl⟩;apply UZ∘sP;refine cF L R TS ?_;exact⟨z,ok,rfl,hR,rfl,rfl⟩):=h
def aPT(h:p:=by refine cF L R TT ?_;(have V:yY S.l f.n5 t=6:=by rw[yY,if_neg a1W,Ee,if_neg a1X,if_neg D,if_pos D]);exact Ys):=h
def aPU(h:p:=by obtain⟨y,bB,rfl⟩:=List.mem_map.1 K;obtain⟨p,aG,rfl⟩:=List.mem_map.1 bB;exact(DM p aG).mono λr h=>aU (by simp[h])):=h
def aPV(h:p:=by exact U.mono λv hA R' ⟨E,e,⟨hO,a2⟩,a3⟩=>⟨hO,by rw[<-a2,rV]at e;exact e,a3⟩):=h
def Bf(h:p:=by exact(PZ) iA):=h
def a4r(h:p:=by apply(eA);refine eS (hG ?_);exact b6t):=h
def aPZ(h:p:=by apply(k9);exact eG ⟨jJ+1,OY i1 D (by first|exact aXR aG D D|exact aU8 aG D D bZ D)⟩):=h
def aP1(h:p:=by apply(nP);refine aA (aT5 rfl rfl (aSG D)) rfl ?_;exact(eA∘XE∘GO) aTZ):=h
def b68(h:p:=by refine gG (hG (bY (cC (dM ?_))));apply LQ∘sP;refine cF L R Gw ?_;exact aTT):=h
def aP2(h:p:=by refine gG (hG (bY (cC (dM ?_))));apply Ii∘yD;refine cF L R ED ?_;exact aUs):=h
def aP4(h:p:=by rw[pW]at K;obtain⟨p,aG,rfl⟩:=Option.map_eq_some_iff.1 K;exact(mH.ok v p aG).2):=h
def a4v(h:p:=by refine iU [8] o5 b9 aQ ?_;apply kC∘Y1;rintro v E R' ⟨O0,rfl,rfl,qL⟩;(replace qL:=qL.symm;subst qL);exact(fI∘a0e) a4u):=h
def aCR(h:p:=by apply fI∘a0e;refine iU [13] o5 b9 aQ ?_;apply(kC);refine m9 rfl NR rfl rfl ?_;rintro v E R' ⟨fK,rfl,rfl,lV⟩;(replace lV:=lV.symm;subst lV);exact(fI) a4u):=h
def aCT(h:p:=by apply(fI);refine iU [11] o5 b9 aQ ?_;apply kC∘L5;rintro v E R' ⟨vJ,rfl,rfl,j2⟩;(replace j2:=j2.symm;subst j2);exact(fI∘a0e) a4u):=h
def aCU(h:p:=by apply(fI);refine iU [3] o5 b9 aQ ?_;apply kC∘MB;rintro v E R' ⟨zI,rfl,rfl,kW⟩;(replace kW:=kW.symm;subst kW);exact(fI∘a0e) a4u):=h
def b7e(h:p:=by(have yH:b=true:=by cases b with|true=>rfl|false=>simp at lJ);have aMk:=(Ie _ _ _ _ (kR.z1 yH)).1;rw[kR.z1 yH]at yJ;dsimp only at yJ;(rw[if_pos (by rw[yH]at lJ;simp at lJ;omega)]at yJ);apply gI∘k2∘oD;refine dN rfl (cA (m-1) _ D D D) rfl ?_;rintro v E R' ⟨f,q,eN,rfl,a8B,rfl,rfl⟩;have b8E:=a8B.B2;exact b7t):=h
def aQe(h:p:=by apply oE∘aDP;rintro v E R' ⟨s1,eK,rfl,oA,tO,St,j4,rfl,rfl⟩;apply r1∘OC∘aS1;rintro v E R' ⟨oF,mJ,rfl,g3,VT,wR,rfl,rfl⟩;exact(gF∘r1∘dD∘aZv∘wZ) b7l):=h
def b7g(h:p:=by have K:=bR (l:=p.bD.l) (k:=k) default D;have aL0:=aI7 aG bZ k D;have FO:=aG.nF _ _ K;have S5:=aJA FO (p.bD.l.getD k default).state q;apply jK∘A6∘Ma∘dO;intro mF;exact(p6∘gF) b7w):=h
def aCW(h:p:=by refine jI (bY (mE (lO (i7 ?_))));refine cF L R (tD rfl (EL XW) EE) ?_;exact BJ):=h
def aCX(h:p:=by(iterate 3 apply(tV));apply(yC);(iterate 4 apply(tV));exact(yC) aCS):=h
def b7i(h:p:=by intro vQ;replace vQ:=cP vQ;(have yH:b=true:=by cases b with|true=>rfl|false=>simp at vQ);have aMk:=(Ie _ _ _ _ (kR.z1 yH)).1;exact(Cr) v6):=h
def aQs(h:p:=by apply(fI);refine iU [9] q9 b9 aQ ?_;apply kC∘aJi;rintro v E R' ⟨rfl,rfl,rfl⟩;refine⟨bC,hC,?_⟩;exact aQp):=h
def aQv(h:p:=by apply(fI);refine iU [5] FK b9 aQ ?_;apply kC∘aIG;rintro v E R' ⟨a3c,rfl,Ud,rfl,rfl⟩;exact aQg):=h
def aQy(h:p:=by apply(fI);refine iU [5] FL b9 aQ ?_;apply kC∘aJx;rintro v E R' ⟨aNt,rfl,aMv,rfl,rfl⟩;exact aQa):=h
def a4B(h:p:=by apply(Iy);refine m5 L R ?_;exact BJ):=h
def Xj(h:p:=by intro h7;replace h7:=cP h7;exact T2):=h
def b7m(h:p:=by(obtain rfl:k=p.bD.l.length:=by omega);apply oS∘LP;refine cF L R mM ?_;exact BJ):=h
def aC0(h:p:=by apply(fI);refine iU [5] o5 b9 aQ ?_;apply kC∘X9;rintro v E R' ⟨oF,eK,rfl,oA,tO,j4,DP,rfl,rfl⟩;refine⟨bC,hC,?_⟩;exact(YD∘YA) a4v):=h
def b7p(h:p:=by apply(kC);refine m9 rfl NR rfl rfl ?_;rintro v E R' ⟨fK,rfl,rfl,lV⟩;(replace lV:=lV.symm;subst lV);exact(fI) a4v):=h
def b7r(h:p:=by apply kC∘L5;rintro v E R' ⟨vJ,rfl,rfl,j2⟩;(replace j2:=j2.symm;subst j2);exact(fI) a4v):=h
def b7s(h:p:=by apply(MB);rintro v E R' ⟨zI,rfl,rfl,kW⟩;(replace kW:=kW.symm;subst kW);exact(fI) a4v):=h
def b7u(h:p:=by apply kC∘Y1;rintro v E R' ⟨O0,rfl,rfl,qL⟩;(replace qL:=qL.symm;subst qL);exact aCU):=h
def b7v(h:p:=by apply(Y1);rintro v E R' ⟨O0,rfl,rfl,qL⟩;(replace qL:=qL.symm;subst qL);exact aCR):=h
def b7x(h:p:=by apply(Y1);rintro v E R' ⟨O0,rfl,rfl,qL⟩;(replace qL:=qL.symm;subst qL);exact aCT):=h
def b7z(h:p:=by apply(kC);refine m9 rfl NR rfl rfl ?_;rintro v E R' ⟨fK,rfl,rfl,lV⟩;(replace lV:=lV.symm;subst lV);exact aCT):=h
def b7A(h:p:=by apply(kC);refine m9 rfl NR rfl rfl ?_;rintro v E R' ⟨fK,rfl,rfl,lV⟩;(replace lV:=lV.symm;subst lV);exact aCU):=h
def b7C(h:p:=by apply kC∘L5;rintro v E R' ⟨vJ,rfl,rfl,j2⟩;(replace j2:=j2.symm;subst j2);exact aCU):=h
def b6Y(h:p:=by apply(L5);rintro v E R' ⟨vJ,rfl,rfl,j2⟩;(replace j2:=j2.symm;subst j2);exact aCR):=h
def b6Z(h:p:=by apply(MB);rintro v E R' ⟨zI,rfl,rfl,kW⟩;(replace kW:=kW.symm;subst kW);exact aCR):=h
def b60(h:p:=by apply(MB);rintro v E R' ⟨zI,rfl,rfl,kW⟩;(replace kW:=kW.symm;subst kW);exact aCT):=h
def b62(h:p:=by apply(kC);refine m9 rfl NR rfl rfl ?_;rintro v E R' ⟨fK,rfl,rfl,lV⟩;(replace lV:=lV.symm;subst lV);exact aC0):=h
def b63(h:p:=by apply kC∘L5;rintro v E R' ⟨vJ,rfl,rfl,j2⟩;(replace j2:=j2.symm;subst j2);exact aC0):=h
def b2(h:p:=by exact show _=Value.bool _ from rfl):=h
def D9(h:p:=by exact show _=Value.int _ _ from rfl):=h
def K8(h:p:=by exact show _=Value.slice _ _ _ from rfl):=h
def QA(h:p:=by exact UB (row:=[_,_]) M rfl rfl rfl mC aK aK):=h
def XW(h:p:=by exact show _=Value.string _ from rfl):=h
def aPE(h:p:=by exact UB (row:=[_,_,_,_,_,_,_,_,_,_,_,_,_,_,_,_,_,_,_,_,_,_,_]) M rfl rfl rfl mC aK aK):=h
def qW(h:p:=by exact v7 (row:=[_,_,_]) M rfl rfl rfl mC aK aK):=h
def XX(h:p:=by exact UB (row:=[_,_,_]) M rfl rfl rfl mC aK aK):=h
def Ws(h:p:=by exact UB (row:=[_,_,_,_,_]) M rfl rfl rfl mC aK aK):=h
def NP(h:p:=by exact v7 (row:=[_,_,_,_,_,_,_,_,_,_,_,_,_,_,_,_,_,_,_,_,_,_,_]) M rfl rfl rfl mC aK aK):=h
def EC(h:p:=by exact v7 (row:=[_,_,_,_,_,_,_,_]) M rfl rfl rfl mC aK aK):=h
def kT(h:p:=by exact a5A M rfl rfl rfl):=h
def Wu(h:p:=by exact UB (row:=[_,_,_,_,_,_,_,_,_,_,_,_,_,_,_,_]) M rfl rfl rfl mC aK aK):=h
def qY(h:p:=by exact JO M rfl rfl rfl mC aK):=h
def j8(h:p:=by exact aSO mC rfl rfl):=h
def a4p(h:p:=by exact UB (row:=[_,_,_,_]) M rfl rfl rfl mC aK aK):=h
def Wv(h:p:=by exact CS (hB:=[(0,(Value.int _ _).cells.toList),(1,(Value.int _ _).cells.toList)]) (c9:=[_,_]) M rfl rfl rfl rfl rfl rfl rfl):=h
def Bc(h:p:=by exact v7 (row:=[_,_,_,_,_,_,_,_,_,_,_,_,_,_,_,_]) M rfl rfl rfl mC aK aK):=h
def QF(h:p:=by exact rX M (p) rfl rfl rfl cL bS bH bS aK):=h
def mL(h:p:=by exact aU (.head _)):=h
def Nf(h:p:=by exact CS (hB:=[(0,(Value.agg _).cells.toList)]) (c9:=[_,_,_]) M rfl rfl rfl rfl rfl rfl rfl):=h
def Wx(h:p:=by exact l7 (hB:=[(0,(Value.int _ _).cells.toList),(1,(Value.int _ _).cells.toList)]) (c9:=[_,_]) M rfl rfl rfl rfl):=h
def eX(h:p:=by exact oV _):=h
def Bi(h:p:=by exact v7 (row:=[_,_,_,_,_,_,_,_,_,_]) M rfl rfl rfl mC aK aK):=h
def Wz(h:p:=by exact CS (hB:=[(0,(Value.agg _).cells.toList)]) (c9:=[_,_,_,_]) M rfl rfl rfl rfl rfl rfl rfl):=h
def Nh(h:p:=by exact l7 (hB:=[]) (c9:=[_,_,_,_,_,_,_,_,_,_,_,_,_,_,_,_]) M rfl rfl rfl rfl):=h
def X0(h:p:=by exact v7 (row:=[_,_,_,_,_]) M rfl rfl rfl mC aK aK):=h
def TX(h:p:=by exact v7 (row:=[_,_]) M rfl rfl rfl mC aK aK):=h
def aCQ(h:p:=by exact l7 (hB:=[(0,(Value.int _ _).cells.toList),(1,(Value.int _ _).cells.toList),(2,(Value.slice _ _ _).cells.toList)]) (c9:=[_,_,_]) M rfl rfl rfl rfl):=h
def iX(h:p:=by exact aSd rfl):=h
def CP(h:p:=by exact aR4 M rfl rfl rfl):=h
def CQ(h:p:=by exact aR5 M rfl rfl rfl):=h
def jE(h:p:=by exact mN rfl):=h
def a4y(h:p:=by exact CS (hB:=[(0,(Value.int _ _).cells.toList)]) (c9:=[_]) M rfl rfl rfl rfl rfl rfl rfl):=h
def a4z(h:p:=by exact CS (hB:=[(0,(Value.agg _).cells.toList)]) (c9:=[_,_]) M rfl rfl rfl rfl rfl rfl rfl):=h
def NR(h:p:=by exact aFA M rfl):=h
def X2(h:p:=by exact show _=Value.pointer _ from rfl):=h
def aCY(h:p:=by exact l7 (hB:=[(0,(Value.slice _ _ _).cells.toList),(1,(Value.slice _ _ _).cells.toList)]) (c9:=[_,_]) M rfl rfl rfl rfl):=h
def QH(h:p:=by exact aU (.tail _ (.head _))):=h
def aCZ(h:p:=by exact CS (hB:=[(0,(Value.agg _).cells.toList)]) (c9:=[_,_,_,_,_,_,_,_,_,_]) M rfl rfl rfl rfl rfl rfl rfl):=h
def aQA(h:p:=by exact Ox c.target (s.e8.l.length:Int) _ _):=h
def aQD(h:p:=by exact l7 (hB:=[(0,(Value.agg _).cells.toList),(1,(Value.slice _ _ _).cells.toList),(2,(Value.slice _ _ _).cells.toList),(4,(Value.slice _ _ _).cells.toList)]) (c9:=[_,_,_,_,_,_,_,_]) M rfl rfl rfl rfl):=h
def aQG(h:p:=by exact CS (hB:=[(0,(Value.int _ _).cells.toList),(1,(Value.int _ _).cells.toList),(2,(Value.int _ _).cells.toList),(3,(Value.int _ _).cells.toList)]) (c9:=[_,_,_,_]) M rfl rfl rfl rfl rfl rfl rfl):=h
def NS(h:p:=by exact aTb M rfl rfl rfl):=h
def Xn(h:p:=by exact l7 (hB:=[]) (c9:=[_,_,_]) M rfl rfl rfl rfl):=h
def Xp(h:p:=by exact iV M (p) _ rfl rfl rfl rfl bS (i:=0) c7 iY):=h
def z6(h:p:=by exact aT0 rfl rfl):=h
def aC5(h:p:=by exact l7 (hB:=[(0,(Value.agg _).cells.toList)]) (c9:=[_,_,_,_]) M rfl rfl rfl rfl):=h
def aC6(h:p:=by exact l7 (hB:=[(1,(Value.bool _).cells.toList)]) (c9:=[_,_]) M rfl rfl rfl rfl):=h
def aQT(h:p:=by exact l7 (hB:=[(0,(Value.int _ _).cells.toList),(1,(Value.int _ _).cells.toList),(2,(Value.int _ _).cells.toList)]) (c9:=[_,_,_]) M rfl rfl rfl rfl):=h
def aQV(h:p:=by exact l7 (hB:=[(0,(Value.int _ _).cells.toList),(3,(Value.int _ _).cells.toList)]) (c9:=[_,_,_,_,_,_,_,_,_,_,_,_,_,_,_,_]) M rfl rfl rfl rfl):=h
def aQX(h:p:=by exact l7 (hB:=[(0,(Value.int _ _).cells.toList),(1,(Value.agg _).cells.toList)]) (c9:=[_,_,_,_,_,_,_,_,_,_,_,_,_,_,_,_]) M rfl rfl rfl rfl):=h
def aQY(h:p:=by exact l7 (hB:=[(0,(Value.int _ _).cells.toList),(2,(Value.agg _).cells.toList)]) (c9:=[_,_,_,_,_,_,_,_,_,_,_,_,_,_,_,_]) M rfl rfl rfl rfl):=h
def Nb(h:p:=by exact R5 (f:=l1) (x:=false) rfl _):=h
def aCi(h:p:=by exact iV M ((⟨fG.o,uP⟩:J cY)) _ rfl rfl rfl rfl bS (i:=h8) c7 iY):=h
def aPB(h:p:=by exact CS (hB:=[(0,(Value.agg _).cells.toList),(1,(Value.agg _).cells.toList)]) (c9:=[_,_,_,_]) M rfl rfl rfl rfl rfl rfl rfl):=h
def QB(h:p:=by exact aTn rfl rfl):=h
def a4k(h:p:=by exact aRG M rfl rfl rfl rfl rfl rfl rfl D D):=h
def aCj(h:p:=by exact Cz (u:=x) (m:=1) (aI:=1) M rfl rfl rfl rfl rfl aX D rfl):=h
def aPI(h:p:=by exact CS (hB:=[(0,(Value.agg _).cells.toList)]) (c9:=[_,_,_,_,_,_,_,_,_,_,_,_,_,_,_,_]) M rfl rfl rfl rfl rfl rfl rfl):=h
def NO(h:p:=by exact aSe rfl rfl):=h
def aPL(h:p:=by exact l7 (hB:=[(0,(Value.bool _).cells.toList),(1,(Value.int _ _).cells.toList)]) (c9:=[_,_,_]) M rfl rfl rfl rfl):=h
def aPN(h:p:=by exact l7 (hB:=[(0,(Value.int _ _).cells.toList),(1,(Value.bool _).cells.toList)]) (c9:=[_,_]) M rfl rfl rfl rfl):=h
def Nc(h:p:=by exact show sL s=sL s' from h):=h
def a4n(h:p:=by exact aRS (b:=true) aSZ rfl rfl Nd Nd rfl):=h
def b65(h:p:=by exact aHZ c.r9 _ _):=h
def aCs(h:p:=by exact iV M (p) _ rfl rfl rfl rfl bS (i:=s.toNat) c7 iY):=h
def b66(h:p:=by exact Ox c.target (s.c2.aE.Z.l.length:Int) _ _):=h
def b67(h:p:=by exact aSX (p.bD.l.getD k default).nF (p.bD.l.getD k default).state q _ _ (a1.aZ8 K) FO bZ):=h
def aPS(h:p:=by exact CS (hB:=[(0,(Value.agg _).cells.toList)]) (c9:=[_,_,_,_,_]) M rfl rfl rfl rfl rfl rfl rfl):=h
def Ww(h:p:=by exact aS6 x _ _ (.of hP K) b8):=h
def aCy(h:p:=by exact rX M (q) rfl rfl rfl cL bS bH bS aK):=h
def aPW(h:p:=by exact aFm (⟨s,t,h,x.fU,dK.W,fJ,jS,iQ,(cU g p t).aC,q.W⟩:dS) g.c2 _ _ zT B5):=h
def aPX(h:p:=by exact rX M ((⟨.own B1 bL.l.length [],kX⟩:J Int)) rfl rfl rfl cL bS bH bS aK):=h
def aPY(h:p:=by exact rH (f:=cH.cells) (xs:=f.b6) M rfl rfl rfl aX rfl rfl (pK) bH D):=h
def aP0(h:p:=by exact rX M ((⟨.own zH l.l.length [],vs⟩:J Int)) rfl rfl rfl cL bS bH bS aK):=h
def aCE(h:p:=by exact v7 (row:=[_,_,_,_]) M rfl rfl rfl mC aK aK):=h
def Xa(h:p:=by exact show 0<= -q by omega):=h
def aP3(h:p:=by exact show _=SD mF fK e4 n W6 ps.l u L (ps.l.getD u.toNat 0)from by rw[SD,Oj];rfl):=h
def Bj(h:p:=by exact bR default D):=h
def aP5(h:p:=by exact l7 (hB:=[(0,(Value.int _ _).cells.toList)]) (c9:=[_,_,_,_]) M rfl rfl rfl rfl):=h
def aP7(h:p:=by exact aGr p (ps.l.getD p.aS.bK.toNat 0-ps.l.getD p.aS.to.toNat 0) _ _ aAl c6.ok):=h
def aP9(h:p:=by exact aKf p (ps.l.getD p.aS.bK.toNat 0-ps.l.getD p.aS.to.toNat 0) _ _ aAl c6.ok):=h
def aCV(h:p:=by exact aGU (e:=3) M rfl aQ rfl rfl rfl rfl rfl):=h
def a4w(h:p:=by exact aJR s m _ _ D (.tail _ b3)):=h
def aQf(h:p:=by exact l7 (hB:=[(0,(Value.int _ _).cells.toList)]) (c9:=[_,_]) M rfl rfl rfl rfl):=h
def X1(h:p:=by exact aE8 rfl rfl):=h
def aQm(h:p:=by exact jF M rfl rfl rfl rfl (i:=(a.aE.Z.l.getD k default).bK.toNat) c7 D):=h
def aQo(h:p:=by exact jF M rfl rfl rfl rfl (i:=(a.aE.Z.l.getD k default).to.toNat) c7 D):=h
def aQr(h:p:=by exact l7 (hB:=[(0,(Value.int _ _).cells.toList)]) (c9:=[_]) M rfl rfl rfl rfl):=h
def aQt(h:p:=by exact rH (f:=aR) (xs:=f.b0) M rfl rfl rfl aX rfl rfl (FW) bH D):=h
def aQx(h:p:=by exact jF M rfl rfl rfl rfl (i:=(a.bD.l.getD k default).aS.toNat) c7 D):=h
def aQB(h:p:=by exact show iB (l3 m3.places.l m3.Z.l)=0 from Decidable.not_not.1 a2c):=h
def aQE(h:p:=by exact jF M rfl rfl rfl rfl (i:=(m.Z.l.getD k default).bK.toNat) c7 D):=h
def aQH(h:p:=by exact jF M rfl rfl rfl rfl (i:=(m.Z.l.getD k default).to.toNat) c7 D):=h
def b7n(h:p:=by exact rH (f:=s8) (xs:=l) M rfl rfl rfl aX rfl rfl (WC) bH D):=h
def Xo(h:p:=by exact aSV M rfl rfl rfl):=h
def Bk(h:p:=by exact aXI rfl rfl):=h
def aQO(h:p:=by exact show Tryz.prog.underlying 236=some .unsafePointer by kernel_rfl):=h
def a4F(h:p:=by exact show _=hE by rw[wP]):=h
def a4H(h:p:=by exact show _=jA by rw[FJ]):=h
def rG(h:p:=by exact EL D9):=h
def mM(h:p:=by exact qI rfl QA):=h
def yW(h:p:=by exact EL K8):=h
def EE(h:p:=by exact EL b2):=h
def m8(h:p:=by exact mN XW):=h
def aPA(h:p:=by exact iV M ((⟨.own vI a.aE.Z.l.length [],l⟩:J bG)) _ rfl rfl ((show _=Value.slice _ _ _ from rfl).trans (u7 qN)) rfl bS (i:=P.o9.toNat) c7 iY):=h
def aPC(h:p:=by exact iV M ((⟨TG,EV⟩:J bG)) _ rfl rfl ((show _=Value.slice _ _ _ from rfl).trans (by simp only[J.val,nK])) rfl bS (i:=s.target.toNat) c7 iY):=h
def aPD(h:p:=by exact iV M ((⟨.own vJ fl.l.length [],aD⟩:J Bool)) _ rfl rfl ((show _=Value.slice _ _ _ from rfl).trans (u7 z2)) rfl bS (i:=s.target.toNat) c7 iY):=h
def aPF(h:p:=by exact iV M ((⟨.own zH l.l.length [],vs⟩:J Int)) _ rfl rfl ((show _=Value.slice _ _ _ from rfl).trans (u7 vS)) rfl bS (i:=x.left.toNat) c7 iY):=h
def aPH(h:p:=by exact iV M ((⟨.own zH l.l.length [],vs⟩:J Int)) _ rfl rfl ((show _=Value.slice _ _ _ from rfl).trans (u7 vS)) rfl bS (i:=k) c7 iY):=h
def pX(h:p:=by exact qG XW):=h
def aPJ(h:p:=by exact iV M ((⟨.own b w.l.length [],vs⟩:J Int)) _ rfl rfl ((show _=Value.slice _ _ _ from rfl).trans (u7 vS)) rfl bS (i:=k) c7 iY):=h
def qX(h:p:=by exact mN K8):=h
def Gw(h:p:=by exact Bs rfl rG rG EE):=h
def ED(h:p:=by exact tD rfl XX rG):=h
def BG(h:p:=by exact tD rfl aPE rG):=h
def TR(h:p:=by exact tD rfl QA rG):=h
def NQ(h:p:=by exact tD rfl Ws rG):=h
def LB(h:p:=by exact tD rfl yW rG):=h
def BH(h:p:=by exact qI rfl yW):=h
def XZ(h:p:=by exact Bs rfl yW yW rG):=h
def TS(h:p:=by exact tD rfl rG EE):=h
def TT(h:p:=by exact tD rfl a4p rG):=h
def TV(h:p:=by exact tD rfl rG rG):=h
def TW(h:p:=by exact qI rfl rG):=h
def Wy(h:p:=by exact Bs rfl yW rG rG):=h
def a4s(h:p:=by exact a0i rfl Ws yW XX rG):=h
def Ng(h:p:=by exact tD rfl Wu EE):=h
def lZ(h:p:=by repeat(first|apply AE.lK|apply AE.cons|apply AE.wJ)):=h
def a4e(h:p:=by rw[Wo,bX]):=h
def qV(h:p:=by repeat(first|apply aC2|apply aC3|apply aC4)):=h
def a4f(h:p:=by rw[FJ];exact .head _):=h
def rF(h:p:=by first|exact j9 M rfl rfl rfl rfl i6 (i:=k) c7 D|exact jF M rfl rfl rfl rfl (i:=k) c7 D):=h
def a4g(h:p:=by simp at O;simp[O]):=h
def sF(h:p:=by simp[O]):=h
def a4i(h:p:=by first|exact aTD M rfl rfl rfl D D|exact aXu M rfl rfl rfl D D|exact a55 M rfl rfl rfl):=h
def BD(h:p:=by repeat(first|exact Hq|apply Qj|apply Qw)):=h
def a4j(h:p:=by first|exact aHe rfl rfl D D|exact aWW rfl rfl D D|exact a5Y rfl rfl):=h
def BE(h:p:=by simp only[maxLen];omega):=h
def b64(h:p:=by dsimp only;rw[cW];first|exact cB|(rw[<-aB7];exact cB)):=h
def BF(h:p:=by cases h):=h
def a4l(h:p:=by first|exact j9 M rfl rfl rfl rfl i6 rfl D|exact jF M rfl rfl rfl rfl rfl D):=h
def EA(h:p:=by simpa using bI):=h
def aCl(h:p:=by(repeat(first|apply List.Sublist.cons (a:=bQ.mk fK _ _)|apply List.Sublist.cons_cons));exact oU _):=h
def EB(h:p:=by simp;omega):=h
def aCm(h:p:=by first|(simp only[nJ];done)|(simp only[nJ];rfl)):=h
def JB(h:p:=by dsimp only;rw[pC,nJ];exact oU _):=h
def aCn(h:p:=by first|(simp at cK;rw[JL];omega)|(simp at xS;rw[JL];omega)):=h
def Wt(h:p:=by dsimp only;rw[J.aOi];exact bC):=h
def aCo(h:p:=by dsimp only;rw[pC,pC];exact oU _):=h
def LA(h:p:=by simpa using cK):=h
def aCp(h:p:=by rw[FJ];exact .tail _ (.tail _ (.head _))):=h
def Nd(h:p:=by repeat(first|exact trivial|refine⟨trivial,?_⟩)):=h
def aCq(h:p:=by rw[wP];exact .tail _ (.tail _ (.head _))):=h
def QD(h:p:=by repeat(first|apply kH.kD rfl|apply kH.xO rfl|refine kH.yT (t':=xO _ _ _) rfl ?_|exact kH.refl)):=h
def aCr(h:p:=by dsimp only;rw[F8];omega):=h
def a4o(h:p:=by first|(cases h;done)|(have cD:=of_decide_eq_true h;omega)|(have cD:=of_decide_eq_false h;omega)|omega):=h
def aCt(h:p:=by show x.l.drop 1=_;rw[K];rfl):=h
def XY(h:p:=by first|exact aWs rfl rfl|exact aVE rfl rfl|exact aHP rfl):=h
def aCu(h:p:=by first|exact aRT rfl rfl D D|exact aU0 rfl rfl D D|exact a48 rfl rfl):=h
def Bb(h:p:=by simpa using dE):=h
def aCv(h:p:=by first|exact aJ1 rfl rfl D D|exact a6z rfl rfl):=h
def Bd(h:p:=by simp only[kL]at a1;omega):=h
def aCw(h:p:=by first|exact QQ (row:=[_,_,_,_,_,_,_,_,_,_]) M rfl rfl rfl i6 bS aK aK|exact v7 (row:=[_,_,_,_,_,_,_,_,_,_]) M rfl rfl rfl mC aK aK):=h
def Be(h:p:=by first|exact aSY|rfl):=h
def aCx(h:p:=by first|exact j9 M rfl rfl rfl rfl i6 (i:=f.hJ.l.length-1) c7 D|exact jF M rfl rfl rfl rfl (i:=f.hJ.l.length-1) c7 D):=h
def aCz(h:p:=by first|exact QQ (row:=[_,_,_,_]) M rfl rfl rfl i6 bS aK aK|exact v7 (row:=[_,_,_,_]) M rfl rfl rfl mC aK aK):=h
def Bg(h:p:=by simpa using h):=h
def aCA(h:p:=by first|exact j9 M rfl rfl rfl rfl i6 (i:=s.toNat) c7 D|exact jF M rfl rfl rfl rfl (i:=s.toNat) c7 D):=h
def Bh(h:p:=by first|exact aSW D|rfl):=h
def aCB(h:p:=by first|exact j9 M rfl rfl rfl rfl i6 (i:=z.toNat) c7 D|exact jF M rfl rfl rfl rfl (i:=z.toNat) c7 D):=h
def Gx(h:p:=by(repeat(first|apply List.Sublist.cons (a:=bQ.mk dU _ _)|apply List.Sublist.cons_cons));exact oU _):=h
def aCC(h:p:=by first|exact QQ (row:=[_,_]) M rfl rfl rfl i6 bS aK aK|exact v7 (row:=[_,_]) M rfl rfl rfl mC aK aK):=h
def a4t(h:p:=by rw[dE];decide):=h
def aCD(h:p:=by first|exact j9 M rfl rfl rfl rfl i6 (i:=eK) c7 D|exact jF M rfl rfl rfl rfl (i:=eK) c7 D):=h
def Gy(h:p:=by exact aUG bH bS aX):=h
def aCF(h:p:=by first|exact j9 M rfl rfl rfl rfl i6 (i:=g8) c7 D|exact jF M rfl rfl rfl rfl (i:=g8) c7 D):=h
def Ni(h:p:=by repeat(first|exact b3|apply List.Mem.tail|apply kE)):=h
def aCG(h:p:=by first|exact j9 M rfl rfl rfl rfl i6 (i:=0) c7 D|exact jF M rfl rfl rfl rfl (i:=0) c7 D):=h
def D(h:p:=by omega):=h
def Nj(h:p:=by repeat(first|exact nA.xL Yx|apply nA.MJ)):=h
def aCH(h:p:=by first|exact j9 M rfl rfl rfl rfl i6 (i:=1) c7 D|exact jF M rfl rfl rfl rfl (i:=1) c7 D):=h
def aK(h:p:=by rfl):=h
def Nk(h:p:=by simp only[kL]at FQ;omega):=h
def b7b(h:p:=by repeat(first|exact kH.refl|apply kH.kD rfl|apply kH.xO rfl|apply kH.yT rfl|apply kH.left rfl|apply kH.b5O rfl)):=h
def aQ(h:p:=by kernel_rfl):=h
def Nl(h:p:=by simp only[nJ];rfl):=h
def aP6(h:p:=by repeat(first|exact TZ _|exact X3 _|exact a3M _ _|apply T0|apply T1|apply X4|apply X5)):=h
def Xb(h:p:=by simpa using fW):=h
def aP8(h:p:=by(repeat(first|apply List.Sublist.cons (a:=bQ.mk Di _ _)|apply List.Sublist.cons_cons));exact oU _):=h
def mC(h:p:=by repeat(first|exact aQi|apply aQj|apply aQk)):=h
def aQb(h:p:=by rw[VA];omega):=h
def aQc(h:p:=by(repeat(first|apply List.Sublist.cons (a:=bQ.mk GY _ _)|apply List.Sublist.cons_cons));exact oU _):=h
def aX(h:p:=by decide):=h
def Nn(h:p:=by dsimp only;rw[pC,nJ];exact bC):=h
def aQd(h:p:=by(repeat(first|apply List.Sublist.cons (a:=bQ.mk ME _ _)|apply List.Sublist.cons_cons));exact oU _):=h
def bC(h:p:=by repeat(first|exact TZ _|exact X3 _|apply T0|apply T1|apply X4|apply X5)):=h
def Np(h:p:=by first|exact QQ (row:=[_,_,_,_,_,_,_,_]) M rfl rfl rfl i6 bS aK aK|exact v7 (row:=[_,_,_,_,_,_,_,_]) M rfl rfl rfl mC aK aK):=h
def b7f(h:p:=by dsimp only;first|(rw[aII bI];exact oU _)|(rw[aIB bI];exact oU _)):=h
def bS(h:p:=by assumption):=h
def Nq(h:p:=by first|exact j9 M rfl rfl rfl rfl i6 (i:=jJ) c7 D|exact jF M rfl rfl rfl rfl (i:=jJ) c7 D):=h
def aQh(h:p:=by simp only[hL,kL,v1];omega):=h
def cB(h:p:=by repeat' (first|exact trivial|refine And.intro rfl ?_)):=h
def Xc(h:p:=by repeat(first|exact b3|apply List.Mem.tail)):=h
def aQl(h:p:=by first|(simp at dE;rw[JL];omega)|(simp at nV;rw[JL];omega)):=h
def cL(h:p:=by repeat(first|apply tB.cons|exact tB.lK|exact tB.wV|exact tB.at bS|apply tB.wJ)):=h
def Xd(h:p:=by simp only[nO.n5];omega):=h
def aQn(h:p:=by simp only[kL,hL]at FQ|-;omega):=h
def c7(h:p:=by first|rfl|omega|(simp;omega)):=h
def Xe(h:p:=by rw[wP];exact .head _):=h
def aQq(h:p:=by simp only[kF];exact kE _ O):=h
def Xf(h:p:=by simp at bI;omega):=h
def b7j(h:p:=by rintro⟨G,U⟩;first|omega|(rw[G]at jP;cases jP)):=h
def hM(h:p:=by repeat(first|exact kH.refl|apply kH.kD rfl|apply kH.xO rfl|apply kH.yT rfl|apply kH.left rfl)):=h
def Xg(h:p:=by simpa using gZ):=h
def aQw(h:p:=by first|exact aS3 rfl rfl D D D|exact aXa rfl rfl D D D|exact a4T rfl rfl D):=h
def Xh(h:p:=by simpa using G):=h
def aQz(h:p:=by first|exact QQ (row:=[_,_,_,_,_,_,_,_,_,_,_,_,_,_,_,_]) M rfl rfl rfl i6 bS aK aK|exact v7 (row:=[_,_,_,_,_,_,_,_,_,_,_,_,_,_,_,_]) M rfl rfl rfl mC aK aK):=h
def eY(h:p:=by simp):=h
def Xi(h:p:=by first|exact aDy M rfl rfl rfl i6 bS aK|exact JO M rfl rfl rfl mC aK|exact JO M rfl rfl rfl mC (aIT bS)|exact JO M rfl rfl rfl mC (a57 bH bS rfl)):=h
def aQC(h:p:=by first|exact j9 M rfl rfl rfl rfl i6 (i:=(q.l.getD k 0).toNat) c7 D|exact jF M rfl rfl rfl rfl (i:=(q.l.getD k 0).toNat) c7 D):=h
def hC(h:p:=by first|exact oV _|assumption|exact(λr h=>aU (by simp[h]))):=h
def Xk(h:p:=by first|exact j9 M rfl rfl rfl rfl i6 (i:=i) c7 D|exact jF M rfl rfl rfl rfl (i:=i) c7 D):=h
def aQF(h:p:=by first|exact QQ (row:=[_,_,_,_,_,_]) M rfl rfl rfl i6 bS aK aK|exact v7 (row:=[_,_,_,_,_,_]) M rfl rfl rfl mC aK aK):=h
def iY(h:p:=by first|omega|(dsimp only;omega)|(dsimp only;rw[w3];omega)|(dsimp only;simp only[w3];omega)):=h
def Xl(h:p:=by first|exact j9 M rfl rfl rfl rfl i6 (i:=j) c7 D|exact jF M rfl rfl rfl rfl (i:=j) c7 D):=h
def aQI(h:p:=by first|exact j9 M rfl rfl rfl rfl i6 (i:=r.eR.toNat) c7 D|exact jF M rfl rfl rfl rfl (i:=r.eR.toNat) c7 D):=h
def a4C(h:p:=by(repeat(first|apply List.Sublist.cons (a:=bQ.mk rM _ _)|apply List.Sublist.cons (a:=bQ.mk wL _ _)|apply List.Sublist.cons_cons));exact oU _):=h
def aQJ(h:p:=by first|exact QQ (row:=[_,_,_]) M rfl rfl rfl i6 bS aK aK|exact v7 (row:=[_,_,_]) M rfl rfl rfl mC aK aK):=h
def a4D(h:p:=by rw[mK,kF,mK];exact .tail _ O):=h
def aQL(h:p:=by first|exact j9 M rfl rfl rfl rfl i6 (i:=n.toNat) c7 D|exact jF M rfl rfl rfl rfl (i:=n.toNat) c7 D):=h
def h3(h:p:=by simp only[pC,nJ];rfl):=h
def aQM(h:p:=by dsimp only;rw[<-R5 (f:=aR) (x:=(0:Int)) rfl];exact oU _):=h
def aQN(h:p:=by first|exact j9 M rfl rfl rfl rfl i6 (i:=p.toNat) c7 D|exact jF M rfl rfl rfl rfl (i:=p.toNat) c7 D):=h
def i6(h:p:=by first|assumption|exact Xm eY):=h
def a4E(h:p:=by simp only[D7];exact .inr (List.mem_append.1 h)):=h
def aQQ(h:p:=by first|exact j9 M rfl rfl rfl rfl i6 (i:=a.toNat) c7 D|exact jF M rfl rfl rfl rfl (i:=a.toNat) c7 D):=h
def a4G(h:p:=by repeat(first|exact List.Mem.head _|apply List.Mem.tail)):=h
def aQR(h:p:=by first|exact j9 M rfl rfl rfl rfl i6 (i:=k-1) c7 D|exact jF M rfl rfl rfl rfl (i:=k-1) c7 D):=h
def kM(h:p:=by dsimp only;omega):=h
def a4I(h:p:=by rw[FJ];exact .tail _ (.head _)):=h
def aQS(h:p:=by first|exact j9 M rfl rfl rfl rfl i6 (i:=k+1) c7 D|exact jF M rfl rfl rfl rfl (i:=k+1) c7 D):=h
def b7y(h:p:=by repeat(first|exact Mr _|refine b6p ?_|refine aN4 ?_|refine I4 ?_|refine b6q ?_)):=h
def a4J(h:p:=by rw[wP];exact .tail _ (.head _)):=h
def aQU(h:p:=by first|exact j9 M rfl rfl rfl rfl i6 (i:=2) c7 D|exact jF M rfl rfl rfl rfl (i:=2) c7 D):=h
def kG(h:p:=by first|omega|(simp only[kL,v1,hL];omega)):=h
def a4K(h:p:=by rw[F8];omega):=h
def aQW(h:p:=by first|exact j9 M rfl rfl rfl rfl i6 (i:=5) c7 D|exact jF M rfl rfl rfl rfl (i:=5) c7 D):=h
def a4M(h:p:=by rw[w3];omega):=h
inductive QI where
 |ty (t:TypeId)
 |mp (es:Array MapEntry) (b8h:Nat)
instance:Coe TypeId QI:=⟨.ty⟩
instance(n:Nat):OfNat QI n:=⟨.ty n⟩
structure bQ where
 b:Nat
 cs:List Value
 T:QI
def QI.FZ(cs:List Value):QI->Obj
 | .ty t=>.cells cs.toArray t (0,0)
 | .mp es lU=>.map es lU
inductive eT where
 |mk (aI:Nat) (a:Option Addr) (len cap:Nat) (rows:List (List Value)) (eE:List eT)
def xJ(a:Option Addr):Nat:=match a with|some x=>x.block|none=>0
def Jo(a:Option Addr):Nat:=match a with|some x=>x.off|none=>0
def n0(a:Option Addr)(aI i j:Nat):Nat:=Jo a+i*aI+j
inductive p2(w:World)(aD:Nat->Prop):eT->Prop
 |mk {aI a len cap rows eE} (aZ:rows.length=len) (bU:len<=cap) (a1:cap<9223372036854775808) (cE: ∀r∈rows,r.length=aI)
  (O:rows=[]\/∃b off,a=some ⟨b,off,none⟩/\aD b/\∀i j,i<len->j<aI->w.cell? ⟨b,off+i*aI+j,none⟩=(rows[i]?).bind (·[j]?))
  (aF:∀s∈eE,p2 w aD s):p2 w aD (.mk aI a len cap rows eE)
inductive Sub(s:eT):eT->Prop
 |lK:Sub s s
 |SG {aI a len cap rows eE x} (h:x∈eE) (k:Sub s x):Sub s (.mk aI a len cap rows eE)
def aN(s:eT)(R:List eT):Prop:=∃r∈R,Sub s r
def p2.mono{w w':World}{aD EH:Nat->Prop}(mH:∀b,aD b->EH b)(cE:∀b,aD b->w'.heap[b]?=w.heap[b]?){s:eT}(h:p2 w aD s):p2 w' EH s:=by
 induction h with
 |mk aZ bU a1 sW O aF cA=>
  refine .mk aZ bU a1 sW ?_ cA;rcases O with h|⟨b,off,bX,aT,DC⟩;·exact .inl h
  ·refine .inr ⟨b,off,bX,mH b aT,λi j aB a6=> ?_⟩;rw[<-DC i j aB a6];exact World.cell?_of_block (w:=w) (cE b aT)
def p2.sub{w:World}{aD:Nat->Prop}{s r:eT}(h:p2 w aD r)(k:Sub s r):p2 w aD s:=by
 induction k with
 |lK=>exact h
 |SG K _ cA=>cases h with|mk _ _ _ _ _ aF=>exact cA (aF _ K)
structure Holds(L:List bQ)(aD:Nat->Prop)(R:List eT)(w:World):Prop where
 lC:(L.map (·.b)).Nodup
 own:∀e∈L,w.heap[e.b]?=some (e.T.FZ e.cs)
 pT:∀e∈L,¬aD e.b
 nT:∀b,aD b->b<w.heap.size
 nH:∀r∈R,p2 w aD r
structure sH where
 fZ:World
 Vl:Nat->Prop
 aDf:Nat->Prop
structure aSR(c:sH)(w:World):Prop where
 os:w.os=c.fZ.os
 tape:w.tape=c.fZ.tape
 output:w.output=c.fZ.output
 size:c.fZ.heap.size<=w.heap.size
 block:∀b,b<c.fZ.heap.size->¬c.Vl b->w.heap[b]?=c.fZ.heap[b]?
structure c5(c:sH)(L:List bQ)(R:List eT)(w:World):Prop where
 aD:∃aD,Holds L aD R w/\∀b,aD b->c.aDf b\/c.fZ.heap.size<=b\/c.Vl b
 own:∀e∈L,c.Vl e.b\/c.fZ.heap.size<=e.b
 HK:aSR c w
def wU(L:List bQ)(b:Nat):Prop:=∃e∈L,e.b=b
def c5.M4{L:List bQ}{aD:Nat->Prop}{R:List eT}{w:World}(h:Holds L aD R w):c5 ⟨w,wU L,aD⟩ L R w:=
 ⟨⟨aD,h,λ_ aT=>.inl aT⟩,λe V=>.inl ⟨e,V,rfl⟩,⟨rfl,rfl,rfl,gS _,λ_ _ _=>rfl⟩⟩
def Holds.lt{L aD R w}(h:Holds L aD R w){e:bQ}(V:e∈L):e.b<w.heap.size:=by
 have:=h.own e V;rcases gX e.b w.heap.size with cD|cD;·exact cD
 ·simp[NL cD]at this
def c5.trans{c:sH}{L E:List bQ}{R R':List eT}{aD:Nat->Prop}{w w':World}(h:c5 c L R w)
 (mH:∀b,aD b->c.aDf b\/c.fZ.heap.size<=b\/c.Vl b) (k:c5 ⟨w,wU L,aD⟩ E R' w'):c5 c E R' w':=by
 obtain⟨⟨EH,bF,bE⟩,cM,Y⟩:=k;have inl:∀b,wU L b->c.Vl b\/c.fZ.heap.size<=b:=λb ⟨e,V,aT⟩=>aT▸h.own e V;have xW:=h.HK.size;refine⟨⟨EH,bF,λb aT=>?_⟩,λe V=>?_,⟨Y.os.trans h.HK.os,Y.tape.trans h.HK.tape,Y.output.trans h.HK.output,HU xW Y.size,λb aT bA=>?_⟩⟩;·
  rcases bE b aT with G|G|G;·exact mH b G
  ·exact .inr (.inl (HU xW G))
  ·
   rcases inl b G with U|U;·exact .inr (.inr U)
   ·exact .inr (.inl U)
 ·
  rcases cM e V with G|G;·exact inl _ G
  ·exact .inr (HU xW G)
 ·
  rw[Y.block b (Gr aT xW) (λaB=> ?_),h.HK.block b aT bA];rcases inl b aB with U|U;·exact bA U
  ·exact absurd U (Nat.not_le.2 aT)
def c5.rU{c:sH}{L E:List bQ}{R R':List eT}{w:World}(h:c5 c L R w)(b3:E.Sublist L)(b8:∀r∈R',aN r R):c5 c E R' w:=by obtain⟨⟨aD,bF,bE⟩,cM,Y⟩:=h;refine⟨⟨aD,⟨bF.lC.sublist (b3.map _),λe V=>bF.own e (b3.subset V),λe V=>bF.pT e (b3.subset V),bF.nT,λr O=>?_⟩,bE⟩,λe V=>cM e (b3.subset V),Y⟩;obtain⟨iT,xV,aF⟩:=b8 r O;exact(bF.nH iT xV).sub aF
def iL(t:Nat->Value):Operand->Value
 | .tmp k=>t k
 | .const v=>v
 | .global g=>.pointer (some ⟨g,0,none⟩)
 | .func f=>.func (.func f) #[] #[]
def QP{k d:Nat}(h:¬k=d):Nat.beq k d=false:=by
 cases aT:Nat.beq k d with
 |false=>rfl
 |true=>exact absurd (aB8 aT) h
def kD(t:Nat->Value)(d:Nat)(v:Value):Nat->Value:=λk=>bif Nat.beq k d then v else t k
def w9(t:Nat->Value)(d:Option Tmp)(v:Value):Nat->Value:=
 match d with
 |some d=>kD t d v
 |none=>t
def SF(n:Nat)(d:Option Tmp):Bool:=
 match d with
 |some d=>Nat.blt d n
 |none=>true
structure mD(n:Nat)(t:Nat->Value)(a:Act):Prop where
 defers:a.defers=[]
 size:a.tmps.size=n
 val:∀k,a.tmps.getD k undef=t k
def mD.eval{n t a}(h:mD n t a):a.eval=iL t:=by
 funext x;cases x with
 |tmp k=>exact h.val k
 |_=>rfl
def mD.put{n t a}(h:mD n t a){d:Option Tmp}(a7:SF n d=true)(v:Value):mD n (w9 t d v) (a.put d v):=by
 cases d with
 |none=>exact h
 |some d=>
  have jT:d<n:=by simpa[SF]using a7
  refine⟨h.defers,by simp[Act.put,h.size],λk=>?_⟩;have cS:=h.val k;simp only[Act.put,w9,kD];by_cases Y:k=d;·subst Y;(have:k<a.tmps.size:=by rw[h.size];exact jT);simp[this]
  ·have:Nat.beq k d=false:=QP Y;rw[this,cond_false,<-cS];simp[Wl (XT Y)]
def Hn(all:Array Oper)(t:Nat->Value)(j:Nat):Option Bool:=
 match(all[j]?).bind (·.dst)with
 |some d=>match t d with
  | .bool b=>some b
  |_=>none
 |none=>none
def n9(all:Array Oper)(t:Nat->Value)(g:Option (Nat×Bool)):Bool:=
 match g with
 |none=>true
 |some (j,oG)=>Hn all t j==some oG
def mD.wanted{n t a}(h:mD n t a)(all:Array Oper)(o:Oper):Region.wanted o (yielded all a.tmps)=n9 all t o.guard:=by
 unfold Region.wanted n9;cases bE:o.guard with
 |none=>rfl
 |some p=>
  obtain⟨j,oG⟩:=p;have:yielded all a.tmps j=Hn all t j:=by
   unfold yielded Hn;cases a7:(all[j]?).bind (·.dst)with
   |none=>rfl
   |some d=>
    have cS:=h.val d;simp only[Ax];rcases gX d a.tmps.size with cD|cD;·(have e:a.tmps[d]? =some (t d):=by rw[<-cS];simp[cD]);rw[e];cases t d<;>rfl
    ·have e:a.tmps[d]? =none:=NL cD;(have eH:t d=undef:=by rw[<-cS];simp[e]);rw[e,eH];rfl
  simp only[this]
abbrev fR:=Exit->(Nat->Value)->List bQ->List eT->Prop
def aTj:Exit->Prop
 | .panic _=>False
 |_=>True
def EN(n:Nat)(c:sH)(fH:fR):Exit->Act->World->Prop:=
 λe a w=>aTj e/\∃t L R,fH e t L R/\mD n t a/\c5 c L R w
def cO(P:Program)(n:Nat)(code:Code)(t:Nat->Value)(L:List bQ)(R:List eT)(Q:fR):Prop:=
 ∀c a w,mD n t a->c5 c L R w->code.wp P (EN n c Q) a w
def dG(P:Program)(n:Nat)(all:Array Oper)(ops:List Oper)(t:Nat->Value)(L:List bQ)(R:List eT)(Q:fR):Prop:=
 ∀c a w,mD n t a->c5 c L R w->wpList P all (EN n c Q) ops a w
abbrev n8:=Value->List bQ->List eT->Prop
def aM(P:Program)(f:FuncId)(args:Array Value)(L:List bQ)(R:List eT)(Post:n8):Prop:=
 (∀(xs:Array Value) (w:World),(callFunc f xs).run P w=.ok (.enter f xs) w)/\
 ∀(w:World) (aD:Nat->Prop),Holds L aD R w->Calls P f args w λe w'=>∃v E R',e=.returned v/\Post v E R'/\c5 ⟨w,wU L,aD⟩ E R' w'
def aM.mono{P f args L R}{Post tC:n8}(h:aM P f args L R Post)(k:∀v E R',Post v E R'->tC v E R'):aM P f args L R tC:=
 ⟨h.1,λw aD bF=>(h.2 w aD bF).mono λ_ _ ⟨v,E,R',e,p,s⟩=>⟨v,E,R',e,k _ _ _ p,s⟩⟩
def dR(P:Program)(op:Oper)(aV:Operand->Value)(L:List bQ)(R:List eT)(Post:n8):Prop:=
 ∀(c:sH) (w:World),c5 c L R w->∀(a:Act) (next:Act->World->Prop) (Q:Exit->Act->World->Prop),
  (∀v E R' w',Post v E R'->c5 c E R' w'->next (a.put op.dst v) w')->op.upon P a next Q ((execOp aV op).run P w)
def cI(P:Program)(op:Oper)(aV:Operand->Value)(L:List bQ)(R:List eT)(v:Value):Prop:=
 ∀(c:sH) (w:World),c5 c L R w->(execOp aV op).run P w=.ok (.value v) w
def cI.aKW{P op aV L R v}(h:cI P op aV L R v):dR P op aV L R (λMk E R'=>Mk=v/\E=L/\R'=R):=by exact aPs
def eS{P n all t L R}{Q:fR}(h:Q .normal t L R):dG P n all [] t L R Q:=
 λ_ _ _ aH aF=>⟨trivial,t,L,R,h,aH,aF⟩
def a1v{P n all o aC t L R}{Q:fR}{Post:n8}(bE:dR P o (iL t) L R Post)(cE:n9 all t o.guard=true)(a7:SF n o.dst=true)
 (h:∀v E R',Post v E R'->dG P n all aC (w9 t o.dst v) E R' Q):dG P n all (o::aC) t L R Q:=by intro c a w aH aF;unfold wpList;rw[aH.wanted,cE,if_pos rfl];refine .inl ?_;unfold Oper.wp;rw[aH.eval];exact bE c w aF a _ _ λv E R' w' aG qO=>h v E R' aG c _ w' (aH.put a7 v) qO
def aEZ{P n all o aC t L R}{Q:fR}{v:Value}(cS:cI P o (iL t) L R v)(cE:n9 all t o.guard=true)(a7:SF n o.dst=true)
 (h:dG P n all aC (w9 t o.dst v) L R Q):dG P n all (o::aC) t L R Q:=
 a1v cS.aKW cE a7 λ_ _ _ ⟨dH,eH,nS⟩=>by subst dH;subst eH;subst nS;exact h
def aTW{P n all o aC t L R}{Q:fR}(cE:n9 all t o.guard=false)(a7:SF n o.dst=true)
 (h:dG P n all aC (w9 t o.dst undef) L R Q):dG P n all (o::aC) t L R Q:=by intro c a w aH aF;unfold wpList;rw[aH.wanted,cE,if_neg eY];exact h c _ w (aH.put a7 _) aF
def Qx{P dst f xs n6 pos after guard ty aV L R args}{Post:n8}(bX:xs.map aV=args)(aA1:aV (.func f)= .func (.func f) #[] #[])
 (h:aM P f args L R Post):dR P ⟨dst,.call ⟨.value (.func f),xs,n6⟩,ty,pos,after,guard⟩ aV L R Post:=by
 intro x w aF a next Q k
 have WQ:(execOp aV ⟨dst,.call ⟨.value (.func f),xs,n6⟩,ty,pos,after,guard⟩).run P w=.ok (.enter f args) w:=by have G:=h.1 args w;simp only[execOp,resolve,bX,aA1,Deferred.ofValue];simpa[invoke]using G
 exact aOB
def dM{P n id ops t L R}{Q:fR}(h:dG P n ops.toArray ops t L R Q):cO P n (.region id ops.toArray false) t L R Q:=
 λc a w aH aF=>wp_region_lit (h c a w aH aF)
def fA(P:Program)(n:Nat)(y:Code)(Q:fR):fR
 | .normal,t,L,R=>cO P n y t L R Q
 |e,t,L,R=>Q e t L R
def cC{P n x y t L R}{Q:fR}(h:cO P n x t L R (fA P n y Q)):cO P n (.seq x y) t L R Q:=by
 intro c a w aH aF;refine wp_seq (wp_mono (h c a w aH aF) ?_);rintro e a w ⟨n2,t',E,R',bZ,uS,qO⟩;cases e with
 |normal=>exact bZ c a w uS qO
 |_=>exact⟨n2,t',E,R',bZ,uS,qO⟩
def bY{P n y t L R}{Q:fR}(h:cO P n y t L R Q):fA P n y Q .normal t L R:=h
def i7{P n y t L R}{Q:fR}(h:Q .ret t L R):fA P n y Q .ret t L R:=h
def oX{P n y id t L R}{Q:fR}(h:Q (.exit id) t L R):fA P n y Q (.exit id) t L R:=h
def gG{P n t L R}{Q:fR}(h:Q .normal t L R):cO P n .skip t L R Q:=
 λ_ _ _ aH aF=>wp_skip ⟨trivial,t,L,R,h,aH,aF⟩
def mE{P n t L R}{Q:fR}(h:Q .ret t L R):cO P n .ret t L R Q:=
 λ_ _ _ aH aF=>wp_ret ⟨trivial,t,L,R,h,aH,aF⟩
def oZ{P n id t L R}{Q:fR}(h:Q (.exit id) t L R):cO P n (.exit id) t L R Q:=
 λ_ _ _ aH aF=>wp_exit ⟨trivial,t,L,R,h,aH,aF⟩
def a6t{P n x A B t L R}{Q:fR}{b:Bool}(bU:iL t x=.bool b)(gJ:b=true->cO P n A t L R Q)(aH:b=false->cO P n B t L R Q):
 cO P n (.cond x A B) t L R Q:=
 λc a w lB aF=>wp_cond_split (by rw[lB.eval];exact bU) (λe=>gJ e c a w lB aF) (λe=>aH e c a w lB aF)
def yX{P n x A B t L R}{Q:fR}(bU:iL t x=.bool true)(gJ:cO P n A t L R Q):cO P n (.cond x A B) t L R Q:=
 a6t bU (λ_=>gJ) (λe=>by cases e)
def CT{P n x A B t L R}{Q:fR}(bU:iL t x=.bool false)(aH:cO P n B t L R Q):cO P n (.cond x A B) t L R Q:=
 a6t bU (λe=>by cases e) (λ_=>aH)
def e2(id:Nat)(Q:fR):fR
 | .exit k,t,L,R=>bif Nat.beq k id then Q .normal t L R else Q (.exit k) t L R
 |e,t,L,R=>Q e t L R
def iH{P n id x t L R}{Q:fR}(h:cO P n x t L R (e2 id Q)):cO P n (.block id x) t L R Q:=by
 intro c a w aH aF;refine wp_block (wp_mono (h c a w aH aF) ?_);rintro e a w ⟨n2,t',E,R',bZ,uS,qO⟩;cases e with
 |exit k=>
  simp only[Exit.inBlock];by_cases Y:k=id;·subst Y;(have:Nat.beq k k=true:=by simp);simp only[e2,this,cond_true]at bZ;rw[if_pos rfl];exact⟨trivial,t',E,R',bZ,uS,qO⟩
  ·have:Nat.beq k id=false:=QP Y;simp only[e2,this,cond_false]at bZ;rw[if_neg Y];exact⟨trivial,t',E,R',bZ,uS,qO⟩
 |_=>exact⟨n2,t',E,R',bZ,uS,qO⟩
def hG{id t L R}{Q:fR}(h:Q .normal t L R):e2 id Q .normal t L R:=h
def lO{id t L R}{Q:fR}(h:Q .ret t L R):e2 id Q .ret t L R:=h
def oW{id t L R}{Q:fR}(h:Q .normal t L R):e2 id Q (.exit id) t L R:=by
 have:Nat.beq id id=true:=by simp
 simp only[e2,this,cond_true];exact h
def aSL{id k t L R}{Q:fR}(Y:Nat.beq k id=false)(h:Q (.exit k) t L R):e2 id Q (.exit k) t L R:=by simp only[e2,Y,cond_false];exact h
def xA(k:Nat):List Nat->Bool
 |[]=>false
 |x::l=>bif Nat.beq k x then true else xA k l
def xO(ws:List Nat)(t c1:Nat->Value):Nat->Value:=λk=>bif xA k ws then c1 k else t k
def yT(t:Nat->Value):List (Nat×Value)->Nat->Value
 |[]=>t
 |(d,v)::l=>kD (yT t l) d v
def kH(ws:List Nat)(t t':Nat->Value):Prop:=∀k,xA k ws=false->t' k=t k
def kH.refl{ws t}:kH ws t t:=λ_ _=>rfl
def kH.kD{ws t t' d v}(a7:xA d ws=true)(h:kH ws t t'):kH ws t (kD t' d v):=λk Y=>by
 unfold Aw.kD
 cases aT:Nat.beq k d with
 |false=>exact h k Y
 |true=>
  have:k=d:=by simpa[Av]using aT
  subst this
  rw[a7]at Y
  cases Y
def kH.yT{ws t t' l}(a7:l.all (λp=>xA p.1 ws)=true)(h:kH ws t t'):kH ws t (yT t' l):=by
 induction l with
 |nil=>exact h
 |cons p l cA=>obtain⟨d,v⟩:=p;simp only[List.all_cons,lY]at a7;exact kH.kD a7.1 (cA a7.2)
def kH.xO{ws a3D t t' c1}(a7:a3D.all (λk=>xA k ws)=true)(h:kH ws t t'):kH ws t (xO a3D t' c1):=λk Y=>by
 unfold Aw.xO
 cases aT:xA k a3D with
 |false=>exact h k Y
 |true=>
  have:∀l:List Nat,l.all (λk=>xA k ws)=true->xA k l=true->xA k ws=true:=by
   intro l
   induction l with
   |nil=>intro _ h;cases h
   |cons x l cA=>
    intro bX a1
    simp only[List.all_cons,lY]at bX
    simp only[xA]at a1
    cases K:Nat.beq k x with
    |true=>
     have:k=x:=by simpa[Av]using K
     rw[this];exact bX.1
    |false=>rw[K]at a1;exact cA bX.2 a1
  rw[this a3D a7 aT]at Y
  cases Y
def BX(t:Nat->Value):List (Nat×Value)->Prop
 |[]=>True
 |(d,v)::l=>t d=v/\BX t l
def Jn{t:Nat->Value}: ∀{l:List (Nat×Value)},BX t l->yT t l=t
 |[],_=>rfl
 |(d,v)::l,h=>by
  funext k
  simp only[yT,Jn h.2,kD]
  cases aT:Nat.beq k d with
  |false=>rfl
  |true=>
   have:k=d:=by simpa[Av]using aT
   rw[cond_true,this];exact h.1.symm
structure e0(lH:Type) where
 rT:lH->List (Nat×Value)
 L:lH->List bQ
 R:lH->List eT
 m:lH->Nat
def e5{lH:Type}(ws:List Nat)(t0:Nat->Value)(a7:e0 lH)(sA:Nat)(Q:fR):fR
 | .normal,t,L,R=>∃g,kH ws t0 t/\BX t (a7.rT g)/\(a7.L g).Sublist L/\(∀r∈a7.R g,aN r R)/\a7.m g<sA
 |e,t,L,R=>Q e t L R
def E1{lH ws t0 sA t L R}{a7:e0 lH}{Q:fR}(h:Q .ret t L R):e5 ws t0 a7 sA Q .ret t L R:=h
def AF{lH ws t0 sA id t L R}{a7:e0 lH}{Q:fR}(h:Q (.exit id) t L R):e5 ws t0 a7 sA Q (.exit id) t L R:=h
def Oi{ws:List Nat}{t0 t:Nat->Value}(h:kH ws t0 t):xO ws t0 t=t:=by
 funext k;unfold xO;cases aT:xA k ws with
 |true=>rfl
 |false=>exact(h k aT).symm
def oM{lH:Type}{P n body t L R}{Q:fR}(ws:List Nat)(a7:e0 lH)(cT:lH)(bV:BX t (a7.rT cT))(b3:(a7.L cT).Sublist L)(b8: ∀r∈a7.R cT,aN r R)
 (Fc:∀g c1,cO P n body (yT (xO ws t c1) (a7.rT g)) (a7.L g) (a7.R g) (e5 ws t a7 (a7.m g) Q)):cO P n (.loop body) t L R Q:=by
 intro c a w aH aF;let I:Act->World->Prop:=λa w=>∃g t',kH ws t t'/\BX t' (a7.rT g)/\mD n t' a/\c5 c (a7.L g) (a7.R g) w
 -- the measure is carried in the invariant: 'the least measure at which the state shows'
 have key:∀m,∀g t' a w,a7.m g=m->kH ws t t'->BX t' (a7.rT g)->mD n t' a->c5 c (a7.L g) (a7.R g) w->
  ∀b k cs,∃e eP w',EN n c Q e eP w'/\Arrives P (lone (b.at a (.code body:: .inLoop body::k)) cs w) b k cs e eP w':=by
  intro m;induction m using Nat.strongRecOn with
  |_ m cA=>
   intro g t' a w a1 cM KN lB cW b k cs;(have e:yT (xO ws t t') (a7.rT g)=t':=by rw[Oi cM,Jn KN]);obtain⟨ZH,Jq,Mo,⟨n2,Mi,Pc,Pe,bZ,Ks,Lm⟩,ZR⟩:=Fc g t' c a w (by rw[e];exact lB) cW b (.inLoop body::k) cs;cases ZH with
   |normal=>obtain⟨aKO,Ex,b4M,b1a,IL,jT⟩:=bZ;obtain⟨b0i,aZW,b6T,b4A,b1I⟩:=cA (a7.m aKO) (a1▸jT) aKO Mi Jq Mo rfl Ex b4M Ks (Lm.rU b1a IL) b k cs;exact⟨b0i,aZW,b6T,b4A,.of_steps (Steps.trans ZR (.one step_inLoop)) b1I⟩
   |exit id=>exact⟨_,Jq,Mo,⟨n2,Mi,Pc,Pe,bZ,Ks,Lm⟩,.pass (x:=.inLoop body) rfl (λ_ _=>.inl eY) ZR⟩
   |goto l=>exact⟨_,Jq,Mo,⟨n2,Mi,Pc,Pe,bZ,Ks,Lm⟩,.pass (x:=.inLoop body) rfl (λ_ _=>.inl eY) ZR⟩
   |ret=>exact⟨_,Jq,Mo,⟨n2,Mi,Pc,Pe,bZ,Ks,Lm⟩,.pass (x:=.inLoop body) rfl (λ_ _=>.inl eY) ZR⟩
   |panic Jt=>exact⟨_,Jq,Mo,⟨n2,Mi,Pc,Pe,bZ,Ks,Lm⟩,.pass (x:=.inLoop body) rfl (λ_ _=>.inl eY) ZR⟩
   |outgrown=>exact⟨_,Jq,Mo,⟨n2,Mi,Pc,Pe,bZ,Ks,Lm⟩,.pass (x:=.inLoop body) rfl (λ_ _=>.inl eY) ZR⟩
 intro b k cs;obtain⟨e,eP,w',bZ,ZR⟩:=key _ cT t a w rfl .refl bV aH (aF.rU b3 b8) b k cs;exact⟨e,eP,w',bZ,.of_steps (.one step_loop) ZR⟩
end Go.Aw
namespace Go.Aw
open Go
inductive H3 where
 |bAT|bool|struct|array (n e:Nat)|slice (e:Nat)|ptr (e:Nat)|int (k:IntKind)|string|sC
structure iD where
 k:H3
 sz:Nat
 fl:List (Nat×Nat)
 bt:Nat
 z:List Value
def BL(P:Program)(i:TypeInfo)(u:TypeDesc)(z:Value):iD:=
  { k:=match u with
      | .struct _=>.struct
      | .array n e=>.array n e
      | .slice e=>.slice e
      | .pointer e=>.ptr e
      | .int k=>.int k
      | .bool=>.bool
      | .string=>.string
      |_=>.sC
    sz:=i.size
    fl:=match u with
      | .struct q8=>q8.toList.map λf=>(f.offset,((P.info? f.type).map (·.size)).getD 0)
      |_=>[]
    bt:=i.bytes
    z:=z.cells.toList}
def FF(P:Program)(T:Nat):Option iD:=
 match P.info? T,P.underlying T with
 |some i,some u=>match i.zero with
  |some z=>some (BL P i u z)
  |none=>none
 |_,_=>none
def g5(gD:List (List (Option iD)))(T:Nat):Option iD:=((gD[T/16]?).bind (·[T%16]?)).join
structure nN(P:Program) where
 gD:List (List (Option iD))
 ok:∀T hZ,g5 gD T=some hZ->FF P T=some hZ
def a7l(P:Program)(gD:List (List (Option iD)))(c:Nat):List (Option iD):=
 (List.range 16).map λj=>match g5 gD (16*c+j)with
  |some _=>FF P (16*c+j)
  |none=>none
def aVy{P:Program}{gD:List (List (Option iD))}(h:gD=(List.range gD.length).map (a7l P gD)):∀T hZ,g5 gD T=some hZ->FF P T=some hZ:=by
 intro T hZ bE;have b2F:=bE;unfold g5 at bE;rw[h]at bE;rcases gX (T/16) gD.length with G|G;·rw[pW,P8 G]at bE;simp only[Ay,Ax,a7l]at bE;rw[pW,P8 (Nat.mod_lt _ D)]at bE;simp only[Ay,Option.join_some]at bE;rw[Nat.div_add_mod,b2F]at bE;exact bE
 ·rw[pW,u1 Xh]at bE;simp at bE
section b0k
variable{P:Program}{T:Nat}{hZ:iD}
def E0(h:FF P T=some hZ):∃i u z,P.info? T=some i/\P.underlying T=some u/\i.zero=some z/\hZ=BL P i u z:=by
 unfold FF at h;split at h;·
  rename_i i u aB cZ;split at h;·rename_i z dI;exact⟨i,u,z,aB,cZ,dI,(uA h).symm⟩
  ·cases h
 ·cases h
def run_sizeOf(h:FF P T=some hZ)(w:World):(sizeOf T).run P w=.ok hZ.sz w:=by obtain⟨i,u,z,aB,cZ,dI,rfl⟩:=E0 h;simp[sizeOf,typeInfo,aB,BL]
def Oh(h:FF P T=some hZ)(w:World):∃z:Value,(zeroValue T).run P w=.ok z w/\z.cells.toList=hZ.z:=by obtain⟨i,u,z,aB,cZ,dI,rfl⟩:=E0 h;exact⟨z,by simp[zeroValue,typeInfo,aB,dI],rfl⟩
def H3.isAgg:H3->Bool
 | .struct| .array _ _=>true
 |_=>false
def a5p(h:FF P T=some hZ)(w:World):(Go.isAgg T).run P w=.ok hZ.k.isAgg w:=by obtain⟨i,u,z,aB,cZ,dI,rfl⟩:=E0 h;cases u<;>simp[Go.isAgg,run_underlying cZ,BL,H3.isAgg]
def LL{e:Nat}(h:FF P T=some hZ)(Y:hZ.k=.slice e):P.underlying T=some (.slice e):=by obtain⟨i,u,z,aB,cZ,dI,rfl⟩:=E0 h;cases u<;>simp[BL]at Y;rw[cZ,Y]
def aEw{k:IntKind}(h:FF P T=some hZ)(Y:hZ.k=.int k):P.underlying T=some (.int k):=by obtain⟨i,u,z,aB,cZ,dI,rfl⟩:=E0 h;cases u<;>simp[BL]at Y;rw[cZ,Y]
def aXG(h:FF P T=some hZ)(Y:hZ.k=.bool):P.underlying T=some .bool:=by obtain⟨i,u,z,aB,cZ,dI,rfl⟩:=E0 h;cases u<;>simp[BL]at Y;rw[cZ]
def a75(h:FF P T=some hZ)(Y:hZ.k=.struct):
 ∃q8,P.underlying T=some (.struct q8)/\hZ.fl=q8.toList.map λf=>(f.offset,((P.info? f.type).map (·.size)).getD 0):=by obtain⟨i,u,z,aB,cZ,dI,rfl⟩:=E0 h;cases u<;>simp[BL]at Y;exact⟨_,cZ,rfl⟩
end b0k
inductive EI(e:bQ):List bQ->Prop
 |lK {L}:EI e (e::L)
 |cons {x L} (h:EI e L):EI e (x::L)
 |wJ {X L} (h:EI e L):EI e (X++L)
def EI.mem{e:bQ}{L:List bQ}(h:EI e L):e∈L:=by
 induction h with
 |lK=>simp
 |cons _ cA=>exact K6 _ cA
 |wJ _ cA=>exact kE _ cA
def Yh(a b:Int):(a==b)=decide (a=b):=by by_cases h:a=b<;>simp[h]
section b6y
variable{P:Program}{aV:Operand->Value}{L:List bQ}{R:List eT}{dst:Option Tmp}{ty:TypeId}{pos:String}{after:Array Edge}{guard:Option (Nat×Bool)}
def mN{x:Operand}{v:Value}(h:aV x=v):cI P ⟨dst,.move x,ty,pos,after,guard⟩ aV L R v:=λ_ _ _=>by simp[execOp,h]
def qG{x:Operand}{v:Value}(h:aV x=v):cI P ⟨dst,.assign x,ty,pos,after,guard⟩ aV L R v:=λ_ _ _=>by simp[execOp,h]
def aHP{c x y:Operand}{b:Bool}(h:aV c=.bool b):cI P ⟨dst,.pick c x y,ty,pos,after,guard⟩ aV L R (if b then aV x else aV y):=λ_ _ _=>by
 simp[execOp,h,asBool]
def aWs{c x y:Operand}{v:Value}(h:aV c=.bool true)(cS:aV x=v):cI P ⟨dst,.pick c x y,ty,pos,after,guard⟩ aV L R v:=λ_ _ _=>by
 simp[execOp,h,asBool,cS]
def aVE{c x y:Operand}{v:Value}(h:aV c=.bool false)(cS:aV y=v):cI P ⟨dst,.pick c x y,ty,pos,after,guard⟩ aV L R v:=λ_ _ _=>by
 simp[execOp,h,asBool,cS]
def Hu{n:Int}(G:-9223372036854775808<=n)(U:n<=9223372036854775807):IntKind.i64.wrap n=n:=by rw[IntKind.wrap_i64];omega
variable{T hN:TypeId}{x y:Operand}{k:IntKind}{a b:Int}
def a5Y(K:aV x=.int k a)(bB:aV y=.int k b):cI P ⟨dst,.binOp .add T x y hN,ty,pos,after,guard⟩ aV L R (.int k (k.wrap (a+b))):=λ_ _ _=>by
 simp[execOp,K,bB,eqGuard,binOp,Op.intArith]
def a6z(K:aV x=.int k a)(bB:aV y=.int k b):cI P ⟨dst,.binOp .sub T x y hN,ty,pos,after,guard⟩ aV L R (.int k (k.wrap (a-b))):=λ_ _ _=>by
 simp[execOp,K,bB,eqGuard,binOp,Op.intArith]
def a48(K:aV x=.int k a)(bB:aV y=.int k b):cI P ⟨dst,.binOp .mul T x y hN,ty,pos,after,guard⟩ aV L R (.int k (k.wrap (a*b))):=λ_ _ _=>by
 simp[execOp,K,bB,eqGuard,binOp,Op.intArith]
def aHe(K:aV x=.int .i64 a)(bB:aV y=.int .i64 b)(G:-9223372036854775808<=a+b)(U:a+b<=9223372036854775807):
 cI P ⟨dst,.binOp .add T x y hN,ty,pos,after,guard⟩ aV L R (.int .i64 (a+b)):=by have:=a5Y (P:=P) (L:=L) (R:=R) (dst:=dst) (ty:=ty) (pos:=pos) (after:=after) (guard:=guard) (T:=T) (hN:=hN) K bB;rwa[Hu G U]at this
def aJ1(K:aV x=.int .i64 a)(bB:aV y=.int .i64 b)(G:-9223372036854775808<=a-b)(U:a-b<=9223372036854775807):
 cI P ⟨dst,.binOp .sub T x y hN,ty,pos,after,guard⟩ aV L R (.int .i64 (a-b)):=by have:=a6z (P:=P) (L:=L) (R:=R) (dst:=dst) (ty:=ty) (pos:=pos) (after:=after) (guard:=guard) (T:=T) (hN:=hN) K bB;rwa[Hu G U]at this
def aRT(K:aV x=.int .i64 a)(bB:aV y=.int .i64 b)(G:-9223372036854775808<=a*b)(U:a*b<=9223372036854775807):
 cI P ⟨dst,.binOp .mul T x y hN,ty,pos,after,guard⟩ aV L R (.int .i64 (a*b)):=by have:=a48 (P:=P) (L:=L) (R:=R) (dst:=dst) (ty:=ty) (pos:=pos) (after:=after) (guard:=guard) (T:=T) (hN:=hN) K bB;rwa[Hu G U]at this
def a4T(K:aV x=.int k a)(bB:aV y=.int k b)(h:¬b=0):cI P ⟨dst,.binOp .quo T x y hN,ty,pos,after,guard⟩ aV L R (.int k (k.wrap (a.tdiv b))):=λ_ _ _=>by
 simp[execOp,K,bB,eqGuard,binOp,Op.intDiv,h]
def a7B(K:aV x=.int k a)(bB:aV y=.int k b)(h:¬b=0):cI P ⟨dst,.binOp .rem T x y hN,ty,pos,after,guard⟩ aV L R (.int k (a.tmod b)):=λ_ _ _=>by
 simp[execOp,K,bB,eqGuard,binOp,Op.intDiv,h]
def aS3(K:aV x=.int .i64 a)(bB:aV y=.int .i64 b)(h:¬b=0)(G:-9223372036854775808<=a.tdiv b)(U:a.tdiv b<=9223372036854775807):
 cI P ⟨dst,.binOp .quo T x y hN,ty,pos,after,guard⟩ aV L R (.int .i64 (a.tdiv b)):=by have:=a4T (P:=P) (L:=L) (R:=R) (dst:=dst) (ty:=ty) (pos:=pos) (after:=after) (guard:=guard) (T:=T) (hN:=hN) K bB h;rwa[Hu G U]at this
def aXI(K:aV x=.int k a)(bB:aV y=.int k b):cI P ⟨dst,.binOp .lss T x y hN,ty,pos,after,guard⟩ aV L R (.bool (decide (a<b))):=λ_ _ _=>by
 simp[execOp,K,bB,eqGuard,binOp,Op.intCmp]
def aGK(K:aV x=.int k a)(bB:aV y=.int k b):cI P ⟨dst,.binOp .leq T x y hN,ty,pos,after,guard⟩ aV L R (.bool (decide (a<=b))):=λ_ _ _=>by
 simp[execOp,K,bB,eqGuard,binOp,Op.intCmp]
def Qh(K:aV x=.int k a)(bB:aV y=.int k b):cI P ⟨dst,.binOp .gtr T x y hN,ty,pos,after,guard⟩ aV L R (.bool (decide (b<a))):=λ_ _ _=>by
 simp[execOp,K,bB,eqGuard,binOp,Op.intCmp]
def Iq(K:aV x=.int k a)(bB:aV y=.int k b):cI P ⟨dst,.binOp .geq T x y hN,ty,pos,after,guard⟩ aV L R (.bool (decide (b<=a))):=λ_ _ _=>by
 simp[execOp,K,bB,eqGuard,binOp,Op.intCmp]
def aTn(K:aV x=.int k a)(bB:aV y=.int k b):cI P ⟨dst,.binOp .eql T x y hN,ty,pos,after,guard⟩ aV L R (.bool (decide (a=b))):=λ_ _ _=>by
 simp[execOp,K,bB,eqGuard,binOp,Op.intCmp,Yh]
def aE8(K:aV x=.int k a)(bB:aV y=.int k b):cI P ⟨dst,.binOp .neq T x y hN,ty,pos,after,guard⟩ aV L R (.bool (decide (¬a=b))):=λ_ _ _=>by
 simp[execOp,K,bB,eqGuard,binOp,Op.intCmp,bne,Yh]
def Pp(K:aV x=.int .i64 a)(G:-9223372036854775807<=a)(U:a<=9223372036854775808):cI P ⟨dst,.unOp .neg T x,ty,pos,after,guard⟩ aV L R (.int .i64 (-a)):=λ_ _ _=>by
 have:IntKind.i64.wrap (0-a)= -a:=by rw[Hu D D];omega
 simp only[Int.zero_sub]at this
 simp[execOp,K,Op.unary,Op.intArith,this]
def UT{c:Bool}(K:aV x=.bool c):cI P ⟨dst,.unOp .not T x,ty,pos,after,guard⟩ aV L R (.bool (!c)):=λ_ _ _=>by
 simp[execOp,K,Op.unary]
variable(M:nN P)
def a55{k c3:IntKind}{oR gC h5 iQ fT eN nK z2}(G:g5 M.gD T=some ⟨.int c3,oR,h5,fT,nK⟩)(U:g5 M.gD hN=some ⟨.int k,gC,iQ,eN,z2⟩)(K:aV x=.int c3 a):
 cI P ⟨dst,.convert T hN x,ty,pos,after,guard⟩ aV L R (.int k (k.wrap a)):=λ_ w _=>by
 have b6O:=aEw (M.ok _ _ G) rfl
 have b6P:=aEw (M.ok _ _ U) rfl
 simp[execOp,K,convert,run_underlying b6O,run_underlying b6P,Conv.intToInt]
def aTD{c3:IntKind}{oR gC h5 iQ fT eN nK z2}(G:g5 M.gD T=some ⟨.int c3,oR,h5,fT,nK⟩)(U:g5 M.gD hN=some ⟨.int .i64,gC,iQ,eN,z2⟩)(K:aV x= .int c3 a)
 (aO:-9223372036854775808<=a) (bW:a<=9223372036854775807):cI P ⟨dst,.convert T hN x,ty,pos,after,guard⟩ aV L R (.int .i64 a):=by have:=a55 (P:=P) (L:=L) (R:=R) (dst:=dst) (ty:=ty) (pos:=pos) (after:=after) (guard:=guard) M G U K;rwa[Hu aO bW]at this
def UH(b off n:Nat):(⟨b,off,none⟩:Addr).add n=⟨b,off+n,none⟩:=by unfold Addr.add;split<;>simp_all
def a5A{f off sz n b o:Nat}{fl:List (Nat×Nat)}{bt z}(dF:g5 M.gD T=some ⟨.struct,n,fl,bt,z⟩)(K:aV x=.pointer (some ⟨b,o,none⟩))(aH:fl[f]?=some (off,sz+1)):
 cI P ⟨dst,.fieldAddr T x f,ty,pos,after,guard⟩ aV L R (.pointer (some ⟨b,o+off,none⟩)):=λ_ w _=>by
 obtain⟨q8,cZ,iF⟩:=a75 (M.ok _ _ dF) rfl
 simp only at iF
 subst iF
 rw[pW]at aH
 obtain⟨Kc,Kr,V⟩:=Option.map_eq_some_iff.1 aH
 obtain⟨G,U⟩:=Prod.mk.inj V
 have a2j:q8[f]?=some Kc:=by rw[<-Array.getElem?_toList];exact Kr
 have xW:∃i,P.info? Kc.type=some i/\i.size=sz+1:=by
  cases aB:P.info? Kc.type with
  |none=>rw[aB]at U;simp at U
  |some i=>rw[aB]at U;exact⟨i,rfl,by simpa using U⟩
 obtain⟨i,aB,aF⟩:=xW
 simp[execOp,K,Instr.fieldAt,run_underlying cZ,a2j,Instr.sureAddr,fieldPlace,sizeOf,typeInfo,aB,aF,UH,G]
def a5E{f off sz n aI i j:Nat}{gH:Option Addr}{fl:List (Nat×Nat)}{bt z}(dF:g5 M.gD T=some ⟨.struct,n,fl,bt,z⟩)(K:aV x=.pointer (some ⟨xJ gH,n0 gH aI i j,none⟩))(aH:fl[f]?=some (off,sz+1)):
 cI P ⟨dst,.fieldAddr T x f,ty,pos,after,guard⟩ aV L R (.pointer (some ⟨xJ gH,n0 gH aI i (j+off),none⟩)):=by
 have:=a5A (P:=P) (L:=L) (R:=R) (dst:=dst) (ty:=ty) (pos:=pos) (after:=after) (guard:=guard) M dF K aH;have e:n0 gH aI i j+off=n0 gH aI i (j+off):=by simp[n0,a36]
 rwa[e]at this
def jF{e n gC bt z mX z2 eK}{fl pJ:List (Nat×Nat)}{len cap i:Nat}{b o:Nat}(dF:g5 M.gD T=some ⟨.slice e,n,fl,bt,z⟩)(c6:g5 M.gD e=some ⟨eK,gC,pJ,mX,z2⟩)
 (K:aV x=.slice (some ⟨b,o,none⟩) len cap) (bB:aV y=.int k a) (aB:a=(i:Int)) (jT:i<len):
 cI P ⟨dst,.indexAddr T x y,ty,pos,after,guard⟩ aV L R (.pointer (some ⟨xJ (some ⟨b,o,none⟩),n0 (some ⟨b,o,none⟩) gC i 0,none⟩)):=λ_ w _=>by
 have cZ:=LL (M.ok _ _ dF) rfl
 have aF:=run_sizeOf (M.ok _ _ c6)
 simp only at aF
 subst aB
 simp[execOp,K,bB,Instr.indexAt,asIntOf,run_underlying cZ,aF,jT,UH,xJ,n0,Jo]
def j9{e n gC bt z mX z2 eK}{fl pJ:List (Nat×Nat)}{len cap i:Nat}{gH:Option Addr}{rows:List (List Value)}{eE:List eT}(dF:g5 M.gD T=some ⟨.slice e,n,fl,bt,z⟩)(c6:g5 M.gD e=some ⟨eK,gC,pJ,mX,z2⟩)
 (K:aV x=.slice gH len cap) (bB:aV y=.int k a) (b8:aN (.mk gC gH len cap rows eE) R) (aB:a=(i:Int)) (jT:i<len):
 cI P ⟨dst,.indexAddr T x y,ty,pos,after,guard⟩ aV L R (.pointer (some ⟨xJ gH,n0 gH gC i 0,none⟩)):=λc w cW=>by
 obtain⟨⟨aD,bF,bE⟩,cM,Y⟩:=cW
 obtain⟨r,O,mA⟩:=b8
 have HF:=(bF.nH r O).sub mA
 cases HF with
 |mk aZ bU a1 cE vR aF=>
  rcases vR with bV|⟨b,off,bX,_,_⟩
  ·subst bV;simp only[v1]at aZ;omega
  ·subst bX
   exact jF M dF c6 K bB aB jT c w ⟨⟨aD,bF,bE⟩,cM,Y⟩
def T6{c:sH}{w:World}(h:c5 c L R w){b:Nat}{cs:List Value}{T:TypeId}(V:(⟨b,cs,T⟩:bQ)∈L)(o:Nat):w.cell? ⟨b,o,none⟩=cs[o]?:=by obtain⟨⟨aD,bF,bE⟩,cM,Y⟩:=h;have:=bF.own _ V;simp[World.cell?,QI.FZ]at this|-;rw[this];simp
def a7M{w:World}{T:TypeId}{hZ:iD}(h:FF P T=some hZ)(Y:hZ.k.isAgg=false){b o:Nat}{v:Value}(bU:w.cell? ⟨b,o,none⟩=some v):
 (loadVar T ⟨b,o,none⟩).run P w=.ok v w:=by simp[loadVar,a5p h,Y,load,Sem.run,bU]
def a0c{w:World}{T:TypeId}{hZ:iD}(h:FF P T=some hZ)(Y:hZ.k.isAgg=true){b o:Nat}{row:List Value}(bA:row.length=hZ.sz)
 (bU:∀j v,row[j]?=some v->w.cell? ⟨b,o+j,none⟩=some v):(loadVar T ⟨b,o,none⟩).run P w=.ok (.agg row.toArray) w:=by have aZ:=run_loadCells_list (P:=P) w ⟨b,o,none⟩ row (λj v a6=>by rw[UH];exact bU j v a6);simp[loadVar,a5p h,Y,run_sizeOf h,<-bA,aZ]
def JO{n b o:Nat}{fl bt z v}{gK:H3}{cs:List Value}{nY:TypeId}(K:aV x= .pointer (some ⟨b,o,none⟩))(dF:g5 M.gD T=some ⟨gK,n,fl,bt,z⟩)(Y:gK.isAgg=false)
 (jQ:EI ⟨b,cs,nY⟩ L) (cS:cs[o]?=some v):cI P ⟨dst,.load T x,ty,pos,after,guard⟩ aV L R v:=λc w cW=>by
 have:=a7M (P:=P) (w:=w) (M.ok _ _ dF) Y (b:=b) (o:=o) (v:=v) (by rw[T6 cW jQ.mem];exact cS)
 simp[execOp,K,Instr.loadAt,Instr.sureAddr,this]
def sub(cs:List Value)(o n:Nat):List Value:=(cs.drop o).take n
def v7{n b o:Nat}{fl bt z}{gK:H3}{cs row:List Value}{nY:TypeId}(K:aV x= .pointer (some ⟨b,o,none⟩))(dF:g5 M.gD T=some ⟨gK,n,fl,bt,z⟩)(Y:gK.isAgg=true)
 (jQ:EI ⟨b,cs,nY⟩ L) (cS:sub cs o n=row) (bA:row.length=n):cI P ⟨dst,.load T x,ty,pos,after,guard⟩ aV L R (.agg row.toArray):=λc w cW=>by
 have:=a0c (P:=P) (w:=w) (M.ok _ _ dF) Y (b:=b) (o:=o) (row:=row) bA (λj v a6=>by
  rw[T6 cW jQ.mem]
  rw[<-cS,sub,XV]at a6
  split at a6
  ·simpa using a6
  ·cases a6)
 simp[execOp,K,Instr.loadAt,Instr.sureAddr,this]
def a7J{c:sH}{w:World}(h:c5 c L R w){aI len cap i j:Nat}{gH:Option Addr}{rows:List (List Value)}{eE:List eT}(b8:aN (.mk aI gH len cap rows eE) R){row:List Value}(O:rows[i]?=some row){v:Value}(a6:row[j]?=some v):
 w.cell? ⟨xJ gH,n0 gH aI i j,none⟩=some v:=by
 obtain⟨⟨aD,bF,bE⟩,cM,Y⟩:=h;obtain⟨r,xV,mA⟩:=b8;have HF:=(bF.nH r xV).sub mA;cases HF with
 |mk aZ bU a1 cE vR aF=>
  have aB:i<rows.length:=(List.getElem?_eq_some_iff.1 O).1;rcases vR with bV|⟨b,off,bX,_,DC⟩;·subst bV;simp at aB
  ·subst bX;(have b2N:j<aI:=by have G:=(List.getElem?_eq_some_iff.1 a6).1;have U:=cE row (hS O);omega);rw[show xJ (some ⟨b,off,none⟩)=b from rfl,show n0 (some ⟨b,off,none⟩) aI i j=off+i*aI+j from rfl,DC i j D b2N,O];exact a6
def aDy{aY:Type}{n aI len cap i j:Nat}{fl bt z v}{gK:H3}{gH:Option Addr}{f:aY->List Value}{l:List aY}{sE:aY}{eE:List eT}(K:aV x= .pointer (some ⟨xJ gH,n0 gH aI i j,none⟩))(dF:g5 M.gD T=some ⟨gK,n,fl,bt,z⟩)(Y:gK.isAgg=false)
 (b8:aN (.mk aI gH len cap (l.map f) eE) R) (O:l[i]?=some sE) (a6:(f sE)[j]?=some v):cI P ⟨dst,.load T x,ty,pos,after,guard⟩ aV L R v:=λc w cW=>by
 have:=a7M (P:=P) (w:=w) (M.ok _ _ dF) Y (v:=v) (a7J cW b8 (row:=f sE) (by rw[pW,O];rfl) a6)
 simp[execOp,K,Instr.loadAt,Instr.sureAddr,this]
def QQ{aY:Type}{n aI len cap i j:Nat}{fl bt z}{gK:H3}{gH:Option Addr}{f:aY->List Value}{l:List aY}{sE:aY}{row:List Value}{eE:List eT}(K:aV x= .pointer (some ⟨xJ gH,n0 gH aI i j,none⟩))(dF:g5 M.gD T=some ⟨gK,n,fl,bt,z⟩)(Y:gK.isAgg=true)
 (b8:aN (.mk aI gH len cap (l.map f) eE) R) (O:l[i]?=some sE) (cS:sub (f sE) j n=row) (bA:row.length=n):cI P ⟨dst,.load T x,ty,pos,after,guard⟩ aV L R (.agg row.toArray):=λc w cW=>by
 have:=a0c (P:=P) (w:=w) (M.ok _ _ dF) Y (b:=xJ gH) (o:=n0 gH aI i j) (row:=row) bA (λaA3 v a6=>by
  rw[<-cS,sub,XV]at a6
  split at a6
  ·have:=a7J cW b8 (row:=f sE) (i:=i) (j:=j+aA3) (v:=v) (by rw[pW,O];rfl) (by simpa using a6)
   rw[<-this]
   simp[n0,a36]
  ·cases a6)
 simp[execOp,K,Instr.loadAt,Instr.sureAddr,this]
def aR4{n6:Array TypeId}{e n fl bt z}{gH:Option Addr}{len cap:Nat}(aAF:n6[0]?=some T)(dF:g5 M.gD T=some ⟨.slice e,n,fl,bt,z⟩)(K:aV x=.slice gH len cap):
 cI P ⟨dst,.call ⟨.builtin .len,#[x],n6⟩,ty,pos,after,guard⟩ aV L R (.int .i64 (len:Int)):=λ_ w _=>by
 have cZ:=LL (M.ok _ _ dF) rfl
 simp[execOp,resolve,invoke,builtin,Builtin.len_,aAF,K,run_underlying cZ,goInt]
def aSd{iZ:Addr}(K:aV x=.pointer (some iZ)):cI P ⟨dst,.nilCheck x,ty,pos,after,guard⟩ aV L R (.pointer (some iZ)):=λ_ w _=>by
 simp[execOp,K]
def Od{n6:Array TypeId}(K:aV x=.int k a)(bB:aV y=.int k b):cI P ⟨dst,.call ⟨.builtin .min,#[x,y],n6⟩,ty,pos,after,guard⟩ aV L R (.int k (min a b)):=λ_ w _=>by
 simp only[execOp,resolve,invoke,builtin,Builtin.min_,Wo,pV,XS,K,bB]
 have:(if b<a then b else a)=min a b:=by rw[Int.min_def];split<;>split<;>omega
 simp[Builtin.min2,this]
def aSe{n6:Array TypeId}(K:aV x=.int k a)(bB:aV y=.int k b):cI P ⟨dst,.call ⟨.builtin .max,#[x,y],n6⟩,ty,pos,after,guard⟩ aV L R (.int k (max a b)):=λ_ w _=>by
 simp only[execOp,resolve,invoke,builtin,Builtin.max_,Wo,pV,XS,K,bB]
 have:(if b>a then b else a)=max a b:=by rw[Int.max_def];split<;>split<;>omega
 simp[Builtin.max2,this]
def aT0{i:Nat}{vs:Array Value}{v:Value}(K:aV x=.tuple vs)(cS:vs[i]?=some v):cI P ⟨dst,.extract x i,ty,pos,after,guard⟩ aV L R v:=λ_ w _=>by
 simp[execOp,K,Instr.extract,cS]
end b6y
def aIh(args:List Value):Nat->Value:=λk=>args.getD k undef
def eQ(P:Program)(t:Nat->Value)(L:List bQ)(R:List eT)(r:ResultVar)(v:Value):Prop:=
 match r with
 | .tmp k=>t k=v
 | .cell k T=>∀c w,c5 c L R w->∃a,t k=.pointer (some a)/\(loadVar T a).run P w=.ok v w
def fB(P:Program)(fn:Func)(Post:n8):fR
 | .normal,t,L,R=>∃v E R',(∀c n a w,mD n t a->c5 c L R w->(results fn a.tmps).run P w=.ok v w)/\Post v E R'/\E.Sublist L/\∀r∈R',aN r R
 | .ret,t,L,R=>∃v E R',(∀c n a w,mD n t a->c5 c L R w->(results fn a.tmps).run P w=.ok v w)/\Post v E R'/\E.Sublist L/\∀r∈R',aN r R
 |_,_,_,_=>False
def cX{P:Program}{f:FuncId}{fn:Func}{code:Code}{args:List Value}{L:List bQ}{R:List eT}{Post:n8}(n:Nat)
 (Tj:∀(xs:Array Value) (w:World),(callFunc f xs).run P w=.ok (.enter f xs) w) (aH:P.funcs[f]?=some fn) (aT:fn.body=some code) (bA:fn.ntmps=n) (bX:Nat.ble args.length n=true)
 (h:cO P n code (aIh args) L R (fB P fn Post)):aM P f args.toArray L R Post:=by
 refine⟨Tj,λw aD bF=>?_⟩;have a9m:args.length<=n:=s6 bX;refine calls_of_wp aH aT (wp_mono (h ⟨w,wU L,aD⟩ _ w ⟨rfl,?_,λk=>?_⟩ (c5.M4 bF)) ?_);·simp[bA];omega
 ·
  simp only[aIh,bA];rcases gX k args.length with Y|Y;·simp[List.getD,Y,aBZ]
  ·
   rcases gX k n with j4|j4;·(have:k-args.length<n-args.length:=by omega);simp[List.getD,aBZ,Nat.not_lt.2 Y,this]
   ·(have: ¬k-args.length<n-args.length:=by omega);simp[List.getD,aBZ,Nat.not_lt.2 Y,this]
 ·
  rintro e a w' ⟨_,t,E,R',bZ,uS,qO⟩;have key:(∃v hA uD,(∀c n a w,mD n t a->c5 c E R' w->(results fn a.tmps).run P w=.ok v w)/\Post v hA uD/\hA.Sublist E/\∀r∈uD,aN r R')->
   a.defers=[]/\∃v,(results fn a.tmps).run P w'=.ok v w'/\∃aPt aGL aGO,Ending.returned v=.returned aPt/\Post aPt aGL aGO/\c5 ⟨w,wU L,aD⟩ aGL aGO w':=by
   rintro⟨v,hA,uD,O,aG,b3,b8⟩;exact⟨uS.defers,v,O _ _ a w' uS qO,v,hA,uD,rfl,aG,qO.rU b3 b8⟩
  cases e with
  |normal=>exact key bZ
  |ret=>exact key bZ
  |_=>exact bZ.elim
section
variable{P:Program}{fn:Func}{Post:n8}{t:Nat->Value}{L:List bQ}{R:List eT}
def a5q(tmps:Array Value):ResultVar->Sem Value
 | .tmp t=>pure (tmps.getD t undef)
 | .cell a t=>do loadVar t (<-asAddr (tmps.getD a undef))
def Qp(tmps:Array Value):results fn tmps=(do
 let vs <-fn.results.mapM (a5q tmps)
 pure (if h:vs.size=1 then vs[0]else .tuple vs)):=rfl
def QT{r:ResultVar}{v:Value}(h:eQ P t L R r v){c n a w}(aH:mD n t a)(aF:c5 c L R w):(a5q a.tmps r).run P w=.ok v w:=by
 cases r with
 |tmp k=>have e:t k=v:=h;rw[<-e,<-aH.val k];rfl
 |cell k T=>obtain⟨iZ,G,U⟩:=h c w aF;have aO:=aH.val k;rw[G]at aO;simp only[a5q,aO];simp[asAddr,U]
def qI{r:ResultVar}{v:Value}(O:fn.results=#[r])(h:eQ P t L R r v):∀c n a w,mD n t a->c5 c L R w->(results fn a.tmps).run P w=.ok v w:=by intro c n a w aH aF;have G:=QT h aH aF;rw[Qp,O];simp[G]
def tD{r s:ResultVar}{v u:Value}(O:fn.results=#[r,s])(h:eQ P t L R r v)(k:eQ P t L R s u):∀c n a w,mD n t a->c5 c L R w->(results fn a.tmps).run P w=.ok (.tuple #[v,u]) w:=by intro c n a w aH aF;have G:=QT h aH aF;have U:=QT k aH aF;rw[Qp,O];simp[G,U]
def Bs{r s q:ResultVar}{v u x:Value}(O:fn.results=#[r,s,q])(h:eQ P t L R r v)(k:eQ P t L R s u)(m:eQ P t L R q x):∀c n a w,mD n t a->c5 c L R w->(results fn a.tmps).run P w=.ok (.tuple #[v,u,x]) w:=by intro c n a w aH aF;have G:=QT h aH aF;have U:=QT k aH aF;have aO:=QT m aH aF;rw[Qp,O];simp[G,U,aO]
def EL{k:Nat}{v:Value}(h:t k=v):eQ P t L R (.tmp k) v:=h
def UB(M:nN P){k T n b o:Nat}{fl bt z}{gK:H3}{cs row:List Value}{nY:TypeId}(K:t k= .pointer (some ⟨b,o,none⟩))(dF:g5 M.gD T=some ⟨gK,n,fl,bt,z⟩)(Y:gK.isAgg=true)
 (jQ:EI ⟨b,cs,nY⟩ L) (cS:sub cs o n=row) (bA:row.length=n):eQ P t L R (.cell k T) (.agg row.toArray):=by
 intro c w cW;refine⟨_,K,a0c (M.ok _ _ dF) Y bA (λj v a6=>?_)⟩;rw[T6 cW jQ.mem];rw[<-cS,sub,XV]at a6;split at a6;·simpa using a6
 ·cases a6
def aU{r:eT}{R:List eT}(h:r∈R):aN r R:=⟨r,h,.lK⟩
def oV(R:List eT):∀r∈R,aN r R:=λ_ h=>aU h
def kN{v:Value}{E:List bQ}{R':List eT}(h:∀c n a w,mD n t a->c5 c L R w->(results fn a.tmps).run P w=.ok v w)(aG:Post v E R')(b3:E.Sublist L)(b8:∀r∈R',aN r R):fB P fn Post .ret t L R:=
 ⟨v,E,R',h,aG,b3,b8⟩
def ZC{v:Value}{E:List bQ}{R':List eT}(h:∀c n a w,mD n t a->c5 c L R w->(results fn a.tmps).run P w=.ok v w)(aG:Post v E R')(b3:E.Sublist L)(b8:∀r∈R',aN r R):fB P fn Post .normal t L R:=
 ⟨v,E,R',h,aG,b3,b8⟩
end
section
variable{P:Program}{n:Nat}{all:Array Oper}{op:Op}{ty:TypeId}{pos:String}{after:Array Edge}{aC:List Oper}{t:Nat->Value}{L:List bQ}{R:List eT}{Q:fR}{d:Tmp}{v:Value}
def aA(cS:cI P ⟨some d,op,ty,pos,after,none⟩ (iL t) L R v)(a7:Nat.blt d n=true)(h:dG P n all aC (kD t d v) L R Q):dG P n all (⟨some d,op,ty,pos,after,none⟩::aC) t L R Q:=
 aEZ cS rfl a7 h
def g2{Post:n8}(bE:dR P ⟨some d,op,ty,pos,after,none⟩ (iL t) L R Post)(a7:Nat.blt d n=true)(h:∀v E R',Post v E R'->dG P n all aC (kD t d v) E R' Q):dG P n all (⟨some d,op,ty,pos,after,none⟩::aC) t L R Q:=
 a1v bE rfl a7 h
def mO{Post:n8}(bE:dR P ⟨none,op,ty,pos,after,none⟩ (iL t) L R Post)(h:∀v E R',Post v E R'->dG P n all aC t E R' Q):dG P n all (⟨none,op,ty,pos,after,none⟩::aC) t L R Q:=
 a1v bE rfl rfl h
end
def QX(j:Nat)(oG:Bool)(l:List Oper):List Oper:=
 l.map λo=>match o.guard with
  |some (k,w)=>bif Nat.beq k j && (w==oG)then{o with guard:=none}else o
  |none=>o
def U9(all:Array Oper)(j:Nat)(oG:Bool)(b4:Nat):List Nat->List Oper->Bool
 |_,[]=>true
 |ds,o::l=>
  (match o.guard with
   |some (k,w)=>(Nat.beq k j && (w==oG))||(match(all[k]?).bind (·.dst)with
    |some d=>xA d ds
    |none=>false)
   |none=>false) &&
  (match o.dst with
   |some d=>!Nat.beq d b4 && U9 all j oG b4 (d::ds) l
   |none=>U9 all j oG b4 ds l)
def E2:List Oper->List Nat
 |[]=>[]
 |o::l=>match o.dst with
  |some d=>d::E2 l
  |none=>E2 l
def e9(ws:List Nat)(t:Nat->Value)(x:Operand)(v:Bool)(L:List bQ)(R:List eT):fR
 | .normal,t',E,R'=>iL t' x=.bool v/\E=L/\R'=R/\kH ws t t'
 |_,_,_,_=>False
def EZ{P:Program}{o:Oper}{aV:Operand->Value}{a:Act}{next:Act->World->Prop}{Q:Exit->Act->World->Prop}{w w':World}{v:Value}(h:(execOp aV o).run P w=.ok (.value v) w')(k:next (a.put o.dst v) w'):o.upon P a next Q ((execOp aV o).run P w):=by rw[h];exact k
def aEo{P:Program}{o:Oper}{aV:Operand->Value}{a:Act}{next:Act->World->Prop}{Q:Exit->Act->World->Prop}{w w':World}(h:(execOp aV o).run P w=.ok .skip w')(k:next (a.put o.dst undef) w'):o.upon P a next Q ((execOp aV o).run P w):=by rw[h];exact k
def c5.alloc{c:sH}{L:List bQ}{R:List eT}{w:World}(h:c5 c L R w)(cs:Array Value)(T:TypeId):c5 c (⟨w.heap.size,cs.toList,T⟩::L) R (w.alloc (.cells cs T)):=by
 obtain⟨⟨aD,bF,bE⟩,cM,Y⟩:=h;have lW:∀b,b<w.heap.size->(w.alloc (.cells cs T)).heap[b]?=w.heap[b]?:=λb aT=>by exact aBR
 refine⟨⟨aD,⟨?_,?_,?_,λb aT=>?_,λr O=>(bF.nH r O).mono (λ_ h=>h) (λb aT=>lW b (bF.nT b aT))⟩,bE⟩,?_,⟨Y.os,Y.tape,Y.output,?_,λb aT bA=>?_⟩⟩;·simp only[pV,P9];refine⟨λa1=>?_,bF.lC⟩;obtain⟨e,V,aT⟩:=List.mem_map.1 a1;have:=bF.lt V;omega
 ·
  intro e V;rcases List.mem_cons.1 V with rfl|V;·show(w.heap.push _)[w.heap.size]? =_;simp[QI.FZ]
  ·rw[lW _ (bF.lt V)];exact bF.own e V
 ·
  intro e V;rcases List.mem_cons.1 V with rfl|V;·exact λh=>absurd (bF.nT _ h) (Nat.lt_irrefl _)
  ·exact bF.pT e V
 ·have:=bF.nT b aT;simp;omega
 ·
  intro e V;rcases List.mem_cons.1 V with rfl|V;·exact .inr Y.size
  ·exact cM e V
 ·have:=Y.size;simp;omega
 ·rw[lW b (Gr aT Y.size)];exact Y.block b aT bA
def c5.drew{c:sH}{L:List bQ}{R:List eT}{w:World}(h:c5 c L R w):c5 c L R w.drew:=by obtain⟨⟨aD,bF,bE⟩,cM,Y⟩:=h;exact⟨⟨aD,⟨bF.lC,bF.own,bF.pT,bF.nT,λr O=>p2.mono (w:=w) (w':=w.drew) (aD:=aD) (λ_ h=>h) (λ_ _=>rfl) (bF.nH r O)⟩,bE⟩,cM,⟨Y.os,Y.tape,Y.output,Y.size,Y.block⟩⟩
inductive q0(b:Nat)(cs:List Value)(T:TypeId)(gM:List Value):List bQ->List bQ->Prop
 |lK {L}:q0 b cs T gM (⟨b,cs,T⟩::L) (⟨b,gM,T⟩::L)
 |cons {x L E} (h:q0 b cs T gM L E):q0 b cs T gM (x::L) (x::E)
 |wJ {X L E} (h:q0 b cs T gM L E):q0 b cs T gM (X++L) (X++E)
def q0.mem{b cs T gM L E}(h:q0 b cs T gM L E):(⟨b,cs,T⟩:bQ)∈L:=by
 induction h with
 |lK=>simp
 |cons _ cA=>exact K6 _ cA
 |wJ _ cA=>exact kE _ cA
def q0.nE{b cs T gM L E}(h:q0 b cs T gM L E):E.map (·.b)=L.map (·.b):=by
 induction h with
 |lK=>rfl
 |cons _ cA=>simp[cA]
 |wJ _ cA=>simp[cA]
def q0.hX{b cs T gM L E}(h:q0 b cs T gM L E):∀e∈E,e=⟨b,gM,T⟩\/e∈L:=by
 induction h with
 |lK=>intro e V;rcases List.mem_cons.1 V with h|h;exact .inl h;exact .inr (K6 _ h)
 |cons _ cA=>intro e V;rcases List.mem_cons.1 V with h|h;exact .inr (by rw[h];simp);exact(cA e h).imp id (K6 _)
 |wJ _ cA=>intro e V;rcases List.mem_append.1 V with h|h;exact .inr (oI _ h);exact(cA e h).imp id (kE _)
def c5.setRow{c:sH}{L E:List bQ}{R:List eT}{w:World}{b:Nat}{cs gM:List Value}{T:TypeId}(h:c5 c L R w)(cZ:q0 b cs T gM L E):c5 c E R (w.setRow b gM.toArray):=by
 obtain⟨⟨aD,bF,bE⟩,cM,Y⟩:=h;have aT:=bF.own _ cZ.mem;have aLE:=bF.pT _ cZ.mem;have b5Y:(E.map (·.b)).Nodup:=by rw[cZ.nE];exact bF.lC
 -- an entry of L' with the number b is the new one
 have same:∀e∈E,e.b=b->e=⟨b,gM,T⟩:=by
  have:∀{L E:List bQ},q0 b cs T gM L E->(L.map (·.b)).Nodup->∀e∈E,e.b=b->e=⟨b,gM,T⟩:=by
   intro L E cZ;induction cZ with
   |lK=>
    intro lC e V aT;rcases List.mem_cons.1 V with h|h;·exact h
    ·simp only[pV,P9]at lC;exact absurd (List.mem_map.2 ⟨e,h,aT⟩) lC.1
   |cons cZ cA=>
    intro lC e V aT;simp only[pV,P9]at lC;rcases List.mem_cons.1 V with h|h;·refine absurd (List.mem_map.2 ⟨_,cZ.mem, ?_⟩) lC.1;rw[<-h];exact aT.symm
    ·exact cA lC.2 e h aT
   |wJ cZ cA=>
    intro lC e V aT;rw[CO,Ms]at lC;rcases List.mem_append.1 V with h|h;·exact absurd aT (lC.2.2 e.b (List.mem_map.2 ⟨e,h,rfl⟩) b (List.mem_map.2 ⟨_,cZ.mem,rfl⟩))
    ·exact cA lC.2.1 e h aT
  exact this cZ bF.lC
 refine⟨⟨aD,⟨b5Y,λe V=>?_,λe V=>?_,λx K=>by simpa using bF.nT x K,λr O=>(bF.nH r O).mono (λ_ h=>h) (λx K=>setRow_other w b x _ (λe=>aLE (e▸K)))⟩,bE⟩,λe V=>?_,⟨Y.os,Y.tape,Y.output,by simpa using Y.size,λx K bA=>?_⟩⟩;·
  by_cases Eg:e.b=b;·rw[same e V Eg];exact setRow_heap w b _ _ T _ aT
  ·
   rw[setRow_other w b _ _ Eg];rcases cZ.hX e V with h|h;·exact absurd (by rw[h]) Eg
   ·exact bF.own e h
 ·
  rcases cZ.hX e V with h|h;·rw[h];exact aLE
  ·exact bF.pT e h
 ·
  rcases cZ.hX e V with h|h;·have:=cM _ cZ.mem;rw[h];exact this
  ·exact cM e h
 ·
  by_cases Ac:x=b;·
   subst Ac;rcases cM _ cZ.mem with h|h;·exact absurd h bA
   ·exact absurd h (Nat.not_le.2 K)
  ·rw[setRow_other w b x _ Ac];exact Y.block x K bA
section
variable{P:Program}{aV:Operand->Value}{L E:List bQ}{R:List eT}{dst:Option Tmp}{ty:TypeId}{pos:String}{after:Array Edge}{guard:Option (Nat×Bool)}(M:nN P){T:TypeId}{x y:Operand}
def aFA{k n fl bt z}(dF:g5 M.gD T=some ⟨k,n,fl,bt,z⟩):
 dR P ⟨dst,.alloc T,ty,pos,after,guard⟩ aV L R (λv E R'=>∃b,v=.pointer (some ⟨b,0,none⟩)/\E=⟨b,z,T⟩::L/\R'=R):=by
 intro c w aF a next Q gK
 obtain⟨l0,WW,DT⟩:=Oh (M.ok _ _ dF) w;simp only at DT;refine EZ (w':=w.alloc (.cells l0.cells T)) (v:=.pointer (some ⟨w.heap.size,0,none⟩)) ?_ (gK _ _ _ _ ⟨w.heap.size,rfl,rfl,rfl⟩ ?_);·simp[execOp,Instr.alloc,WW,newVar,newRow]
 ·rw[<-DT];exact aF.alloc _ _
def aUL{v:Value}(K:aV x=v)(G:v.oneCell'=true):
 dR P ⟨dst,.box T x,ty,pos,after,guard⟩ aV L R (λu E R'=>∃b,u=.pointer (some ⟨b,0,none⟩)/\E=⟨b,[v],T⟩::L/\R'=R):=by
 intro c w aF a next Q gK
 have bU:v.cells=#[v]:=by cases v<;>first|rfl|(simp[Value.oneCell']at G)
 refine EZ (w':=w.alloc (.cells #[v] T)) (v:=.pointer (some ⟨w.heap.size,0,none⟩)) ?_ (gK _ _ _ _ ⟨w.heap.size,rfl,rfl,rfl⟩ (aF.alloc _ _));simp[execOp,K,Instr.box,newVar,newRow,bU]
def aUX{row:List Value}(K:aV x=.agg row.toArray):
 dR P ⟨dst,.box T x,ty,pos,after,guard⟩ aV L R (λu E R'=>∃b,u=.pointer (some ⟨b,0,none⟩)/\E=⟨b,row,T⟩::L/\R'=R):=by
 intro c w aF a next Q gK
 refine EZ (w':=w.alloc (.cells row.toArray T)) (v:=.pointer (some ⟨w.heap.size,0,none⟩)) ?_ (gK _ _ _ _ ⟨w.heap.size,rfl,rfl,rfl⟩ (aF.alloc _ _));simp[execOp,K,Instr.box,newVar,newRow,Value.cells]
def a65{c:sH}{w:World}(aF:c5 c L R w){b o:Nat}{cs vs:List Value}{nY:TypeId}{hZ:iD}(dF:FF P T=some hZ)(bA:vs.length=hZ.sz)(cZ:q0 b cs nY (cs.take o++vs++cs.drop (o+vs.length)) L E)
 (o6:o+vs.length<=cs.length) (G:∀v∈vs,v.oneCell'=true) {val:Value} (cS:val.cells=vs.toArray):
 (storeVar T ⟨b,o,none⟩ val).run P w=.ok () (w.setRow b (cs.take o++vs++cs.drop (o+vs.length)).toArray):=by
 have aT:w.heap[b]?=some (.cells cs.toArray nY (0,0)):=by obtain⟨⟨aD,bF,_⟩,_,_⟩:=aF;exact bF.own _ cZ.mem
 have cW:=run_storeCells_at P b o nY vs 0 cs.toArray w aT (by simpa using o6) G;simp only[Nat.add_zero]at cW;simp only[storeVar,s5,run_sizeOf dF,rD,cS];simp[bA,cW]
def aJv{k n fl bt z b o}{cs vs gM:List Value}{nY:TypeId}(dF:g5 M.gD T=some ⟨k,n,fl,bt,z⟩)(K:aV x= .pointer (some ⟨b,o,none⟩))(bB:aV y= .agg vs.toArray)(bA:vs.length=n)
 (cZ:q0 b cs nY gM L E) (o6:Nat.ble (o+vs.length) cs.length=true) (nU:cs.take o++vs++cs.drop (o+vs.length)=gM) (G:vs.all (·.oneCell')=true):
 dR P ⟨none,.store T x y,ty,pos,after,guard⟩ aV L R (λ_ hA R'=>hA=E/\R'=R):=by
 intro c w aF a next Q gK
 subst nU;have:=a65 (P:=P) aF (M.ok _ _ dF) bA cZ (s6 o6) (List.all_eq_true.1 G) (val:=.agg vs.toArray) rfl;exact aON
def aEM(cs:List Value)(o:Nat)(v:Value)(h:o<cs.length):cs.take o++[v]++cs.drop (o+1)=cs.set o v:=by rw[List.set_eq_take_append_cons_drop,if_pos h];simp
def aJy{k n fl bt z b o}{cs gM:List Value}{v:Value}{nY:TypeId}(dF:g5 M.gD T=some ⟨k,n,fl,bt,z⟩)(K:aV x= .pointer (some ⟨b,o,none⟩))(bB:aV y=v)(bA:n=1)
 (cZ:q0 b cs nY gM L E) (o6:Nat.blt o cs.length=true) (nU:cs.set o v=gM) (G:v.oneCell'=true):
 dR P ⟨none,.store T x y,ty,pos,after,guard⟩ aV L R (λ_ hA R'=>hA=E/\R'=R):=by
 intro c w aF a next Q gK
 have jT:o<cs.length:=by simpa using o6
 subst nU;rw[<-aEM cs o v jT]at cZ;have bU:v.cells=#[v]:=by cases v<;>first|rfl|(simp[Value.oneCell']at G)
 have:=a65 (P:=P) (vs:=[v]) aF (M.ok _ _ dF) (by simp[bA]) cZ (by simpa using Nat.succ_le_of_lt jT) Xh bU;exact aON
def U7:List Value->Nat->List Value->List Value
 |cs,_,[]=>cs
 |cs,o,v::vs=>U7 (cs.set o v) (o+1) vs
def Nz(fl:List (Nat×Nat))(cs:List Value):List (Nat×List Value)->Option (List Value)
 |[]=>some cs
 |(i,vs)::aC=>match fl[i]? with
  |some (off,size)=>bif Nat.beq vs.length size && Nat.ble (off+vs.length) cs.length then Nz fl (U7 cs off vs) aC else none
  |none=>none
def a5w: ∀(vs:List Value) (off j:Nat) (cs:Array Value),(vs.zipIdx j).foldl (λcs (p:Value×Nat)=>cs.setIfInBounds (off+p.2) p.1) cs=(U7 cs.toList (off+j) vs).toArray
 |[],_,_,cs=>by simp[U7]
 |v::vs,off,j,cs=>by
  simp only[List.zipIdx_cons,Wc,U7]
  rw[a5w vs off (j+1)]
  simp[a36]
def aHY(fl:List (Nat×Nat))(wY:Nat->Option (Nat×Nat))(aG:∀i,wY i=fl[i]?):∀(parts:List (Nat×Value)) (cs:List Value) (c9:List Value),
 Nz fl cs (parts.map λp=>(p.1,p.2.cells.toList))=some c9->Instr.fill wY cs.toArray parts=some c9.toArray
 |[],cs,c9,h=>by simp only[XS,Nz,Mw]at h;simp[Instr.fill,h]
 |(i,v)::aC,cs,c9,h=>by
  simp only[pV,Nz]at h
  simp only[Instr.fill,aG]
  cases aH:fl[i]? with
  |none=>rw[aH]at h;cases h
  |some p=>
   obtain⟨off,size⟩:=p
   rw[aH]at h
   simp only at h
   cases aT:(Nat.beq v.cells.toList.length size && Nat.ble (off+v.cells.toList.length) cs.length)with
   |false=>rw[aT]at h;cases h
   |true=>
    rw[aT,cond_true]at h
    simp only[lY,Av,Nat.ble_eq,a4d]at aT
    have:=aHY fl wY aG aC _ c9 h
    simp only
    rw[if_neg (by simp[aT.1];omega)]
    have dI:v.cells.zipIdx.foldl (λcs (x:Value×Nat)=>cs.setIfInBounds (off+x.2) x.1) cs.toArray=(U7 cs off v.cells.toList).toArray:=by
     rw[<-Array.foldl_toList]
     have:=a5w v.cells.toList off 0 cs.toArray
     simpa using this
    rw[show(v.cells.zipIdx.foldl (λcs (c,j)=>cs.setIfInBounds (off+j) c) cs.toArray)=(U7 cs off v.cells.toList).toArray from dI]
    exact this
def So(aV:Operand->Value):List (Nat×Operand)->List (Nat×List Value)
 |[]=>[]
 |(i,x)::l=>(i,(aV x).cells.toList)::So aV l
def aFQ(aV:Operand->Value)(l:List (Nat×Operand)):So aV l=(l.map λp=>(p.1,aV p.2)).map λp=>(p.1,p.2.cells.toList):=by
 induction l with
 |nil=>rfl
 |cons p l cA=>obtain⟨i,x⟩:=p;simp[So,cA]
def aXj(w:World):∀(l:List Field),(∀f∈l,((P.info? f.type).map (·.size)).getD 0≠0)->
 (l.mapM λf=>(do pure (f.offset,<-sizeOf f.type):Sem (Nat×Nat))).run P w=.ok (l.map λf=>(f.offset,((P.info? f.type).map (·.size)).getD 0)) w:=by
 intro l;induction l with
 |nil=>intro _;simp
 |cons f l cA=>
  intro aZ;have G:=aZ f eY;cases a6:P.info? f.type with
  |none=>rw[a6]at G;simp at G
  |some j=>have b5v:=cA λg bE=>aZ g (by simp[bE]);(have aF:(sizeOf f.type).run P w=.ok j.size w:=by simp[sizeOf,typeInfo,a6]);rw[List.mapM_cons];simp only[s5,aF,rD,D8,b5v,pV,a6,Ay,aCf]
def l7{n fl bt z}{ps:List (Nat×Operand)}{hB:List (Nat×List Value)}{c9:List Value}(dF:g5 M.gD T=some ⟨.struct,n,fl,bt,z⟩)(aAX:fl.all (λp=>!Nat.beq p.2 0)=true)(bZ:So aV ps=hB)(aH:Nz fl z hB=some c9):
 cI P ⟨dst,.build T ps.toArray,ty,pos,after,guard⟩ aV L R (.agg c9.toArray):=λ_ w _=>by
 obtain⟨q8,cZ,iF⟩:=a75 (M.ok _ _ dF) rfl
 obtain⟨l0,WW,DT⟩:=Oh (M.ok _ _ dF) w
 simp only at iF DT
 subst bZ
 rw[aFQ]at aH
 have pS:∀f∈q8.toList,((P.info? f.type).map (·.size)).getD 0≠0:=by
  intro f a1 bV
  rw[iF,List.all_map,List.all_eq_true]at aAX
  have:=aAX f a1
  simp[bV]at this
 have dC:=aXj (P:=P) w q8.toList pS
 rw[<-iF]at dC
 have a9A:=aHY fl (λi=>fl.toArray[i]?) (λi=>by simp) (ps.map λp=>(p.1,aV p.2)) z c9 aH
 have b5s:l0.cells=z.toArray:=by rw[<-DT]
 have a9X:(ps.toArray.map λ(p:Nat×Operand)=>(p.1,aV p.2)).toList=ps.map λp=>(p.1,aV p.2):=by simp
 have FP:q8=q8.toList.toArray:=by simp
 have a1:(q8.mapM λf=>(do pure (f.offset,<-sizeOf f.type):Sem (Nat×Nat))).run P w=.ok fl.toArray w:=by
  rw[FP,List.mapM_toArray]
  simp only[Sem.run_map,dC,rD]
 have a9E:(Instr.build T (ps.toArray.map λ(p:Nat×Operand)=>(p.1,aV p.2))).run P w=.ok (.agg c9.toArray) w:=by
  unfold Instr.build
  simp only[s5,WW,rD,run_underlying cZ,a1,b5s,a9X]
  rw[a9A]
  simp
 show(execOp aV ⟨dst,.build T ps.toArray,ty,pos,after,guard⟩).run P w=_
 have e:execOp aV ⟨dst,.build T ps.toArray,ty,pos,after,guard⟩=(do pure (.value (<-Instr.build T (ps.toArray.map λ(p:Nat×Operand)=>(p.1,aV p.2))))):=rfl
 rw[e]
 simp only[s5,a9E,rD]
 rfl
end
section
variable{P:Program}{n:Nat}{all:Array Oper}{ty:TypeId}{pos:String}{after:Array Edge}{aC:List Oper}{t:Nat->Value}{L E:List bQ}{R:List eT}{Q:fR}{d:Tmp}(M:nN P){T:TypeId}{x y:Operand}
def dN{f:FuncId}{xs:List Operand}{n6:Array TypeId}{args:List Value}{Post:n8}(bX:xs.map (iL t)=args)(h:aM P f args.toArray L R Post)(a7:Nat.blt d n=true)
 (k:∀v E R',Post v E R'->dG P n all aC (kD t d v) E R' Q):dG P n all (⟨some d,.call ⟨.value (.func f),xs.toArray,n6⟩,ty,pos,after,none⟩::aC) t L R Q:=
 g2 (Qx a4e rfl h) a7 k
def aW7{k m fl bt z}(dF:g5 M.gD T=some ⟨k,m,fl,bt,z⟩)(a7:Nat.blt d n=true)
 (h:∀b,dG P n all aC (kD t d (.pointer (some ⟨b,0,none⟩))) (⟨b,z,T⟩::L) R Q):dG P n all (⟨some d,.alloc T,ty,pos,after,none⟩::aC) t L R Q:=
 g2 (aFA M dF) a7 λv E R' ⟨b,dH,eH,nS⟩=>by subst dH;subst eH;subst nS;exact h b
def a7p{v:Value}(K:iL t x=v)(G:v.oneCell'=true)(a7:Nat.blt d n=true)
 (h:∀b,dG P n all aC (kD t d (.pointer (some ⟨b,0,none⟩))) (⟨b,[v],T⟩::L) R Q):dG P n all (⟨some d,.box T x,ty,pos,after,none⟩::aC) t L R Q:=
 g2 (aUL K G) a7 λv E R' ⟨b,dH,eH,nS⟩=>by subst dH;subst eH;subst nS;exact h b
def aT7{row:List Value}(K:iL t x= .agg row.toArray)(a7:Nat.blt d n=true)
 (h:∀b,dG P n all aC (kD t d (.pointer (some ⟨b,0,none⟩))) (⟨b,row,T⟩::L) R Q):dG P n all (⟨some d,.box T x,ty,pos,after,none⟩::aC) t L R Q:=
 g2 (aUX K) a7 λv E R' ⟨b,dH,eH,nS⟩=>by subst dH;subst eH;subst nS;exact h b
def YG{k m fl bt z b o}{cs gM:List Value}{v:Value}{nY:TypeId}(dF:g5 M.gD T=some ⟨k,m,fl,bt,z⟩)(K:iL t x= .pointer (some ⟨b,o,none⟩))(bB:iL t y=v)(bA:m=1)
 (cZ:q0 b cs nY gM L E) (o6:Nat.blt o cs.length=true) (nU:cs.set o v=gM) (G:v.oneCell'=true)
 (h:dG P n all aC t E R Q):dG P n all (⟨none,.store T x y,ty,pos,after,none⟩::aC) t L R Q:=
 mO (aJy M dF K bB bA cZ o6 nU G) λ_ hA R' ⟨dH,eH⟩=>by subst dH;subst eH;exact h
def OR{k m fl bt z b o}{cs vs gM:List Value}{nY:TypeId}(dF:g5 M.gD T=some ⟨k,m,fl,bt,z⟩)(K:iL t x= .pointer (some ⟨b,o,none⟩))(bB:iL t y= .agg vs.toArray)(bA:vs.length=m)
 (cZ:q0 b cs nY gM L E) (o6:Nat.ble (o+vs.length) cs.length=true) (nU:cs.take o++vs++cs.drop (o+vs.length)=gM) (G:vs.all (·.oneCell')=true)
 (h:dG P n all aC t E R Q):dG P n all (⟨none,.store T x y,ty,pos,after,none⟩::aC) t L R Q:=
 mO (aJv M dF K bB bA cZ o6 nU G) λ_ hA R' ⟨dH,eH⟩=>by subst dH;subst eH;exact h
def aRZ{k m fl bt z b}{cs vs:List Value}{nY:TypeId}(dF:g5 M.gD T=some ⟨k,m,fl,bt,z⟩)(K:iL t x= .pointer (some ⟨b,0,none⟩))(bB:iL t y= .agg vs.toArray)(bA:vs.length=m)
 (cZ:q0 b cs nY vs L E) (o6:vs.length=cs.length) (G:vs.all (·.oneCell')=true)
 (h:dG P n all aC t E R Q):dG P n all (⟨none,.store T x y,ty,pos,after,none⟩::aC) t L R Q:=
 OR M dF K bB bA cZ (by simp[o6]) (by simp[o6]) G h
end
def Oper.wp_put{P:Program}{o:Oper}{a:Act}{w:World}{fH:Act->World->Prop}{Q:Exit->Act->World->Prop}(h:o.wp P a w fH Q):
 o.wp P a w (λeP w'=>fH eP w'/\∃v,eP.tmps=(a.put o.dst v).tmps) Q:=by
 unfold Oper.wp at*;generalize (execOp a.eval o).run P w=r at*;cases r with
 |ok x w'=>
  cases x<;>simp only[Oper.upon]at h|- <;>
   first
    |exact⟨h,_,rfl⟩
    |exact Calls.mono h (λe Wa V=>by cases e<;>first|exact⟨V,_,rfl⟩|exact V)
    |exact Rows.mono h (λ_ _ V=>⟨V,_,rfl⟩)
    |exact h
    |skip
  case defer d=>exact⟨h,undef,by cases o.dst<;>rfl⟩
 |halt x w'=>cases x<;>exact h
def a5v{P:Program}{all:Array Oper}{j:Nat}{oG:Bool}{b4:Nat}{Q x7:Exit->Act->World->Prop}{tail:List Oper}(a6:(all[j]?).bind (·.dst)=some b4)
 (G3:∀e a w,e≠.normal->Q e a w->x7 e a w) (dF:∀a w,Q .normal a w->wpList P all x7 tail a w):
 ∀(aD:List Oper) (ds:List Nat),U9 all j oG b4 ds aD=true->∀(a:Act) (w:World),a.tmps[b4]?=some (.bool oG)->
  wpList P all Q (QX j oG aD) a w->wpList P all x7 (aD++tail) a w
 |[],_,_,a,w,_,h=>dF a w h
 |o::aD,ds,bM,a,w,bU,h=>by
  simp only[U9,lY]at bM
  obtain⟨bE,zS⟩:=bM
  have b5l:yielded all a.tmps j=some oG:=by
   unfold yielded
   rw[a6]
   simp[bU]
  -- the stripped operation runs as the operation itself
  have a2R:∃o',QX j oG (o::aD)=o'::QX j oG aD/\o'.op=o.op/\o'.dst=o.dst/\o'.type=o.type/\Region.wanted o' (yielded all a.tmps)=Region.wanted o (yielded all a.tmps):=by
   cases ZY:o.guard with
   |none=>exact⟨o,by simp[QX,ZY],rfl,rfl,rfl,rfl⟩
   |some p=>
    obtain⟨k,yU⟩:=p
    cases aT:(Nat.beq k j && (yU==oG))with
    |false=>exact⟨o,by simp[QX,ZY,aT],rfl,rfl,rfl,rfl⟩
    |true=>
     simp only[lY,Av,beq_iff_eq]at aT
     refine⟨{o with guard:=none},by simp[QX,ZY,aT.1,aT.2],rfl,rfl,rfl,?_⟩
     simp[Region.wanted,ZY,aT.1,aT.2,b5l]
  obtain⟨o',dH,eH,nS,B3,O2⟩:=a2R
  rw[dH]at h
  have next:∀(eP:Act) (w':World) (v:Value),eP.tmps=(a.put o.dst v).tmps->wpList P all Q (QX j oG aD) eP w'->wpList P all x7 (aD++tail) eP w':=by
   intro eP w' v cS cD
   have ZS:eP.tmps[b4]?=some (.bool oG):=by
    rw[cS]
    cases a7:o.dst with
    |none=>exact bU
    |some d=>
     rw[a7]at zS
     simp only[lY,Gt]at zS
     have jC:d≠b4:=λe=>by rw[e]at zS;simp at zS
     simp only[Act.put]
     rw[Wl jC]
     exact bU
   cases a7:o.dst with
   |none=>rw[a7]at zS;exact a5v a6 G3 dF aD ds zS eP w' ZS cD
   |some d=>rw[a7]at zS;simp only[lY]at zS;exact a5v a6 G3 dF aD _ zS.2 eP w' ZS cD
  have SS:∀a:Act,execOp a.eval o'=execOp a.eval o:=by
   intro a
   obtain⟨qQ,b6k,b6l,op,b6h,b6i⟩:=o
   obtain⟨oC,bAN,vV,uX,KR,bAM⟩:=o'
   simp only at eH nS B3
   subst eH;subst nS;subst B3
   rfl
  simp only[mK]
  unfold wpList at h|-
  rw[O2]at h
  split
  ·rename_i cE
   rw[if_pos cE]at h
   rcases h with h|⟨h,U⟩
   ·refine .inl ?_
    have cD:=Oper.wp_put h
    unfold Oper.wp at cD|-
    rw[SS]at cD
    generalize (execOp a.eval o).run P w=r at*
    cases r with
    |ok x w'=>
     cases x<;>simp only[Oper.upon,nS]at cD|- <;>
      first
       |(obtain⟨G,v,cS⟩:=cD;exact next _ _ v cS G)
       |exact cD
       |skip
     case enter f args=>
      refine Calls.mono cD λe Wa V=>?_
      cases e with
      |returned u=>obtain⟨G,v,cS⟩:=V;exact next _ _ v cS G
      |panicked c=>exact G3 _ _ _ eY V
      |outgrown=>obtain⟨a0,fZ,V⟩:=V;exact⟨a0,fZ,G3 _ _ _ eY V⟩
     case row row args=>exact Rows.mono cD λu Wa V=>by obtain⟨G,v,cS⟩:=V;exact next _ _ v cS G
    |halt x w'=>
     cases x<;>simp only[Oper.upon]at cD|- <;>first|exact cD|exact G3 _ _ _ eY cD
   ·refine .inr ⟨?_, ?_⟩
    ·unfold Oper.asks at*
     rw[SS]at h
     exact h
    ·obtain⟨a0,fZ,V⟩:=U;exact⟨a0,fZ,G3 _ _ _ eY V⟩
  ·rename_i cE
   rw[if_neg cE,nS]at h
   exact next _ _ undef rfl h
def a6F{P:Program}{all:Array Oper}{j:Nat}{oG:Bool}{b4:Nat}{x7:Exit->Act->World->Prop}{tail:List Oper}(a6:(all[j]?).bind (·.dst)=some b4):
 ∀(aD:List Oper) (ds:List Nat),U9 all j oG b4 ds aD=true->∀(a:Act) (w:World),a.tmps[b4]?=some (.bool (!oG))->(∀d,xA d ds=true->a.tmps.getD d undef=undef)->
  (∀eP:Act,eP.defers=a.defers->eP.tmps.size=a.tmps.size->(∀d,xA d (E2 aD)=false->eP.tmps.getD d undef=a.tmps.getD d undef)->wpList P all x7 tail eP w)->wpList P all x7 (aD++tail) a w
 |[],_,_,a,w,_,_,h=>h a rfl rfl (λ_ _=>rfl)
 |o::aD,ds,bM,a,w,bU,p9,h=>by
  simp only[U9,lY]at bM
  obtain⟨bE,zS⟩:=bM
  have cE:Region.wanted o (yielded all a.tmps)=false:=by
   cases ZY:o.guard with
   |none=>rw[ZY]at bE;cases bE
   |some p=>
    obtain⟨k,yU⟩:=p
    rw[ZY]at bE
    simp only[Wd,lY,Av,beq_iff_eq]at bE
    unfold Region.wanted
    rw[ZY]
    rcases bE with⟨Y,Ab⟩|bE
    ·subst Y;subst Ab
     have:yielded all a.tmps k=some (!yU):=by unfold yielded;rw[a6];simp[bU]
     simp only[this]
     cases yU<;>rfl
    ·cases a7:(all[k]?).bind (·.dst)with
     |none=>rw[a7]at bE;cases bE
     |some d=>
      rw[a7]at bE
      have bV:=p9 d bE
      have:yielded all a.tmps k=none:=by
       unfold yielded
       rw[a7]
       simp only[Ax]
       rcases gX d a.tmps.size with cD|cD
       ·simp only[aCa,Array.getElem?_eq_getElem cD,aCf]at bV
        rw[Array.getElem?_eq_getElem cD,bV]
        rfl
       ·rw[NL cD]
      simp[this]
  simp only[mK]
  unfold wpList
  rw[cE,if_neg eY]
  cases a7:o.dst with
  |none=>
   rw[a7]at zS
   refine a6F a6 aD ds zS a w bU p9 ?_
   intro eP G U aO
   exact h eP G U (by simpa[E2,a7]using aO)
  |some d=>
   rw[a7]at zS
   simp only[lY,Gt]at zS
   have jC:d≠b4:=λe=>by have:=zS.1;rw[e]at this;simp at this
   refine a6F a6 aD (d::ds) zS.2 _ w ?_ ?_ ?_
   ·simp only[Act.put]
    rw[Wl jC]
    exact bU
   ·intro x K
    simp only[Act.put]
    by_cases Ad:x=d
    ·subst Ad
     rcases gX x a.tmps.size with cD|cD
     ·simp[cD]
     ·simp[cD]
    ·simp only[xA,QP Ad,cond_false]at K
     have:=p9 x K
     simp only[aCa]at this|-
     rw[Wl (XT Ad)]
     exact this
   ·intro eP G U aO
    refine h eP G (by rw[U];simp[Act.put]) (λx K=>?_)
    simp only[E2,a7,xA]at K
    have Ad:x≠d:=λe=>by rw[e]at K;simp at K
    rw[QP Ad,cond_false]at K
    rw[aO x K]
    simp only[Act.put,aCa]
    rw[Wl (XT Ad)]
section
variable{P:Program}{n:Nat}{all:Array Oper}{ty:TypeId}{pos:String}{after:Array Edge}{aC:List Oper}{t:Nat->Value}{L E:List bQ}{R:List eT}{Q:fR}{d:Tmp}{y:Operand}
def aE5{aD:List Oper}{j b4:Nat}{oG u v:Bool}{c:Bool}{HQ XN HR:Operand}(a6:(all[j]?).bind (·.dst)=some b4)(MT:Nat.blt b4 n=true)(bM:U9 all j oG b4 [] aD=true)(Ty:xA b4 (E2 aD)=false)
 (bU:t b4=.bool c) (a7:Nat.blt d n=true)
 (aMx:(if oG then HQ else XN)=HR/\(if oG then XN else HQ)=.const (.bool u))
 (h:c=oG->dG P n all (QX j oG aD) t L R (e9 (E2 aD) t HR v L R))
 (k:∀c1,dG P n all aC (kD (xO (E2 aD) t c1) d (.bool (if c=oG then v else u))) L R Q):
 dG P n all (aD++⟨some d,.pick (.tmp b4) HQ XN,ty,pos,after,none⟩::aC) t L R Q:=by
 intro Sh a w aH aF;have b17:b4<a.tmps.size:=by rw[aH.size];simpa using MT
 have aLL:a.tmps[b4]?=some (.bool c):=by have:=aH.val b4;rw[bU]at this;simpa[b17]using this
 have VR:∀(eP:Act) (w':World) (t':Nat->Value) (b:Bool),mD n t' eP->c5 Sh L R w'->kH (E2 aD) t t'->(if c then iL t' HQ else iL t' XN)=.bool b->b=(if c=oG then v else u)->
  wpList P all (EN n Sh Q) (⟨some d,.pick (.tmp b4) HQ XN,ty,pos,after,none⟩::aC) eP w':=by
  intro eP w' t' b uS qO cM aT e;have b14:iL t' (.tmp b4)=.bool c:=(cM b4 Ty).trans bU;have bB:cI P ⟨some d,.pick (.tmp b4) HQ XN,ty,pos,after,none⟩ (iL t') L R (.bool b):=by rw[<-aT];exact aHP b14
  refine aA bB a7 ?_ Sh eP w' uS qO;rw[e];have:=k t';rwa[Oi cM]at this
 by_cases Ko:c=oG;·
  subst Ko;refine a5v (Q:=EN n Sh (e9 (E2 aD) t HR v L R)) a6 (λe a w jC bZ=>?_) (λeP w' bZ=>?_) aD [] bM a w aLL (h rfl Sh a w aH aF);·obtain⟨_,t',E,R',bZ,_⟩:=bZ;cases e<;>first|exact bZ.elim|exact absurd rfl jC
  ·obtain⟨_,t',E,R',bZ,uS,qO⟩:=bZ;obtain⟨dH,eH,nS,B3⟩:=bZ;subst eH;subst nS;refine VR eP w' t' v uS qO B3 ?_ eY;rw[<-dH,<-aMx.1];cases c<;>rfl
 ·
  have b1X:a.tmps[b4]? =some (.bool (!oG)):=by rw[aLL];cases c<;>cases oG<;>simp_all
  refine a6F a6 aD [] bM a w b1X (λd a7=>by cases a7) (λeP G U aO=>?_);refine VR eP w (λk=>eP.tmps.getD k undef) u ⟨G.trans aH.defers,U.trans aH.size,λ_=>rfl⟩ aF (λk Y=>(aO k Y).trans (aH.val k)) ?_ (by rw[if_neg Ko]);have:(if oG then XN else HQ)=.const (.bool u):=aMx.2;cases c<;>cases oG<;>simp_all [iL]
def lR{aD:List Oper}{j b4:Nat}{v c:Bool}{HR:Operand}(a6:(all[j]?).bind (·.dst)=some b4)(MT:Nat.blt b4 n=true)(bM:U9 all j true b4 [] aD=true)(Ty:xA b4 (E2 aD)=false)
 (bU:t b4=.bool c) (a7:Nat.blt d n=true) (h:c=true->dG P n all (QX j true aD) t L R (e9 (E2 aD) t HR v L R))
 (k:∀c1,dG P n all aC (kD (xO (E2 aD) t c1) d (.bool (c && v))) L R Q):
 dG P n all (aD++⟨some d,.pick (.tmp b4) HR (.const (.bool false)),ty,pos,after,none⟩::aC) t L R Q:=
 aE5 (oG:=true) (u:=false) a6 MT bM Ty bU a7 ⟨rfl,rfl⟩ h (λc1=>by have:=k c1;cases c<;>exact this)
def dT{aD:List Oper}{j b4:Nat}{v c:Bool}{HR:Operand}(a6:(all[j]?).bind (·.dst)=some b4)(MT:Nat.blt b4 n=true)(bM:U9 all j false b4 [] aD=true)(Ty:xA b4 (E2 aD)=false)
 (bU:t b4=.bool c) (a7:Nat.blt d n=true) (h:c=false->dG P n all (QX j false aD) t L R (e9 (E2 aD) t HR v L R))
 (k:∀c1,dG P n all aC (kD (xO (E2 aD) t c1) d (.bool (c||v))) L R Q):
 dG P n all (aD++⟨some d,.pick (.tmp b4) (.const (.bool true)) HR,ty,pos,after,none⟩::aC) t L R Q:=
 aE5 (oG:=false) (u:=true) a6 MT bM Ty bU a7 ⟨rfl,rfl⟩ h (λc1=>by have:=k c1;cases c<;>exact this)
def aWT{ws:List Nat}{t0:Nat->Value}{HR:Operand}{v:Bool}(G:iL t HR=.bool v)(U:kH ws t0 t):e9 ws t0 HR v L R .normal t L R:=⟨G,rfl,rfl,U⟩
end
def c5.frame{F L E:List bQ}{R R':List eT}{aD:Nat->Prop}{w w':World}(h:Holds (F++L) aD R w)(k:c5 ⟨w,wU L,aD⟩ E R' w'):c5 ⟨w,wU (F++L),aD⟩ (F++E) R' w':=by
 obtain⟨⟨EH,bF,bE⟩,cM,Y⟩:=k;have xT:=h.lC;rw[CO,Ms]at xT;have a8j:∀e∈F,¬wU L e.b:=λe V ⟨r7,uR,aT⟩=>xT.2.2 e.b (List.mem_map.2 ⟨e,V,rfl⟩) r7.b (List.mem_map.2 ⟨r7,uR,rfl⟩) aT.symm;have a8m:∀e∈F,e.b<w.heap.size:=λe V=>h.lt (oI _ V);have b0j:∀e∈F,¬aD e.b:=λe V=>h.pT e (oI _ V);have b0r:∀e∈F,w'.heap[e.b]?=w.heap[e.b]?:=λe V=>Y.block e.b (a8m e V) (a8j e V);refine⟨⟨EH,⟨?_,λe V=>?_,λe V mH=>?_,bF.nT,bF.nH⟩,λb aT=>?_⟩,λe V=>?_,⟨Y.os,Y.tape,Y.output,Y.size,λb aT bA=>Y.block b aT (λaB=>bA ?_)⟩⟩;·
  rw[CO,Ms];refine⟨xT.1,bF.lC,λx K y bB Ae=>?_⟩;obtain⟨e,V,rfl⟩:=List.mem_map.1 K;obtain⟨r7,uR,rfl⟩:=List.mem_map.1 bB;rcases cM r7 uR with G|G;·rw[<-Ae]at G;exact a8j e V G
  ·rw[<-Ae]at G;exact absurd (a8m e V) (Nat.not_lt.2 G)
 ·
  rcases List.mem_append.1 V with V|V;·rw[b0r e V];exact h.own e (oI _ V)
  ·exact bF.own e V
 ·
  rcases List.mem_append.1 V with V|V;·
   rcases bE e.b mH with G|G|G;·exact b0j e V G
   ·exact absurd (a8m e V) (Nat.not_lt.2 G)
   ·exact a8j e V G
  ·exact bF.pT e V mH
 ·
  rcases bE b aT with G|G|⟨e,V,G⟩;·exact .inl G
  ·exact .inr (.inl G)
  ·exact .inr (.inr ⟨e,kE _ V,G⟩)
 ·
  rcases List.mem_append.1 V with V|V;·exact .inl ⟨e,oI _ V,rfl⟩
  ·
   rcases cM e V with⟨r7,uR,G⟩|G;·exact .inl ⟨r7,kE _ uR,G⟩
   ·exact .inr G
 ·obtain⟨e,V,G⟩:=aB;exact⟨e,kE _ V,G⟩
def dR.frame{P op aV L R}{Post:n8}(h:dR P op aV L R Post)(F:List bQ):dR P op aV (F++L) R (λv hA R'=>∃E,hA=F++E/\Post v E R'):=by
 intro c w aF a next Q k
 obtain⟨⟨aD,bF,bE⟩,cM,Y⟩:=aF;have b3:Holds L aD R w:=⟨(List.nodup_append.1 (by have:=bF.lC;rwa[CO]at this)).2.1,λe V=>bF.own e (kE _ V),λe V=>bF.pT e (kE _ V),bF.nT,bF.nH⟩;exact h ⟨w,wU L,aD⟩ w (c5.M4 b3) a next Q λv E R' w' aG cW=>k v _ R' w' ⟨E,rfl,aG⟩ (c5.trans ⟨⟨aD,bF,bE⟩,cM,Y⟩ bE (c5.frame bF cW))
def k1:Op->Nat
 | .alloc _=>1
 | .move _| .assign _| .pick .. | .build .. | .load .. | .nilCheck _| .binOp .. | .unOp .. | .convert .. | .slice .. | .fieldAddr .. | .field .. | .indexAddr .. | .index .. | .extract .. | .makeInterface ..=>0
 | .call c=>match c.callee with
  | .builtin .len| .builtin .cap| .builtin .min| .builtin .max=>0
  |_=>2
 |_=>2
def TU{P:Program}(M:nN P)(T:TypeId):List Value:=match g5 M.gD T with
 |some hZ=>hZ.z
 |none=>[]
def dP(P:Program)(M:nN P)(n:Nat)(all:Array Oper)(cQ:List bQ)(fH:fR):List Oper->(Nat->Value)->List bQ->List eT->Prop
 |[],t,L,R=>fH .normal t L R
 |o::aC,t,L,R=>SF n o.dst=true/\
  ((n9 all t o.guard=false/\k1 o.op≠1/\dP P M n all cQ fH aC (w9 t o.dst undef) L R)\/
   (n9 all t o.guard=true/\k1 o.op=0/\∃v,cI P o (iL t) cQ R v/\dP P M n all cQ fH aC (w9 t o.dst v) L R)\/
   (k1 o.op=1/\∃T,o.op=.alloc T/\∀b,dP P M n all cQ fH aC (w9 t o.dst (.pointer (some ⟨b,0,none⟩))) (⟨b,TU M T,T⟩::L) R)\/
   (n9 all t o.guard=true/\k1 o.op=2/\∃Post,dR P o (iL t) L R Post/\∀v E R',Post v E R'->cQ.Sublist E/\(∀r∈R,aN r R')/\dP P M n all cQ fH aC (w9 t o.dst v) E R'))
def tI(ops:Array Oper)(i:Nat):Nat:=match ops[i]? with
 |some o=>k1 o.op
 |none=>3
def Rq(ops:Array Oper)(p:Nat->Bool)(done:Array Bool):Array Bool:=
 (Array.range ops.size).map λi=>done.getD i true||(Nat.beq (tI ops i) 1 && p i)
def JT(ops:Array Oper)(done:Array Bool):List Nat->Bool
 |[]=>(Region.ready .any ops done).isEmpty
 |i::aC=>
  (Region.ready .any ops done).contains i &&
  (match tI ops i with
   |0=>Region.free .any ops done i
   |1=>(Region.ready .any ops (Rq ops (λk=>!Nat.beq k i) done)).all λj=>Nat.beq (tI ops j) 1
   |_=>(Region.ready .any ops (Rq ops (λ_=>true) done)).all λj=>Nat.beq j i) &&
  JT ops (done.setIfInBounds i true) aC
def Db{P:Program}(M:nN P)(n:Nat)(ops:Array Oper):Bool:=
 (List.range ops.size).all λi=>match ops[i]? with
  |some o=>match o.op with
   | .alloc T=>o.guard.isNone && (g5 M.gD T).isSome && (match o.dst with
    |some d=>Nat.blt d n && (List.range ops.size).all λj=>Nat.beq j i||match ops[j]? with
     |some lD=>lD.dst !=some d
     |none=>true
    |none=>false) && Region.free .any ops (Array.replicate ops.size false) i
   |_=>true
  |none=>true
structure GA where
 i:Nat
 d:Nat
 b:Nat
 T:TypeId
def A5(t:Nat->Value):List GA->Nat->Value
 |[]=>t
 |e::gE=>kD (A5 t gE) e.d (.pointer (some ⟨e.b,0,none⟩))
def UP{P:Program}(M:nN P)(gE:List GA):List bQ:=gE.map λe=>⟨e.b,TU M e.T,e.T⟩
def aDJ{P:Program}{aNl:Region.Mode}{ops:Array Oper}{Q:Exit->Act->World->Prop}{S YV:World->Prop}(fL:∀w,YV w->S w):∀(f:Nat) (l:Array Bool) (a:Act) (w:World),
 wpAnyH P aNl ops Q YV f l a w->wpAnyH P aNl ops Q S f l a w
 |0,_,_,_,h=>h
 |f+1,_,_,_,h=>⟨h.1,λi aB=>wpOp_mono (λeP w' cD=>⟨fL _ cD.1,aDJ fL f _ eP w' cD.2⟩) (h.2 i aB)⟩
structure T4{P:Program}(M:nN P)(n:Nat)(ops:Array Oper)(done dB:Array Bool)(gE:List GA):Prop where
 size:dB.size=done.size
 dB:∀i d,dB.getD i d=true↔done.getD i d=true\/∃e∈gE,e.i=i
 op:∀e∈gE,∃o,ops[e.i]?=some o/\o.op=.alloc e.T/\o.dst=some e.d/\o.guard=none
 vM:∀e∈gE,done.getD e.i true=false
 lC:(gE.map (·.i)).Nodup
 Vg:(gE.map (·.d)).Nodup
def aVD{ops:Array Oper}{i:Nat}{I2:Oper}(aB:ops[i]? =some I2)(h:Region.free .any ops (Array.replicate ops.size false) i=true){j:Nat}{lD:Oper}(a6:ops[j]? =some lD)(jC:j≠i)
 (A2:∀e∈lD.after,Region.binds .any e=true->e.on≠i):I2.apart ops lD=true:=by refine a3Q aB h j lD a6 jC ?_ A2;have:j<ops.size:=(Array.getElem?_eq_some_iff.1 a6).1;simp[this]
section
variable{P:Program}{M:nN P}{n:Nat}{ops:Array Oper}{c:sH}{cQ:List bQ}{fH:fR}
def a7b(h:Db M n ops=true){i:Nat}{o:Oper}{T:TypeId}(aB:ops[i]?=some o)(cM:o.op=.alloc T):
 o.guard=none/\(∃hZ,g5 M.gD T=some hZ)/\(∃d,o.dst=some d/\d<n/\∀j lD,ops[j]?=some lD->j≠i->lD.dst≠some d)/\Region.free .any ops (Array.replicate ops.size false) i=true:=by
 have G:=List.all_eq_true.1 h i (List.mem_range.2 (Array.getElem?_eq_some_iff.1 aB).1);simp only[aB,cM,lY,Option.isNone_iff_eq_none]at G;obtain⟨⟨⟨G,U⟩,aO⟩,bW⟩:=G;refine⟨G,Option.isSome_iff_exists.1 U,?_,bW⟩;cases a7:o.dst with
 |none=>rw[a7]at aO;cases aO
 |some d=>rw[a7]at aO;simp only[lY]at aO;refine⟨d,rfl,by simpa using aO.1,λj lD a6 jC e=>?_⟩;have dV:=List.all_eq_true.1 aO.2 j (List.mem_range.2 (Array.getElem?_eq_some_iff.1 a6).1);simp[a6,QP jC,e]at dV
def a7y{t:Nat->Value}{k:Nat}: ∀{gE:List GA},(∀e∈gE,e.d≠k)->A5 t gE k=t k
 |[],_=>rfl
 |e::gE,h=>by
  have G:=h e eY
  simp only[A5,kD,QP (XT G),cond_false]
  exact a7y λe V=>h e (by simp[V])
def a1x{t:Nat->Value}{d:Option Tmp}{v:Value}: ∀{gE:List GA},(∀e∈gE,d≠some e.d)->w9 (A5 t gE) d v=A5 (w9 t d v) gE
 |[],_=>rfl
 |e::gE,h=>by
  have G:=h e eY
  have cA:=a1x (t:=t) (d:=d) (v:=v) (gE:=gE) λe V=>h e (by simp[V])
  simp only[A5]
  rw[<-cA]
  cases d with
  |none=>rfl
  |some d=>
   have jC:d≠e.d:=λr7=>G (by rw[r7])
   funext k
   simp only[w9,kD]
   by_cases Y:k=d
   ·subst Y
    simp[QP jC]
   ·rw[QP Y,cond_false,cond_false]
def aRk{t:Nat->Value}{o:Oper}(aF:∀cs b,o.op≠.select cs b){gE:List GA}(h:∀e∈gE,e.d∉o.looksAt ops):execOp (iL (A5 t gE)) o=execOp (iL t) o:=by
 refine execOp_congr o aF λx K=>?_;cases x with
 |tmp k=>refine a7y λe V Y=>h e V ?_;subst Y;exact oI _ (List.mem_filterMap.2 ⟨.tmp e.d,by simpa using K,rfl⟩)
 |_=>rfl
def aDH{t:Nat->Value}{o:Oper}{gE:List GA}(h:∀e∈gE,e.d∉o.looksAt ops):n9 ops (A5 t gE) o.guard=n9 ops t o.guard:=by
 unfold n9;cases bE:o.guard with
 |none=>rfl
 |some p=>
  obtain⟨j,oG⟩:=p;have:Hn ops (A5 t gE) j=Hn ops t j:=by
   unfold Hn;cases a7:(ops[j]?).bind (·.dst)with
   |none=>rfl
   |some d=>have:A5 t gE d=t d:=a7y λe V Y=>h e V (by subst Y;exact kE _ (by simp[bE,a7]));simp only[this]
  simp only[this]
def aD5(jX:Db M n ops=true){done dB:Array Bool}{gE:List GA}(c6:T4 M n ops done dB gE){i:Nat}{o:Oper}(aB:ops[i]? =some o)(jQ: ∀e∈gE,e.i≠i)
 (S3:∀e∈o.after,Region.binds .any e=true->done.getD e.on false=true):∀e∈gE,e.d∉o.looksAt ops/\o.dst≠some e.d:=by
 intro e V;obtain⟨Aj,G,U,aO,bW⟩:=c6.op e V;obtain⟨_,_,_,IR⟩:=a7b jX G U;have Kl:=aVD G IR aB (XT (jQ e V)) (λx K aT b3U=>by
  have dV:=S3 x K aT;rw[b3U]at dV;have gY:=c6.vM e V;have:done.getD e.i false=false:=by
   rcases gX e.i done.size with cD|cD;·simp[cD]at gY|-;exact gY
   ·simp[NL cD]
  rw[this]at dV;cases dV)
 obtain⟨hO,a2,a3⟩:=Oper.apart_spec Kl;exact⟨hO e.d aO,a2 e.d aO⟩
def aES{o:Oper}{T:TypeId}(h:o.op=.alloc T):k1 o.op=1:=by rw[h];rfl
def aFI{o:Oper}(h:k1 o.op=1):∃T,o.op=.alloc T:=by
 cases cM:o.op<;>rw[cM]at h<;>simp only[k1]at h<;>first|exact⟨_,rfl⟩|(exact absurd h aX)|skip
 split at h<;>exact absurd h aX
def aHy(op:Op):k1 op=0\/k1 op=1\/k1 op=2:=by
 unfold k1;split<;>first|(exact .inl rfl)|(exact .inr (.inl rfl))|(exact .inr (.inr rfl))|skip
 split<;>first|(exact .inl rfl)|(exact .inr (.inr rfl))
def UO{l:Array Bool}{i:Nat}(h:i<l.size)(d:Bool):(l.setIfInBounds i true).getD i d=true:=by simp[h]
def T4.step{done dB:Array Bool}{gE:List GA}(c6:T4 M n ops done dB gE){i:Nat}(jQ:∀e∈gE,e.i≠i)(aB:i<done.size):
 T4 M n ops (done.setIfInBounds i true) (dB.setIfInBounds i true) gE:=by
 refine⟨by simp[c6.size],λk d=>?_,c6.op,λe V=>?_,c6.lC,c6.Vg⟩;·
  by_cases Y:i=k;·subst Y;rw[UO aB,UO (by rw[c6.size];exact aB)];simp
  ·rw[getD_set_ne d Y,getD_set_ne d Y];exact c6.dB k d
 ·rw[getD_set_ne true (XT (jQ e V))];exact c6.vM e V
def Ri: ∀(vU uV:List Nat),vU.Nodup->(∀x∈vU,x∈uV)->vU.length<=uV.length
 |[],_,_,_=>by simp
 |x::vU,uV,bA,aF=>by
  rw[P9]at bA
  have K:=aF x eY
  have:=Ri vU (uV.erase x) bA.2 λy bB=>by
   have jC:y≠x:=λe=>bA.1 (e▸bB)
   exact(List.mem_erase_of_ne jC).2 (aF y (by simp[bB]))
  rw[List.length_erase_of_mem K]at this
  have:0<uV.length:=List.length_pos_of_mem K
  simp only[kL]
  omega
def a50{t:Nat->Value}{e:GA}{F9:List GA}: ∀{HW:List GA},((HW++e::F9).map (·.d)).Nodup->A5 t (HW++e::F9)=A5 (kD t e.d (.pointer (some ⟨e.b,0,none⟩))) (HW++F9)
 |[],h=>by
  simp only[nJ,pV,P9]at h
  have:=a1x (t:=t) (d:=some e.d) (v:=.pointer (some ⟨e.b,0,none⟩)) (gE:=F9) λx K a7=>h.1 (List.mem_map.2 ⟨x,K,(uA a7).symm⟩)
  exact this
 |x::HW,h=>by
  simp only[mK,pV,P9]at h
  simp only[mK,A5,a50 h.2]
def c5.yN{L E:List bQ}{R:List eT}{w:World}(h:c5 c L R w)(aG:L.Perm E):c5 c E R w:=by obtain⟨⟨aD,bF,bE⟩,cM,Y⟩:=h;exact⟨⟨aD,⟨(aG.map _).nodup_iff.1 bF.lC,λe V=>bF.own e (aG.mem_iff.2 V),λe V=>bF.pT e (aG.mem_iff.2 V),bF.nT,bF.nH⟩,bE⟩,λe V=>cM e (aG.mem_iff.2 V),Y⟩
def aH7{p:Nat->Bool}{done:Array Bool}{i:Nat}(aB:i<ops.size)(d:Bool):(Rq ops p done).getD i d=(done.getD i true||(Nat.beq (tI ops i) 1 && p i)):=by simp[Rq,aB]
def a7f{p:Nat->Bool}{done dB:Array Bool}{gE:List GA}(c6:T4 M n ops done dB gE)(aG:∀e∈gE,p e.i=true)(p9:done.size=ops.size){j:Nat}(a6:j∈Region.ready .any ops dB)(Y:tI ops j≠1):
 j∈Region.ready .any ops (Rq ops p done):=by
 obtain⟨bV,o,cM,pS⟩:=mem_ready.1 a6;have jT:j<ops.size:=(Array.getElem?_eq_some_iff.1 cM).1;refine mem_ready.2 ⟨?_,o,cM,λe V aT=>?_⟩;·
  rw[aH7 jT];have G:done.getD j true=false:=by
   cases a7:done.getD j true with
   |false=>rfl
   |true=>rw[(c6.dB j true).2 (.inl a7)]at bV;cases bV
  have U:Nat.beq (tI ops j) 1=false:=QP Y;simp[G,U]
 ·
  have G:=pS e V aT;have b29:e.on<ops.size:=by
   rcases gX e.on dB.size with cD|cD;·rw[c6.size,p9]at cD;exact cD
   ·simp[NL cD]at G
  rw[aH7 b29];rcases(c6.dB e.on false).1 G with U|⟨x,K,Uu⟩;·
   have:done.getD e.on true=true:=by
    rcases gX e.on done.size with cD|cD;·simp[cD]at U|-;exact U
    ·simp[NL cD]
   simp only[this,Bool.true_or]
  ·obtain⟨bAL,aO,bW,_,_⟩:=c6.op x K;(have dV:tI ops e.on=1:=by rw[<-Uu];simp only[tI,aO];exact aES bW);have gY:=aG x K;rw[Uu]at gY;simp[dV,gY]
def aI6{o:Oper}{a:Act}{aV:Operand->Value}{w:World}{next:Act->World->Prop}{Q:Exit->Act->World->Prop}(V:execOp a.eval o=execOp aV o)(h:o.upon P a next Q ((execOp aV o).run P w)):o.wp P a w next Q:=by unfold Oper.wp;rw[V];exact h
def aTh{done dB:Array Bool}{t:Nat->Value}{L:List bQ}{R:List eT}{a:Act}{w:World}(dC:JT ops done []=true)(c6:T4 M n ops done dB [])(xQ:dP P M n ops cQ fH [] t L R)
 (lB:mD n (A5 t []) a) (cW:c5 c (UP M []++L) R w) {S:World->Prop} (hK:Nat):wpAnyH P .any ops (EN n c fH) S hK dB a w:=by
 refine wpAnyH_done ?_ ⟨trivial,t,L,R,xQ,lB,cW⟩ hK;simp only[JT,List.isEmpty_iff]at dC;refine List.eq_nil_iff_forall_not_mem.2 λj a6=>?_;obtain⟨bV,o,cM,pS⟩:=mem_ready.1 a6;have G:done.getD j true=false:=by
  cases a7:done.getD j true with
  |false=>rfl
  |true=>rw[(c6.dB j true).2 (.inl a7)]at bV;cases bV
 have:j∈Region.ready .any ops done:=by
  refine mem_ready.2 ⟨G,o,cM,λe V aT=>?_⟩;rcases(c6.dB e.on false).1 (pS e V aT)with h|⟨x,K,_⟩;·exact h
  ·cases K
 rw[dC]at this;cases this
def aFk(HG:Region.noSelect ops=true)(jX:Db M n ops=true):∀(m hK:Nat) (iK:List Nat) (os:List Oper) (done dB:Array Bool) (gE:List GA) (t:Nat->Value) (L:List bQ) (R:List eT) (a:Act) (w:World),
 hK+iK.length<=m->iK.length<=hK+gE.length->iK.map (ops[·]?)=os.map some->JT ops done iK=true->T4 M n ops done dB gE->(∀e∈gE,e.i∈iK)->done.size=ops.size->
 (∀i,i<ops.size->done.getD i true=false->i∈iK)->
 mD n (A5 t gE) a->c5 c (UP M gE++L) R w->cQ.Sublist L->dP P M n ops cQ fH os t L R->wpAnyH P .any ops (EN n c fH) (c5 c cQ R) hK dB a w:=by
 intro m;induction m with
 |zero=>
  intro hK iK os done dB gE t L R a w a1 FQ sV dC c6 O5 p9 B7 lB cW o4 xQ;obtain rfl:iK=[]:=by cases iK with|nil=>rfl|cons x l=>simp at a1
  exact aOz
 |succ m cA=>
  intro hK iK os done dB gE t L R a w a1 FQ sV dC c6 O5 p9 B7 lB cW o4 xQ;have fL:c5 c cQ R w:=cW.rU (o4.trans (XR _ _)) (λr O=>⟨r,O,.lK⟩)
  -- a making of a variable that comes up early
  have early:∀(f:Nat),hK=f+1->∀j,j∈Region.ready .any ops dB->tI ops j=1->
   wpOp P ops (EN n c fH) j (λeP w'=>c5 c cQ R w'/\wpAnyH P .any ops (EN n c fH) (c5 c cQ R) f (dB.setIfInBounds j true) eP w') a w:=by
   intro f aH j a6 DQ;obtain⟨bV,lD,IX,pS⟩:=mem_ready.1 a6;(have a9N:k1 lD.op=1:=by simpa[tI,IX]using DQ);obtain⟨T,dF⟩:=aFI a9N;obtain⟨bE,⟨hZ,Ur⟩,⟨d,a7,ZT,aL1⟩,IR⟩:=a7b jX IX dF;obtain⟨l0,WW,DT⟩:=Oh (M.ok _ _ Ur) w;have a2t:done.getD j true=false:=by
    cases a7:done.getD j true with
    |false=>rfl
    |true=>rw[(c6.dB j true).2 (.inl a7)]at bV;cases bV
   (have a9H:∀e∈gE,e.i≠j:=λe V aB=>by rw[(c6.dB j true).2 (.inr ⟨e,V,aB⟩)]at bV;cases bV);(have aAZ:l0.cells.toList=TU M T:=by rw[DT];simp[TU,Ur]);(have pL:c5 c (UP M (⟨j,d,w.heap.size,T⟩::gE)++L) R (w.alloc (.cells l0.cells T)):=by have:=cW.alloc l0.cells T;rw[aAZ]at this;exact this);unfold wpOp;simp only[IX];rw[lB.wanted,bE];simp only[n9,if_true];refine .inl ?_;(have WQ:(execOp a.eval lD).run P w=.ok (.value (.pointer (some ⟨w.heap.size,0,none⟩))) (w.alloc (.cells l0.cells T)):=by exact aPc);unfold Oper.wp;rw[WQ];refine⟨pL.rU (o4.trans (XR _ _)) (λr O=>⟨r,O,.lK⟩),?_⟩;have Es:j<ops.size:=(Array.getElem?_eq_some_iff.1 IX).1;(have a9I:j<dB.size:=by rw[c6.size,p9];exact Es);have a2u:j∈iK:=B7 j Es a2t;refine cA f iK os done _ (⟨j,d,w.heap.size,T⟩::gE) t L R _ _ D (by simp only[kL];omega) sV dC ?_ ?_ p9 B7 ?_ pL o4 xQ;·exact aOQ
   ·exact aPn
   ·exact aOJ
  cases iK with
  |nil=>exact aOz
  |cons i aC=>
   cases os with
   |nil=>simp at sV
   |cons o os=>
    simp only[pV,a3Y]at sV;obtain⟨oB,sV⟩:=sV;simp only[JT,lY]at dC;obtain⟨⟨Ep,MY⟩,WI⟩:=dC;(have Ep:i∈Region.ready .any ops done:=by simpa using Ep);obtain⟨Tq,o',Ex,WL⟩:=mem_ready.1 Ep;obtain rfl:o'=o:=uA (Ex.symm.trans oB);have Eo:i<ops.size:=(Array.getElem?_eq_some_iff.1 oB).1;(have SV:i<done.size:=by rw[p9];exact Eo);(have SX:tI ops i=k1 o'.op:=by simp[tI,oB]);have V3:∀k,k<ops.size->(done.setIfInBounds i true).getD k true=false->k∈aC:=by
     intro k Y a7;by_cases Ew:i=k;·subst Ew;rw[UO SV]at a7;cases a7
     ·
      rw[getD_set_ne true Ew]at a7;rcases List.mem_cons.1 (B7 k Y a7)with h|h;·exact absurd h.symm Ew
      ·exact h
    (have V5:(done.setIfInBounds i true).size=ops.size:=by simp[p9]);(have b2l:∀k,done.getD k true=true->∀d,dB.getD k d=true\/k>=done.size:=by exact aOL);obtain⟨a7,xQ⟩:=xQ
    -- if the operation is no making of a variable, it has not come up, and is apart from the early ones
    (have M6:k1 o'.op≠1->∀e∈gE,e.i≠i:=by exact aOp);(have Sg:k1 o'.op≠1->gE.length<=aC.length:=by exact aOx);have S3:k1 o'.op≠1->i∈Region.ready .any ops dB:=by
     intro Y;refine mem_ready.2 ⟨?_,o',oB,λe V aT=>(c6.dB _ _).2 (.inl (WL e V aT))⟩;cases aZ:dB.getD i true with
     |false=>rfl
     |true=>exact aOq
    have apart:k1 o'.op≠1->∀e∈gE,e.d∉o'.looksAt ops/\o'.dst≠some e.d:=λY=>aD5 jX c6 oB (M6 Y) WL;(have Dm:k1 o'.op≠1->∀e∈gE,e.i∈aC:=λY e V=>by exact aPg);(have frame:k1 o'.op≠1->∀v,mD n (A5 (w9 t o'.dst v) gE) (a.put o'.dst v):=λY v=>by rw[<-a1x (λe V=>(apart Y e V).2)];exact lB.put a7 v);(have Ff:k1 o'.op≠1->Region.wanted o' (yielded ops a.tmps)=n9 ops t o'.guard:=λY=>by rw[lB.wanted,aDH (λe V=>(apart Y e V).1)]);(have SS:k1 o'.op≠1->execOp a.eval o'=execOp (iL t) o':=λY=>by exact aPd);rcases aHy o'.op with Y|Y|Y;·
     -- it leaves the world alone
     (have g6:k1 o'.op≠1:=by rw[Y];decide);have sU:=Sg g6;obtain⟨f,rfl⟩:∃f,hK=f+1:=⟨hK-1,by simp only[kL]at FQ;omega⟩;rw[SX,Y]at MY;have IR:∀j lD,ops[j]?=some lD->j≠i->dB.getD j true=false->(∀e∈lD.after,Region.binds .any e=true->e.on≠i)->o'.apart ops lD=true:=by
      intro j lD a6 jC aZ A2;refine a3Q oB MY j lD a6 jC ?_ A2;cases a7:done.getD j true with
      |false=>rfl
      |true=>rw[(c6.dB j true).2 (.inl a7)]at aZ;cases aZ
     (have go:∀v,YieldsIf P ops (c5 c cQ R) o' v a->dP P M n ops cQ fH os (w9 t o'.dst v) L R->wpAnyH P .any ops (EN n c fH) (c5 c cQ R) (f+1) dB a w:=by intro v bB wQ;refine wpAnyH_first oB (a3X HG) (λ_ _ _ h=>h.1.elim) f dB a w IR (S3 g6) bB fL ?_;exact cA f aC os _ _ gE _ L R _ w Bd Nk sV WI (c6.step (M6 g6) SV) (Dm g6) V5 V3 (frame g6 v) cW o4 wQ);rcases xQ with⟨cE,_,wQ⟩|⟨cE,_,v,cS,wQ⟩|⟨G,_⟩|⟨_,U,_⟩;·exact go undef (.inr ⟨by rw[Ff g6];exact cE,rfl⟩) wQ
     ·exact go v (.inl ⟨by rw[Ff g6];exact cE,λw' PP=>by rw[SS g6];exact cS c w' PP⟩) wQ
     ·exact absurd G g6
     ·rw[Y]at U;cases U
    ·
     -- it makes a variable
     rw[SX,Y]at MY;rcases xQ with⟨_,G,_⟩|⟨_,U,_⟩|⟨_,T,dF,wQ⟩|⟨_,U,_⟩;·exact absurd Y G
     ·rw[Y]at U;cases U
     ·
      by_cases jQ: ∃e∈gE,e.i=i;·
       -- it has come up early
       obtain⟨e,V,Ei⟩:=jQ;obtain⟨Aj,G,U,aO,bW⟩:=c6.op e V;rw[Ei]at G;obtain rfl:Aj=o':=uA (G.symm.trans oB);(obtain rfl:e.T=T:=by rw[U]at dF;exact Op.alloc.inj dF);obtain⟨HW,F9,rfl⟩:=List.append_of_mem V;(have vR:∀x∈HW++F9,x∈HW++e::F9:=λx K=>by exact aPq);(have a9Z:∀x∈HW++F9,x.i≠i:=by exact aOw);refine cA hK aC os _ dB (HW++F9) _ _ R a w Bd aQn sV WI ?_ ?_ V5 V3 ?_ ?_ (o4.cons _) (wQ e.b);·exact aOP
       ·exact aPb
       ·rw[aO];have:=a50 (t:=t) c6.Vg;rw[this]at lB;exact lB
       ·exact aOo
      ·
       -- it has not: whatever comes up now makes a variable
       have a2r:∀e∈gE,e.i≠i:=λe V aB=>jQ ⟨e,V,aB⟩;have S4:i∈Region.ready .any ops dB:=by
        refine mem_ready.2 ⟨?_,o',oB,λe V aT=>(c6.dB _ _).2 (.inl (WL e V aT))⟩;cases aZ:dB.getD i true with
        |false=>rfl
        |true=>exact aOs
       (have sU:gE.length+1<=(i::aC).length:=by exact aO5);obtain⟨f,rfl⟩:∃f,hK=f+1:=⟨hK-1,by omega⟩;refine wpAnyH_all rfl (Gp S4) λj a6=>early f rfl j a6 ?_;exact aOy
     ·rw[Y]at U;cases U
    ·
     -- it turns the world
     (have g6:k1 o'.op≠1:=by rw[Y];decide);have sU:=Sg g6;obtain⟨f,rfl⟩:∃f,hK=f+1:=⟨hK-1,by simp only[kL]at FQ;omega⟩;rw[SX,Y]at MY;refine wpAnyH_all rfl (Gp (S3 g6)) λj a6=>?_;by_cases DQ:tI ops j=1;·exact early f rfl j a6 DQ
     ·
      have MX:=a7f (p:=λ_=>true) c6 (λ_ _=>rfl) p9 a6 DQ;have:=List.all_eq_true.1 MY j MX;(obtain rfl:j=i:=by simpa using this);unfold wpOp;simp only[oB];rw[Ff g6];rcases xQ with⟨cE,_,wQ⟩|⟨_,U,_⟩|⟨G,_⟩|⟨cE,_,Post,bE,wQ⟩;·rw[cE,if_neg eY];exact⟨fL,cA f aC os _ _ gE _ L R _ w Bd Nk sV WI (c6.step (M6 g6) SV) (Dm g6) V5 V3 (frame g6 undef) cW o4 wQ⟩
      ·rw[Y]at U;cases U
      ·exact absurd G g6
      ·rw[cE,if_pos rfl];refine .inl (aI6 (SS g6) ?_);refine(bE.frame (UP M gE)) c w cW a _ _ ?_;rintro v hA R' w' ⟨E,rfl,aG⟩ pL;obtain⟨SK,IL,a9v⟩:=wQ v E R' aG;refine⟨pL.rU (SK.trans (XR _ _)) IL,?_⟩;refine aDJ (YV:=c5 c cQ R') (λx K=>K.rU iP IL) _ _ _ _ ?_;exact cA f aC os _ _ gE _ E R' _ w' Bd Nk sV WI (c6.step (M6 g6) SV) (Dm g6) V5 V3 (frame g6 v) pL SK a9v
end
def LG(ops:List Oper):List Nat->List Oper
 |[]=>[]
 |i::l=>match ops[i]? with
  |some o=>o::LG ops l
  |none=>LG ops l
def a1t{P:Program}(M:nN P)(n:Nat)(ops:Array Oper)(iK:List Nat):Bool:=
 Region.noSelect ops && Db M n ops && JT ops (Array.replicate ops.size false) iK && ((List.range ops.size).all λi=>iK.contains i) && iK.all λi=>Nat.blt i ops.size
def Pq(ops:List Oper): ∀(iK:List Nat),(∀i∈iK,i<ops.length)->iK.map (ops.toArray[·]?)=(LG ops iK).map some
 |[],_=>rfl
 |i::l,h=>by
  have aB:=h i eY
  have cA:=Pq ops l λj a6=>h j (by simp[a6])
  simp only[pV,LG,List.getElem?_toArray,w4 aB]
  congr 1
  simpa using cA
def jR{P:Program}(M:nN P){n id:Nat}{ops:List Oper}{t:Nat->Value}{L:List bQ}{R:List eT}{Q:fR}(iK:List Nat)(cQ:List bQ)(a1:P.follows .mixedOrders=true)(qK:a1t M n ops.toArray iK=true)(o4:cQ.Sublist L)
 (h:dP P M n ops.toArray cQ Q (LG ops iK) t L R):cO P n (.region id ops.toArray true) t L R Q:=by
 simp only[a1t,lY]at qK;obtain⟨⟨⟨⟨G,U⟩,aO⟩,bW⟩,dV⟩:=qK;have jT:∀i∈iK,i<ops.length:=λi aB=>by simpa using List.all_eq_true.1 dV i aB
 intro c a w aH aF;refine wp_region_held (S:=c5 c cQ R) a1 ?_;have sU:iK.length<=ops.toArray.size\/True:=.inr trivial;refine aFk (M:=M) (cQ:=cQ) G U (ops.toArray.size+iK.length) ops.toArray.size iK (LG ops iK) (Array.replicate ops.toArray.size false) _ [] t L R a _ (gS _) ?_ (Pq ops iK jT) aO ?_ (λe V=>by cases V) eY ?_ aH ?_ o4 h;·
  -- the plan lists each operation once: what is ready is not done
  have key:∀(bL:List Nat) (done:Array Bool),JT ops.toArray done bL=true->bL.Nodup/\∀i∈bL,done.getD i true=false:=by
   intro bL;induction bL with
   |nil=>intro _ _;exact⟨Az,λi aB=>by cases aB⟩
   |cons i bL cA=>exact aOY
  have:=Ri iK (List.range ops.length) (key iK _ aO).1 (λi aB=>List.mem_range.2 (jT i aB));simpa using this
 ·exact⟨by simp,λi d=>by simp,by simp,by simp,Az,Az⟩
 ·exact aPo
 ·exact c5.drew aF
section
variable{P:Program}{M:nN P}{n:Nat}{all:Array Oper}{cQ:List bQ}{fH:fR}{op:Op}{ty:TypeId}{pos:String}{after:Array Edge}{aC:List Oper}{t:Nat->Value}{L E:List bQ}{R R':List eT}{d:Tmp}{v:Value}{g:Option (Nat×Bool)}{T:TypeId}{x y:Operand}
def jI(h:fH .normal t L R):dP P M n all cQ fH [] t L R:=h
def b7(cS:cI P ⟨some d,op,ty,pos,after,g⟩ (iL t) cQ R v)(Y:k1 op=0)(bE:n9 all t g=true)(a7:Nat.blt d n=true)(h:dP P M n all cQ fH aC (kD t d v) L R):dP P M n all cQ fH (⟨some d,op,ty,pos,after,g⟩::aC) t L R:=
 ⟨a7,.inr (.inl ⟨bE,Y,v,cS,h⟩)⟩
def aWD(Y:Nat.beq (k1 op) 1=false)(bE:n9 all t g=false)(a7:Nat.blt d n=true)(h:dP P M n all cQ fH aC (kD t d undef) L R):dP P M n all cQ fH (⟨some d,op,ty,pos,after,g⟩::aC) t L R:=
 ⟨a7,.inl ⟨bE,λe=>by simp[e]at Y,h⟩⟩
def aRi{k m fl bt z}(dF:g5 M.gD T=some ⟨k,m,fl,bt,z⟩)(a7:Nat.blt d n=true)
 (h:∀b,dP P M n all cQ fH aC (kD t d (.pointer (some ⟨b,0,none⟩))) (⟨b,z,T⟩::L) R):dP P M n all cQ fH (⟨some d,.alloc T,ty,pos,after,none⟩::aC) t L R:=
 ⟨a7,.inr (.inr (.inl ⟨rfl,T,rfl,λb=>by
  have:=h b
  have e:TU M T=z:=by simp[TU,dF]
  rw[e]
  exact this⟩))⟩
def pP{Post:n8}(bE:dR P ⟨some d,op,ty,pos,after,g⟩ (iL t) L R Post)(Y:k1 op=2)(cE:n9 all t g=true)(a7:Nat.blt d n=true)
 (h:∀v E R',Post v E R'->cQ.Sublist E/\(∀r∈R,aN r R')/\dP P M n all cQ fH aC (kD t d v) E R'):dP P M n all cQ fH (⟨some d,op,ty,pos,after,g⟩::aC) t L R:=
 ⟨a7,.inr (.inr (.inr ⟨cE,Y,Post,bE,h⟩))⟩
def ID{Post:n8}(bE:dR P ⟨none,op,ty,pos,after,g⟩ (iL t) L R Post)(Y:k1 op=2)(cE:n9 all t g=true)
 (h:∀v E R',Post v E R'->cQ.Sublist E/\(∀r∈R,aN r R')/\dP P M n all cQ fH aC t E R'):dP P M n all cQ fH (⟨none,op,ty,pos,after,g⟩::aC) t L R:=
 ⟨rfl,.inr (.inr (.inr ⟨cE,Y,Post,bE,λv E R' aG=>h v E R' aG⟩))⟩
def zD{f:FuncId}{xs:List Operand}{n6:Array TypeId}{args:List Value}{Post:n8}(bX:xs.map (iL t)=args)(h:aM P f args.toArray L R Post)(cE:n9 all t g=true)(a7:Nat.blt d n=true)
 (k:∀v E R',Post v E R'->cQ.Sublist E/\(∀r∈R,aN r R')/\dP P M n all cQ fH aC (kD t d v) E R'):dP P M n all cQ fH (⟨some d,.call ⟨.value (.func f),xs.toArray,n6⟩,ty,pos,after,g⟩::aC) t L R:=
 pP (Qx a4e rfl h) rfl cE a7 k
def UA{k m fl bt z b o}{cs gM:List Value}{v:Value}{nY:TypeId}(dF:g5 M.gD T=some ⟨k,m,fl,bt,z⟩)(K:iL t x= .pointer (some ⟨b,o,none⟩))(bB:iL t y=v)(bA:m=1)
 (cZ:q0 b cs nY gM L E) (o6:Nat.blt o cs.length=true) (nU:cs.set o v=gM) (G:v.oneCell'=true) (o4:cQ.Sublist E)
 (h:dP P M n all cQ fH aC t E R):dP P M n all cQ fH (⟨none,.store T x y,ty,pos,after,none⟩::aC) t L R:=
 ID (aJy M dF K bB bA cZ o6 nU G) rfl rfl λ_ hA R' ⟨dH,eH⟩=>by subst dH;subst eH;exact⟨o4,oV _,h⟩
def Ru{k m fl bt z b o}{cs vs gM:List Value}{nY:TypeId}(dF:g5 M.gD T=some ⟨k,m,fl,bt,z⟩)(K:iL t x= .pointer (some ⟨b,o,none⟩))(bB:iL t y= .agg vs.toArray)(bA:vs.length=m)
 (cZ:q0 b cs nY gM L E) (o6:Nat.ble (o+vs.length) cs.length=true) (nU:cs.take o++vs++cs.drop (o+vs.length)=gM) (G:vs.all (·.oneCell')=true) (o4:cQ.Sublist E)
 (h:dP P M n all cQ fH aC t E R):dP P M n all cQ fH (⟨none,.store T x y,ty,pos,after,none⟩::aC) t L R:=
 ID (aJv M dF K bB bA cZ o6 nU G) rfl rfl λ_ hA R' ⟨dH,eH⟩=>by subst dH;subst eH;exact⟨o4,oV _,h⟩
def aRy{k m fl bt z b}{cs vs:List Value}{nY:TypeId}(dF:g5 M.gD T=some ⟨k,m,fl,bt,z⟩)(K:iL t x= .pointer (some ⟨b,0,none⟩))(bB:iL t y= .agg vs.toArray)(bA:vs.length=m)
 (cZ:q0 b cs nY vs L E) (o6:vs.length=cs.length) (G:vs.all (·.oneCell')=true) (o4:cQ.Sublist E)
 (h:dP P M n all cQ fH aC t E R):dP P M n all cQ fH (⟨none,.store T x y,ty,pos,after,none⟩::aC) t L R:=
 Ru dF K bB bA cZ (by simp[o6]) (by simp[o6]) G o4 h
def Hc{t:Nat->Value}{k:Nat}{v:Value}(h:t k=v):kD t k v=t:=by
 funext i;unfold kD;cases aT:Nat.beq i k with
 |false=>rfl
 |true=>rw[cond_true,aB8 aT];exact h.symm
def zC{os:List Oper}{k:Nat}{b:Bool}(aT:t k=.bool b)(G:b=true->dP P M n all cQ fH os (kD t k (.bool true)) L R)(U:b=false->dP P M n all cQ fH os (kD t k (.bool false)) L R):dP P M n all cQ fH os t L R:=by
 cases b with
 |true=>have:=G rfl;rwa[Hc aT]at this
 |false=>have:=U rfl;rwa[Hc aT]at this
def Im{os:List Oper}{k:Nat}{b:Bool}{Q:fR}(aT:t k=.bool b)(G:b=true->dG P n all os (kD t k (.bool true)) L R Q)(U:b=false->dG P n all os (kD t k (.bool false)) L R Q):dG P n all os t L R Q:=by
 cases b with
 |true=>have:=G rfl;rwa[Hc aT]at this
 |false=>have:=U rfl;rwa[Hc aT]at this
end
def y1(z:List Value):Nat->List Value
 |0=>[]
 |n+1=>z++y1 z n
def aYW(z:List Value)(n:Nat):(y1 z n).length=n*z.length:=by
 induction n with
 |zero=>simp[y1]
 |succ n cA=>simp[y1,cA,K2,Mq]
def aDu(z:List Value)(dI:0<z.length): ∀(n i:Nat),i<n*z.length->(y1 z n)[i]? =z[i%z.length]?
 |0,i,h=>by simp at h
 |n+1,i,h=>by
  simp only[y1]
  rcases gX i z.length with cD|cD
  ·rw[K4 cD,Wq cD]
  ·rw[XQ cD,aDu z dI n (i-z.length) (by rw[K2]at h;omega)]
   rw[Nat.mod_eq_sub_mod cD]
def aJ2(z:Array Value)(n:Nat):((Array.range (n*z.size)).map (z[·%z.size]!)).toList=y1 z.toList n:=by
 apply Au;intro i;rcases gX i (n*z.size)with h|h;·
  have dI:0<z.size:=by
   rcases a3H z.size with bV|bV;·rw[bV]at h;simp at h
   ·exact bV
  have a1:i%z.size<z.size:=Nat.mod_lt _ dI;rw[aDu z.toList (by simpa using dI) n i Bg];simp[h,a1]
 ·rw[u1 Bg,u1 (by rw[aYW];simpa using h)]
def Nv(size:Nat)(cs:List Value):List (Nat×List Value)->Option (List Value)
 |[]=>some cs
 |(i,vs)::aC=>bif Nat.beq vs.length size && Nat.ble (i*size+vs.length) cs.length then Nv size (U7 cs (i*size) vs) aC else none
def aGI(size:Nat):∀(parts:List (Nat×Value)) (cs:List Value) (c9:List Value),
 Nv size cs (parts.map λp=>(p.1,p.2.cells.toList))=some c9->Instr.fill (λi=>some (i*size,size)) cs.toArray parts=some c9.toArray
 |[],cs,c9,h=>by simp only[XS,Nv,Mw]at h;simp[Instr.fill,h]
 |(i,v)::aC,cs,c9,h=>by
  simp only[pV,Nv]at h
  simp only[Instr.fill]
  cases aT:(Nat.beq v.cells.toList.length size && Nat.ble (i*size+v.cells.toList.length) cs.length)with
  |false=>rw[aT]at h;cases h
  |true=>
   rw[aT,cond_true]at h
   simp only[lY,Av,Nat.ble_eq,a4d]at aT
   have:=aGI size aC _ c9 h
   rw[if_neg (by simp[aT.1];omega)]
   have dI:(v.cells.zipIdx.foldl (λcs (c,j)=>cs.setIfInBounds (i*size+j) c) cs.toArray)=(U7 cs (i*size) v.cells.toList).toArray:=by
    show v.cells.zipIdx.foldl (λcs (x:Value×Nat)=>cs.setIfInBounds (i*size+x.2) x.1) cs.toArray=_
    rw[<-Array.foldl_toList]
    have:=a5w v.cells.toList (i*size) 0 cs.toArray
    simpa using this
   rw[dI]
   exact this
inductive gT where
 |nil
 |own (g cap:Nat) (spare:List Value)
def gT.val:gT->Nat->Value
 | .nil,_=>.slice none 0 0
 | .own g cap _,n=>.slice (some ⟨g,0,none⟩) n cap
def gT.L(e:TypeId)(xs:List Value):gT->List bQ
 | .nil=>[]
 | .own g _ spare=>[⟨g,xs++spare,e⟩]
def gT.ok(size:Nat)(xs:List Value)(n:Nat):gT->Prop
 | .nil=>n=0/\xs=[]
 | .own _ cap spare=>xs.length=n*size/\n<=cap/\cap<=maxLen/\(xs++spare).length=cap*size
inductive GI(X:List bQ):List bQ->(List bQ->List bQ)->Prop
 |lK {B}:GI X (X++B) (λxH=>xH++B)
 |cons {x L f} (h:GI X L f):GI X (x::L) (λxH=>x::f xH)
 |wJ {BV L f} (h:GI X L f):GI X (BV++L) (λxH=>BV++f xH)
def GI.split{X L f}(h:GI X L f):∃A B,L=A++X++B/\∀xH,f xH=A++xH++B:=by
 induction h with
 | @lK B=>exact⟨[],B,by simp,λxH=>by simp⟩
 | @cons x L f _ cA=>obtain⟨A,B,G,U⟩:=cA;exact⟨x::A,B,by simp[G],λxH=>by simp[U]⟩
 | @wJ BV L f _ cA=>obtain⟨A,B,G,U⟩:=cA;exact⟨BV++A,B,by simp[G],λxH=>by simp[U]⟩
def Ij(L:List bQ)(R:List eT)(v:Value)(m size:Nat)(rB:List Value):Prop:=
 ∃a cap,v=.slice (some a) m cap/\rB.length=m*size/\∀c w,c5 c L R w->∀j u,rB[j]?=some u->w.cell? (a.add j)=some u
def aSO{L:List bQ}{R:List eT}{b m cap size:Nat}{cs rB:List Value}{T:TypeId}(jQ:EI ⟨b,cs,T⟩ L)(aZ:rB.length=m*size)(aG:cs.take (m*size)=rB):Ij L R (.slice (some ⟨b,0,none⟩) m cap) m size rB:=by
 refine⟨_,_,rfl,aZ,λc w cW j u a6=>?_⟩;rw[UH,K7,T6 cW jQ.mem];rw[<-aG,XV]at a6;split at a6;·exact a6
 ·cases a6
def a5C{size:Nat}: ∀(rows:List (List Value)),(∀r∈rows,r.length=size)->∀j,0<size->(rows.flatten)[j]? =(rows[j/size]?).bind (·[j%size]?)
 |[],_,j,_=>by simp
 |r::rows,h,j,aF=>by
  have O:=h r eY
  rw[aB9]
  rcases gX j size with cD|cD
  ·rw[K4 D,Nat.div_eq_of_lt cD,Wq cD]
   simp
  ·rw[XQ D,O,a5C rows (λx K=>h x (by simp[K])) _ aF]
   rw[Nat.mod_eq_sub_mod cD,Nat.div_eq_sub_div aF cD]
   simp
def aGz{L:List bQ}{R:List eT}{gH:Option Addr}{size len cap:Nat}{rows:List (List Value)}{eE:List eT}(b8:aN (.mk size gH len cap rows eE) R)(aF:0<size)(V0: ∀c w,c5 c L R w->∃b off,gH=some ⟨b,off,none⟩)
 (aZ:rows.flatten.length=len*size):(∃c w,c5 c L R w)->Ij L R (.slice gH len cap) len size rows.flatten:=by
 rintro⟨Dj,fZ,bV⟩;obtain⟨b,off,bX⟩:=V0 Dj fZ bV;subst bX;refine⟨_,_,rfl,aZ,λc w cW j u a6=>?_⟩;rw[UH];have pL:=cW;obtain⟨⟨aD,bF,bE⟩,cM,Y⟩:=cW;obtain⟨r,xV,mA⟩:=b8;have HF:=(bF.nH r xV).sub mA;cases HF with
 |mk Z1 bU a1 cE vR M2=>
  rw[a5C rows cE j aF]at a6;cases aAv:rows[j/size]? with
  |none=>rw[aAv]at a6;cases a6
  |some row=>rw[aAv]at a6;have:=a7J pL (aI:=size) (len:=len) (cap:=cap) (i:=j/size) (j:=j%size) (gH:=some ⟨b,off,none⟩) (rows:=rows) (eE:=eE) ⟨r,xV,mA⟩ aAv a6;rw[<-this];simp only[xJ,n0,Jo];congr 2;have:=Nat.div_add_mod j size;rw[a4a]at this;omega
section
variable{P:Program}{aV:Operand->Value}{L:List bQ}{R:List eT}{dst:Option Tmp}{ty:TypeId}{pos:String}{after:Array Edge}{guard:Option (Nat×Bool)}(M:nN P){T:TypeId}{x y:Operand}
def CS{e n fl bt z eK gC pJ mX z2 len}{ps:List (Nat×Operand)}{hB:List (Nat×List Value)}{c9:List Value}(dF:g5 M.gD T=some ⟨.slice e,n,fl,bt,z⟩)(c6:g5 M.gD e=some ⟨eK,gC,pJ,mX,z2⟩)
 (A1:z2.length=gC) (xW:Nat.ble (len*gC) 16777216=true) (WJ:Nat.beq (len*gC) 0=false) (bZ:So aV ps=hB) (aH:Nv gC (y1 z2 len) hB=some c9):
 dR P ⟨dst,.buildSlice T len ps.toArray,ty,pos,after,guard⟩ aV L R (λv E R'=>∃b,v=.slice (some ⟨b,0,none⟩) len len/\E=⟨b,c9,e⟩::L/\R'=R):=by
 intro c w aF a next Q gK
 have cZ:=LL (M.ok _ _ dF) rfl;have aMQ:=run_sizeOf (M.ok _ _ c6) w;obtain⟨l0,WW,DT⟩:=Oh (M.ok _ _ c6) w;simp only at aMQ DT;subst bZ;rw[aFQ]at aH;have CD:l0.cells.size=gC:=by rw[<-A1,<-DT];simp
 have KI:((Array.range (len*gC)).map (l0.cells[·%l0.cells.size]!))=(y1 z2 len).toArray:=by have:=aJ2 l0.cells len;rw[DT,CD]at this;rw[<-this,CD]
 have a9A:=aGI gC (ps.map λp=>(p.1,aV p.2)) (y1 z2 len) c9 aH;have a9X:(ps.toArray.map λ(p:Nat×Operand)=>(p.1,aV p.2)).toList=ps.map λp=>(p.1,aV p.2):=by simp
 have b0C:¬(len*gC>2^24):=by have:=s6 xW;omega
 have bV:¬(len*gC=0):=λh=>by rw[h]at WJ;cases WJ
 have a9E:(Instr.buildSlice T len (ps.toArray.map λ(p:Nat×Operand)=>(p.1,aV p.2))).run P w=.ok (.slice (some ⟨w.heap.size,0,none⟩) len len) (w.alloc (.cells c9.toArray e)):=by unfold Instr.buildSlice;simp only[s5,run_underlying cZ,rD,aMQ];rw[if_neg b0C,if_neg bV];simp only[s5,WW,rD,D8,a9X];rw[KI,a9A];simp[newRow]
 refine EZ (w':=w.alloc (.cells c9.toArray e)) (v:=.slice (some ⟨w.heap.size,0,none⟩) len len) ?_ (gK _ _ _ _ ⟨w.heap.size,rfl,rfl,rfl⟩ (aF.alloc _ _));have dH:execOp aV ⟨dst,.buildSlice T len ps.toArray,ty,pos,after,guard⟩=(do pure (.value (<-Instr.buildSlice T len (ps.toArray.map λ(p:Nat×Operand)=>(p.1,aV p.2))))):=rfl;rw[dH];simp only[s5,a9E,rD,D8]
def aRG{e n fl bt z eK gC pJ mX z2 mJ h8}{m:Nat}{i j:Int}(dF:g5 M.gD T=some ⟨.slice e,n,fl,bt,z⟩)(c6:g5 M.gD e=some ⟨eK,gC,pJ,mX,z2⟩)(A1:z2.length=gC)
 (K:aV x=.int mJ i) (bB:aV y=.int h8 j) (aB:i=(m:Int)) (a6:j=(m:Int)) (aT:mX*m<=281474976710656) (a1:m<=9223372036854775807):
 dR P ⟨dst,.makeSlice T x y,ty,pos,after,guard⟩ aV L R (λv E R'=>∃b,v=.slice (some ⟨b,0,none⟩) m m/\E=⟨b,y1 z2 m,e⟩::L/\R'=R):=by
 intro c w aF a next Q gK
 subst aB;subst a6;have cZ:=LL (M.ok _ _ dF) rfl;obtain⟨hZ,u,l0,G,U,aO,bW⟩:=E0 (M.ok _ _ c6);have xW:hZ.size=gC:=by have:=congrArg iD.sz bW;simpa[BL]using this.symm
 have yH:hZ.bytes=mX:=by have:=congrArg iD.bt bW;simpa[BL]using this.symm
 have dI:l0.cells.toList=z2:=by have:=congrArg iD.z bW;simpa[BL]using this.symm
 have CD:l0.cells.size=gC:=by rw[<-A1,<-dI];simp
 have V1:(hZ.bytes:Int)*(m:Int)<=281474976710656:=by rw[yH,<-Int.natCast_mul];omega
 have O:=run_make (P:=P) w T e hZ l0 cZ G aO mJ h8 (m:Int) (m:Int) D (oH _) V1 D;have KI:madeCells l0.cells ((m:Int).toNat*hZ.size)=(y1 z2 m).toArray:=by have:=aJ2 l0.cells m;rw[dI,CD]at this;rw[tZ,xW,madeCells,<-this,CD]
 rw[KI,tZ]at O;refine EZ (w':=w.alloc (.cells (y1 z2 m).toArray e)) (v:=.slice (some ⟨w.heap.size,0,none⟩) m m) ?_ (gK _ _ _ _ ⟨w.heap.size,rfl,rfl,rfl⟩ (aF.alloc _ _));simp[execOp,K,bB,O]
def a74{e n fl bt z eK gC pJ mX z2}{s:gT}{xs rB:List Value}{len m:Nat}{f:List bQ->List bQ}(dF:g5 M.gD T=some ⟨.slice e,n,fl,bt,z⟩)(c6:g5 M.gD e=some ⟨eK,gC,pJ,mX,z2⟩)(A1:z2.length=gC)
 (K:aV x=s.val len) (bM:s.ok gC xs len) (uU:GI (s.L e xs) L f) (aF:Ij L R (aV y) m gC rB) (a1:0<m) (G:rB.all (·.oneCell')=true) (sU:len+m<=9223372036854775807) (MQ:(len+m)*mX<=140737488355328):
 dR P ⟨dst,.call ⟨.builtin .append,#[x,y],#[T,T]⟩,ty,pos,after,guard⟩ aV L R (λv E R'=>∃g cap spare,v=(gT.own g cap spare).val (len+m)/\(gT.own g cap spare).ok gC (xs++rB) (len+m)/\E=f ((gT.own g cap spare).L e (xs++rB))/\R'=R):=by
 intro c w cW a next Q gK
 have cZ:=LL (M.ok _ _ dF) rfl;obtain⟨hZ,u,l0,FX,i2,i3,i4⟩:=E0 (M.ok _ _ c6);have xW:hZ.size=gC:=by have:=congrArg iD.sz i4;simpa[BL]using this.symm
 have yH:hZ.bytes=mX:=by have:=congrArg iD.bt i4;simpa[BL]using this.symm
 have dI:l0.cells.toList=z2:=by have:=congrArg iD.z i4;simpa[BL]using this.symm
 have CD:l0.cells.size=gC:=by rw[<-A1,<-dI];simp
 obtain⟨iZ,Se,bB,IW,b10⟩:=aF;have Ko:=b10 c w cW;obtain⟨A,B,b3,aH⟩:=uU.split;have b3V:∀u∈rB,u.oneCell'=true:=List.all_eq_true.1 G;have dH:execOp aV ⟨dst,.call ⟨.builtin .append,#[x,y],#[T,T]⟩,ty,pos,after,guard⟩=(do pure (.value (<-Builtin.append_ #[T,T] ty #[aV x,aV y]))):=by exact Vx
 have Nr:∀k,(Builtin.zeroCells l0.cells k).toList.length=k*gC:=λk=>by rw[a4d,size_zeroCells,CD]
 -- the ends of both kinds
 have Vh:∀(lW:Nat) (aGM:List bQ),aGM=A++B->c5 c (A++B) R w->lW<len+m->xs.length=len*gC->
  (∀Gi:World,Gi=w.drew.alloc (.cells (xs.toArray++rB.toArray++Builtin.zeroCells l0.cells (grownCap w (len+m) lW e-(len+m))) e)->
   next (a.put dst (.slice (some ⟨w.heap.size,0,none⟩) (len+m) (grownCap w (len+m) lW e))) Gi):=by
  intro lW aGM aLd I0 cM S8 Gi aAO;have To:=grownCap_ge w (len+m) lW e;have a9t:grownCap w (len+m) lW e<=maxLen:=grownCap_le_maxLen w (len+m) lW e BE;have U:=(I0.drew).alloc (xs.toArray++rB.toArray++Builtin.zeroCells l0.cells (grownCap w (len+m) lW e-(len+m))) e;rw[aAO];refine gK _ _ R _ ⟨w.heap.size,grownCap w (len+m) lW e,(Builtin.zeroCells l0.cells (grownCap w (len+m) lW e-(len+m))).toList,rfl,⟨?_,To,a9t,?_⟩,rfl,rfl⟩ ?_;·rw[hL,S8,IW,Gq]
  ·rw[hL,hL,S8,IW,Nr,<-Gq,<-Gq];congr 1;omega
  ·rw[aH];refine U.yN ?_;simp only[gT.L,World.size_drew,Array.toList_append,kF,mK,nJ];exact List.perm_middle.symm
 cases s with
 |nil=>
  obtain⟨rfl,rfl⟩:=bM;simp only[gT.L,rV]at b3;have O:=run_append_nil (P:=P) w T ty e hZ l0 cZ FX i3 iZ m Se rB (by rw[xW];exact IW) Ko a1 D (by rw[yH];simp only[K7]at MQ;omega);have I0:c5 c (A++B) R w:=by rw[<-b3];exact cW
  refine EZ (w':=_) (v:=_) (h:=?_) (k:=Vh 0 _ rfl I0 D eY _ rfl);rw[dH,K,bB];simp only[gT.val,s5,O,rD,D8,K7];simp
 |own g cap spare=>
  obtain⟨W5,Lp,Fu,M9⟩:=bM;have vR:(⟨g,xs++spare,e⟩:bQ)∈L:=by rw[b3];simp[gT.L]
  have aT:w.heap[g]?=some (.cells (xs++spare).toArray e (0,0)):=by obtain⟨⟨aD,bF,_⟩,_,_⟩:=cW;exact bF.own _ vR
  by_cases Li:len+m<=cap;·
   (have o6:len*hZ.size+rB.length<=(xs++spare).toArray.size:=by rw[xW,IW,a3N,M9,<-Gq];exact Wi _ Li);have O:=run_append_room (P:=P) w T ty e hZ cZ FX g len cap (xs++spare).toArray aT iZ m Se rB (by rw[xW];exact IW) Ko b3V Li o6;(have nU:(List.take (len*hZ.size) (xs++spare).toArray.toList++rB++List.drop (len*hZ.size+rB.length) (xs++spare).toArray.toList)=(xs++rB)++spare.drop rB.length:=by rw[xW,<-W5];simp only[List.take_left',kF];have bV:List.drop (xs.length+rB.length) xs=[]:=Wf D;(have U:xs.length+rB.length-xs.length=rB.length:=by omega);rw[aCg,bV,U,nJ]);rw[nU]at O;(have aAG:q0 g (xs++spare) e ((xs++rB)++spare.drop rB.length) L (f ((gT.own g cap (spare.drop rB.length)).L e (xs++rB))):=by rw[b3,aH];simp only[gT.L,kF,mK,nJ];exact .wJ .lK);refine EZ (w':=_) (v:=_) (h:=?_) (k:=gK (.slice (some ⟨g,0,none⟩) (len+m) cap) _ R _ ⟨g,cap,spare.drop rB.length,rfl,⟨?_,Li,Fu,?_⟩,rfl,rfl⟩ (cW.setRow aAG));·rw[dH,K,bB];simp only[gT.val,s5,O,rD,D8]
   ·rw[hL,W5,IW,Gq]
   ·rw[hL]at M9;have dV:(len+m)*gC<=cap*gC:=Wi _ Li;rw[Gq,<-W5,<-IW]at dV;simp only[hL,F8];omega
  ·(have holds:∀j v,xs[j]?=some v->w.cell? ((⟨g,0,none⟩:Addr).add j)=some v:=λj v a6=>by exact aPr);have O:=run_append_grow (P:=P) w T ty e hZ l0 cZ FX i3 ⟨g,0,none⟩ len cap xs (by rw[xW];exact W5) holds iZ m Se rB (by rw[xW];exact IW) Ko D D (growslice_fits D (by rw[yH];exact MQ));(have I0:c5 c (A++B) R w:=by exact aPp);refine EZ (w':=_) (v:=_) (h:=?_) (k:=Vh cap _ rfl I0 D W5 _ rfl);rw[dH,K,bB];simp only[gT.val,s5,O,rD,D8]
end
def c5.a1P{c:sH}{L:List bQ}{R:List eT}{w:World}{b:Nat}{cs:List Value}{T:TypeId}{aI len cap:Nat}{rows:List (List Value)}{eE:List eT}(h:c5 c (⟨b,cs,T⟩::L) R w)
 (aZ:rows.length=len) (bU:len<=cap) (a1:cap<9223372036854775808) (cE:∀r∈rows,r.length=aI) (aG:0<aI) (nU:cs.take (len*aI)=rows.flatten) (mA:∀s∈eE,aN s R):
 c5 c L (.mk aI (some ⟨b,0,none⟩) len cap rows eE::R) w:=by
 obtain⟨⟨aD,bF,bE⟩,cM,Y⟩:=h;have aT:=bF.own ⟨b,cs,T⟩ eY;have xT:=bF.lC;simp only[pV,P9]at xT;have up:∀s,p2 w aD s->p2 w (λx=>aD x\/x=b) s:=λs aF=>aF.mono (λ_ h=>.inl h) (λ_ _=>rfl);have jT:b<w.heap.size:=bF.lt (e:=⟨b,cs,T⟩) eY;refine⟨⟨λx=>aD x\/x=b,⟨xT.2,λe V=>bF.own e (by simp[V]),λe V K=>?_,λx K=>?_,λr O=>?_⟩,λx K=>?_⟩,λe V=>cM e (by simp[V]),Y⟩;·
  rcases K with K|K;·exact bF.pT e (by simp[V]) K
  ·exact xT.1 (List.mem_map.2 ⟨e,V,K⟩)
 ·
  rcases K with K|rfl;·exact bF.nT x K
  ·exact jT
 ·
  rcases List.mem_cons.1 O with rfl|O;·
   refine .mk aZ bU a1 cE ?_ (λs aF=> ?_);·refine .inr ⟨b,0,rfl,.inr rfl,λi j aB a6=> ?_⟩;(have G:w.cell? ⟨b,0+i*aI+j,none⟩=cs[i*aI+j]?:=by simp only[QI.FZ]at aT;simp[World.cell?,aT]);rw[G];(have U:i*aI+j<len*aI:=by have:(i+1)*aI<=len*aI:=Wi _ aB;rw[K2]at this;omega);(have aO:cs[i*aI+j]?=rows.flatten[i*aI+j]?:=by rw[<-nU,XV,if_pos U]);rw[aO,a5C rows cE _ aG];(have VN:(i*aI+j)/aI=i:=by rw[a4a,Nat.mul_add_div aG,Nat.div_eq_of_lt a6,Nat.add_zero]);(have Si:(i*aI+j)%aI=j:=by rw[a4a,Nat.mul_add_mod,Wq a6]);rw[VN,Si]
   ·obtain⟨r,O,M2⟩:=mA s aF;exact up _ ((bF.nH r O).sub M2)
  ·exact up _ (bF.nH r O)
 ·
  rcases K with K|rfl;·exact bE x K
  ·
   rcases cM ⟨x,cs,T⟩ eY with h|h;·exact .inr (.inr h)
   ·exact .inr (.inl h)
def J2{P:Program}{n:Nat}{all:Array Oper}{ops:List Oper}{t:Nat->Value}{L:List bQ}{R:List eT}{Q:fR}{b:Nat}{cs:List Value}{T:TypeId}{aI len cap:Nat}{rows:List (List Value)}{eE:List eT}
 (aZ:rows.length=len) (bU:len<=cap) (a1:cap<9223372036854775808) (cE:∀r∈rows,r.length=aI) (aG:0<aI) (nU:cs.take (len*aI)=rows.flatten) (mA:∀s∈eE,aN s R)
 (h:dG P n all ops t L (.mk aI (some ⟨b,0,none⟩) len cap rows eE::R) Q):dG P n all ops t (⟨b,cs,T⟩::L) R Q:=
 λc a w aH aF=>h c a w aH (aF.a1P aZ bU a1 cE aG nU mA)
def aFF{P:Program}{n:Nat}{code:Code}{t:Nat->Value}{L E:List bQ}{R:List eT}{Q:fR}(aG:L.Perm E)(h:cO P n code t E R Q):cO P n code t L R Q:=
 λc a w aH aF=>h c a w aH (aF.yN aG)
def sN{P:Program}{n:Nat}{code:Code}{t:Nat->Value}{L E:List bQ}{R R':List eT}{Q:fR}(b3:E.Sublist L)(b8:∀r∈R',aN r R)(h:cO P n code t E R' Q):cO P n code t L R Q:=
 λc a w aH aF=>h c a w aH (aF.rU b3 b8)
def VG(dL:List Nat)(cQ gA:List bQ)(d:Option Tmp):List bQ:=match d with
 |some d=>bif dL.contains d then gA else cQ
 |none=>gA
def CU(dL:List Nat)(ops:Array Oper)(k:Nat):Bool:=match(ops[k]?).bind (·.dst)with
 |some d=>dL.contains d
 |none=>true
def aI9{dL:List Nat}{cQ gA:List bQ}{ops:Array Oper}{i:Nat}{o:Oper}(oB:ops[i]?=some o):VG dL cQ gA o.dst=if CU dL ops i=true then gA else cQ:=by
 have h:CU dL ops i=(match o.dst with|some d=>dL.contains d|none=>true):=by unfold CU;rw[oB];rfl
 rw[h];obtain⟨d,op,ty,pos,b7N,g⟩:=o;cases d with
 |none=>rfl
 |some d=>
  simp only[VG];by_cases bU:dL.contains d=true;·rw[if_pos bU,bU];rfl
  ·rw[if_neg bU,Bool.eq_false_iff.2 bU];rfl
def x5(P:Program)(M:nN P)(n:Nat)(all:Array Oper)(dL:List Nat)(cQ gA:List bQ)(fH:fR):List Oper->(Nat->Value)->List bQ->List eT->Prop
 |[],t,L,R=>fH .normal t L R
 |o::aC,t,L,R=>SF n o.dst=true/\
  ((n9 all t o.guard=false/\k1 o.op≠1/\x5 P M n all dL cQ gA fH aC (w9 t o.dst undef) L R)\/
   (n9 all t o.guard=true/\k1 o.op=0/\∃v,cI P o (iL t) (VG dL cQ gA o.dst) R v/\x5 P M n all dL cQ gA fH aC (w9 t o.dst v) L R)\/
   (k1 o.op=1/\∃T,o.op=.alloc T/\∀b,x5 P M n all dL cQ gA fH aC (w9 t o.dst (.pointer (some ⟨b,0,none⟩))) (⟨b,TU M T,T⟩::L) R)\/
   (n9 all t o.guard=true/\k1 o.op=2/\∃Post,dR P o (iL t) L R Post/\∀v E R',Post v E R'->cQ.Sublist E/\(∀r∈R,aN r R')/\x5 P M n all dL cQ gA fH aC (w9 t o.dst v) E R'))
def a06(ops:Array Oper)(i:Nat)(oK:List Nat)(k:Nat):Bool:=Nat.beq k i||(match ops[k]? with
 |some o=>o.after.any λe=>Region.binds .any e && oK.contains e.on
 |none=>false)
def On(ops:Array Oper)(i:Nat)(iK:List Nat):List Nat:=iK.foldl (λoK k=>bif a06 ops i oK k then k::oK else oK) []
def Rr(n:Nat)(hF:List Nat)(oK:List Nat):Array Bool:=(Array.range n).map λi=>hF.contains i && !oK.contains i
def HV(ops:Array Oper)(dB:Array Bool):Prop:=∀j lD,ops[j]?=some lD->dB.getD j true=true->∀e∈lD.after,Region.binds .any e=true->dB.getD e.on false=true
def HV.set{ops:Array Oper}{dB:Array Bool}(h:HV ops dB){j:Nat}(a6:j∈Region.ready .any ops dB):HV ops (dB.setIfInBounds j true):=by
 intro k ok Y aZ e V aT;by_cases DQ:j=k;·subst DQ;obtain⟨_,o,cM,pS⟩:=mem_ready.1 a6;obtain rfl:o=ok:=uA (cM.symm.trans Y);exact getD_set_true (pS e V aT)
 ·rw[getD_set_ne true DQ]at aZ;exact getD_set_true (h k ok Y aZ e V aT)
def HV.zero{ops:Array Oper}:HV ops (Array.replicate ops.size false):=by intro j lD a6 aZ;have:j<ops.size:=(Array.getElem?_eq_some_iff.1 a6).1;simp[this]at aZ
def aUO{ops:Array Oper}{i:Nat}{dB:Array Bool}(bU:HV ops dB)(aB:dB.getD i true=false)(iK:List Nat):∀k∈On ops i iK,dB.getD k true=false:=by
 have key:∀(iK oK:List Nat),(∀k∈oK,dB.getD k true=false)->∀k∈iK.foldl (λoK k=>bif a06 ops i oK k then k::oK else oK) oK,dB.getD k true=false:=by
  intro iK;induction iK with
  |nil=>intro oK h;exact h
  |cons x iK cA=>
   intro oK h;rw[Wc];refine cA _ ?_;cases K:a06 ops i oK x with
   |false=>rw[cond_false];exact h
   |true=>
    rw[cond_true];intro k Y;rcases List.mem_cons.1 Y with rfl|Y;·
     simp only[a06,Wd,Av]at K;rcases K with rfl|K;·exact aB
     ·
      cases cM:ops[k]? with
      |none=>rw[cM]at K;cases K
      |some o=>
       rw[cM]at K;obtain⟨e,V,K⟩:=Array.any_eq_true'.1 K;simp only[lY]at K;cases aZ:dB.getD k true with
       |false=>rfl
       |true=>
        have G:=bU k o cM aZ e V K.1;have U:=h e.on (by simpa using K.2);rcases gX e.on dB.size with cD|cD;·simp[cD]at G U;rw[G]at U;cases U
        ·simp[NL cD]at G
    ·exact h k Y
 exact key iK [] (λk Y=>by cases Y)
def QE(dL:List Nat)(ops:Array Oper)(hF dQ:List Nat):Bool:=
 (dQ.all λk=>!Nat.beq (tI ops k) 1 && !hF.contains k) &&
 (hF.all λk=>Nat.blt k ops.size && (!Nat.beq (tI ops k) 0||CU dL ops k||(Region.ready .any ops (Rr ops.size hF (On ops k hF))).all λj=>!dQ.contains j)) &&
 ((List.range ops.size).all λk=>hF.contains k||dQ.contains k)
section
variable{P:Program}{ops:Array Oper}{dL:List Nat}{Q:Exit->Act->World->Prop}{S eF:World->Prop}{hF dQ:List Nat}
def aWe(h:QE dL ops hF dQ=true){k:Nat}(Y:k∈dQ):tI ops k≠1:=by simp only[QE,lY]at h;have:=List.all_eq_true.1 h.1.1 k Y;simp only[lY]at this;intro e;rw[e]at this;exact absurd this.1 aX
def Ia(h:QE dL ops hF dQ=true){k:Nat}(Y:k∈dQ):k∉hF:=by simp only[QE,lY]at h;have:=List.all_eq_true.1 h.1.1 k Y;simp only[lY,Gt]at this;intro a1;rw[List.contains_iff_mem.2 a1]at this;cases this.2
def aR0(h:QE dL ops hF dQ=true){i:Nat}(aB:i∈hF)(Y:tI ops i=0)(aG:CU dL ops i=false){dB:Array Bool}(jO:HV ops dB)(A0:dB.size=ops.size)(DK: ∀k∈dQ,dB.getD k true=false)(aZ:dB.getD i true=false)
 {j:Nat} (a6:j∈Region.ready .any ops dB):j∉dQ:=by
 simp only[QE,lY]at h;obtain⟨⟨_,G⟩,B7⟩:=h;have U:=List.all_eq_true.1 G i aB;simp only[Y,aG,lY]at U;have aO:((Region.ready .any ops (Rr ops.size hF (On ops i hF))).all λj=>!dQ.contains j)=true:=by have bW:=U.2;rw[show Nat.beq 0 0=true from rfl]at bW;simpa using bW
 intro MW;obtain⟨bV,o,cM,pS⟩:=mem_ready.1 a6;have Es:j<ops.size:=(Array.getElem?_eq_some_iff.1 cM).1;have a2u:j∉hF:=Ia (by simp only[QE,lY];exact⟨⟨by assumption,G⟩,B7⟩) MW;have:j∈Region.ready .any ops (Rr ops.size hF (On ops i hF)):=by
  refine mem_ready.2 ⟨by simp[Rr,Es,a2u],o,cM,λe V aT=>?_⟩;have dV:=pS e V aT;have jT:e.on<ops.size:=by
   rcases gX e.on dB.size with cD|cD;·rw[A0]at cD;exact cD
   ·simp[NL cD]at dV
  have gY:dB.getD e.on true=true:=by(have:e.on<dB.size:=by rw[A0];exact jT);simp[this]at dV|-;exact dV
  have jQ:e.on∈hF:=by
   have j1:=List.all_eq_true.1 B7 e.on (List.mem_range.2 jT);simp only[Wd,List.contains_iff_mem]at j1;rcases j1 with h|h;·exact h
   ·rw[DK _ h]at gY;cases gY
  have jC:e.on∉On ops i hF:=λV=>by rw[aUO jO aZ hF _ V]at gY;cases gY
  simp[Rr,jT,jQ,jC]
 have:=List.all_eq_true.1 aO j this;rw[List.contains_iff_mem.2 MW]at this;cases this
def F7(P:Program)(ops:Array Oper)(Q:Exit->Act->World->Prop)(S eF:World->Prop)(dQ:List Nat):Nat->Array Bool->Act->World->Prop
 |0,dB,a,w=>Region.ready .any ops dB=[]/\Q .normal a w
 |hK+1,dB,a,w=>(Region.ready .any ops dB=[]->Q .normal a w)/\
  ∀i∈Region.ready .any ops dB,wpOp P ops Q i (λeP w'=>(eF w'/\(dQ.any (λk=>(dB.setIfInBounds i true).getD k false)=true\/S w'))/\F7 P ops Q S eF dQ hK (dB.setIfInBounds i true) eP w') a w
def a7F: ∀(hK:Nat) (dB:Array Bool) (a:Act) (w:World),F7 P ops Q S eF dQ hK dB a w->wpAny P .any ops Q hK dB a w
 |0,_,_,_,h=>h
 |hK+1,_,_,_,h=>⟨h.1,λi aB=>wpOp_mono (λeP w' cD=>a7F hK _ eP w' cD.2) (h.2 i aB)⟩
def Ov{hK:Nat}{dB:Array Bool}{a:Act}{w:World}(jC:Region.ready .any ops dB≠[])
 (h:∀i∈Region.ready .any ops dB,wpOp P ops Q i (λeP w'=>(eF w'/\(dQ.any (λk=>(dB.setIfInBounds i true).getD k false)=true\/S w'))/\F7 P ops Q S eF dQ hK (dB.setIfInBounds i true) eP w') a w):F7 P ops Q S eF dQ (hK+1) dB a w:=
 ⟨λbV=>absurd bV jC,h⟩
def a42{YV Zl:World->Prop}(fL: ∀w,YV w->S w)(DM: ∀w,Zl w->eF w): ∀(f:Nat) (l:Array Bool) (a:Act) (w:World),F7 P ops Q YV Zl dQ f l a w->F7 P ops Q S eF dQ f l a w
 |0,_,_,_,h=>h
 |f+1,_,_,_,h=>⟨h.1,λi aB=>wpOp_mono (λeP w' cD=>⟨⟨DM _ cD.1.1,cD.1.2.imp id (fL _)⟩,a42 fL DM f _ eP w' cD.2⟩) (h.2 i aB)⟩
def a4R{dB:Array Bool}(h:∀k∈dQ,dB.getD k true=false):dQ.any (λk=>dB.getD k false)=false:=by
 cases aT:dQ.any (λk=>dB.getD k false)with
 |false=>rfl
 |true=>
  obtain⟨k,Y,aZ⟩:=List.any_eq_true.1 aT;have:=h k Y;rcases gX k dB.size with cD|cD;·simp[cD]at this aZ;rw[this]at aZ;cases aZ
  ·simp[NL cD]at aZ
def aD8{i:Nat}{I2:Oper}{v:Value}(dI:QE dL ops hF dQ=true)(FR:i∈hF)(SW:tI ops i=0)(aB:ops[i]? =some I2)(HG: ∀(j:Nat) (o:Oper) cs b,ops[j]? =some o->o.op≠ .select cs b)
 (G3: ∀c a w,Q (.panic c) (a.put I2.dst v) w->Q (.panic c) a w) (hK:Nat) (dB:Array Bool) (a:Act) (w:World) (jO:HV ops dB) (A0:dB.size=ops.size) (DK: ∀k∈dQ,dB.getD k true=false)
  (IR:∀j lD,ops[j]?=some lD->j≠i->dB.getD j true=false->(∀e∈lD.after,Region.binds .any e=true->e.on≠i)->I2.apart ops lD=true)
  (O:i∈Region.ready .any ops dB) (bB:YieldsIf P ops (if CU dL ops i=true then eF else S) I2 v a) (fL:S w) (aLo:∀w,S w->eF w)
  (H:F7 P ops Q S eF dQ hK (dB.setIfInBounds i true) (a.put I2.dst v) w):F7 P ops Q S eF dQ (hK+1) dB a w:=by
 -- what holds of it for as long as it has not come up
 let BV:World->Prop:=if CU dL ops i=true then eF else S;have b5j:YieldsIf P ops BV I2 v a:=bB;have aLw:∀w,S w->BV w:=by
  intro w cE;show(if CU dL ops i=true then eF else S) w;split;·exact aLo w cE
  ·exact cE
 have b1D:CU dL ops i=true->∀w,eF w->BV w:=by intro aG w cE;show(if CU dL ops i=true then eF else S) w;rw[if_pos aG];exact cE
 have DT:CU dL ops i=false->∀dB:Array Bool,HV ops dB->dB.size=ops.size->(∀k∈dQ,dB.getD k true=false)->dB.getD i true=false->∀j∈Region.ready .any ops dB,j∉dQ:=λaG dB jO A0 DK aZ j a6=>
  aR0 dI FR SW aG jO A0 DK aZ a6
 have PN:i∉dQ:=λh=>Ia dI h FR;clear dI bB
 -- along all orders
 have b5T:∀(hK:Nat) (dB:Array Bool) (a:Act) (w:World),HV ops dB->dB.size=ops.size->(CU dL ops i=false->∀k∈dQ,dB.getD k true=false)->
  (∀j lD,ops[j]?=some lD->j≠i->dB.getD j true=false->(∀e∈lD.after,Region.binds .any e=true->e.on≠i)->I2.apart ops lD=true)->
  i∈Region.ready .any ops dB->YieldsIf P ops BV I2 v a->BV w->eF w->(dQ.any (λk=>dB.getD k false)=true\/S w)->
  F7 P ops Q S eF dQ hK (dB.setIfInBounds i true) (a.put I2.dst v) w->F7 P ops Q S eF dQ (hK+1) dB a w:=by
  intro hK;induction hK with
  |zero=>
   intro dB a w _ A0 DK _ O bB AX DM fL H;refine Ov (Gp O) λj a6=>?_;by_cases MX:j=i;·exact aOF
   ·have:=ready_mono a6 MX;rw[H.1]at this;cases this
  |succ hK cA=>
   intro dB a w jO A0 DK IR O bB AX DM fL H;refine Ov (Gp O) λj a6=>?_;by_cases MX:j=i;·exact aOF
   ·
    have G:=H.2 j (ready_mono a6 MX);obtain⟨aMa,lD,IX,pS⟩:=mem_ready.1 a6;have b3o:∀e∈lD.after,Region.binds .any e=true->e.on≠i:=λe V aT IQ=>by
     have G:=pS e V aT;have bV:=(mem_ready.1 O).1;rw[IQ]at G;rcases gX i dB.size with cD|cD;·simp[cD]at bV G;rw[bV]at G;cases G
     ·simp[NL cD]at G
    have b2E:∀k ok,ops[k]?=some ok->k≠i->(dB.setIfInBounds j true).getD k true=false->(∀e∈ok.after,Region.binds .any e=true->e.on≠i)->I2.apart ops ok=true:=by
     intro k ok Y jC aZ A2;refine IR k ok Y jC ?_ A2;by_cases aL9:j=k;·subst aL9;exact aMa
     ·rwa[getD_set_ne true aL9]at aZ
    (have b28:(dB.setIfInBounds j true).size=ops.size:=by simp[A0]);(have aLc:CU dL ops i=false->∀k∈dQ,(dB.setIfInBounds j true).getD k true=false:=λaG k Y=>by have MW:=DT aG dB jO A0 (DK aG) (mem_ready.1 O).1 j a6;rw[getD_set_ne true (show¬j=k from λe=>MW (e▸Y))];exact DK aG k Y);have U:=wpOp_putIf IX (IR j lD IX MX aMa b3o) (λcs b=>HG i I2 cs b aB) (λcs b=>HG j lD cs b IX) G3 bB G;(have hX:∀{l:Array Bool},dQ.any (λk=>(l.setIfInBounds i true).getD k false)=true->dQ.any (λk=>l.getD k false)=true:=by intro l h;obtain⟨k,Y,aZ⟩:=List.any_eq_true.1 h;refine List.any_eq_true.2 ⟨k,Y,?_⟩;rwa[getD_set_ne false (show¬i=k from λe=>PN (e▸Y))]at aZ);refine wpOp_mono (λeP w' aO=>?_) U;obtain⟨Uw,⟨dE,bU⟩,aML⟩:=aO;have b19:(dB.setIfInBounds i true).setIfInBounds j true=(dB.setIfInBounds j true).setIfInBounds i true:=by
     first
      |exact Array.setIfInBounds_comm _ _ MX
      |exact Array.setIfInBounds_comm _ _ (XT MX)
    rw[b19]at aML bU;have ZS:dQ.any (λk=>(dB.setIfInBounds j true).getD k false)=true\/S w':=bU.imp (λh=>hX h) id;have b1B:BV w':=by
     cases aG:CU dL ops i with
     |true=>exact b1D aG w' dE
     |false=>exact aLw w' (ZS.resolve_left (by rw[a4R (aLc aG)];decide))
    exact⟨⟨dE,ZS⟩,cA (dB.setIfInBounds j true) eP w' (jO.set a6) b28 aLc b2E (ready_mono O (XT MX)) Uw b1B dE ZS aML⟩
 exact b5T hK dB a w jO A0 (λ_=>DK) IR O b5j (aLw w fL) (aLo w fL) (.inr fL) H
end
section
variable{P:Program}{M:nN P}{n:Nat}{ops:Array Oper}{c:sH}{cQ:List bQ}{fH:fR}
def aFY{Q:Exit->Act->World->Prop}{S eF:World->Prop}{dQ:List Nat}:∀(hK:Nat) (dB:Array Bool) (a:Act) (w:World),dB.size=ops.size->(∀k,k<ops.size->k∉dQ->dB.getD k true=true)->
 wpAnyH P .any ops Q eF hK dB a w->F7 P ops Q S eF dQ hK dB a w
 |0,_,_,_,_,_,h=>h
 |hK+1,dB,_,_,A0,pS,h=>⟨h.1,λi aB=>by
  obtain⟨bV,o,cM,_⟩:=mem_ready.1 aB
  have Eo:i<ops.size:=(Array.getElem?_eq_some_iff.1 cM).1
  have PN:i∈dQ:=by
   rcases BC (i∈dQ)with h|h
   ·exact h
   ·rw[pS i Eo h]at bV;cases bV
  refine wpOp_mono (λeP w' cD=>⟨⟨cD.1,.inl (List.any_eq_true.2 ⟨i,PN,UO (by rw[A0];exact Eo) false⟩)⟩,aFY hK _ eP w' (by simp[A0]) (λk Y bA=>?_) cD.2⟩) (h.2 i aB)
  by_cases Tr:i=k
  ·subst Tr;exact UO (by rw[A0];exact Eo) true
  ·rw[getD_set_ne true Tr];exact pS k Y bA⟩
def aKl{YT:fR}{dQ:List Nat}{gA:List bQ}{S:World->Prop}(HG:Region.noSelect ops=true)(jX:Db M n ops=true){os:List Oper}{hK:Nat}{done dB:Array Bool}{t:Nat->Value}{L:List bQ}{R:List eT}{a:Act}{w:World}
 (sV:dQ.map (ops[·]?)=os.map some) (dC:JT ops done dQ=true) (c6:T4 M n ops done dB []) (p9:done.size=ops.size) (FQ:dQ.length<=hK) (B7:∀i,i<ops.size->done.getD i true=false->i∈dQ) (lB:mD n (A5 t []) a) (cW:c5 c (UP M []++L) R w) (AV:gA.Sublist L)
 (xQ:dP P M n ops gA YT os t L R):F7 P ops (EN n c YT) S (c5 c gA R) dQ hK dB a w:=by
 refine aFY hK dB a w (by rw[c6.size,p9]) (λk Y bA=>?_) ?_;·
  cases a7:done.getD k true with
  |true=>exact(c6.dB k true).2 (.inl a7)
  |false=>exact absurd (B7 k Y a7) bA
 ·exact aFk HG jX (hK+dQ.length) hK dQ os done dB [] t L R a w (gS _) (by simpa using FQ) sV dC c6 (λe V=>by cases V) p9 B7 lB cW AV xQ
def aUV{YT:fR}{Ls:List Oper}{dL hF dQ:List Nat}{gA:List bQ}(AV:gA.Sublist cQ)(dI:QE dL ops hF dQ=true)(b3W:dQ.map (ops[·]?)=Ls.map some)(fF:fH=λ_ t L R=>dP P M n ops gA YT Ls t L R)(HG:Region.noSelect ops=true)(jX:Db M n ops=true):∀(m hK:Nat) (iK:List Nat) (os:List Oper) (done dB:Array Bool) (gE:List GA) (t:Nat->Value) (L:List bQ) (R:List eT) (a:Act) (w:World),
 hK+iK.length<=m->iK.length+dQ.length<=hK+gE.length->iK.map (ops[·]?)=os.map some->JT ops done (iK++dQ)=true->(∀k∈iK,k∈hF)->(∀k∈dQ,done.getD k true=false)->HV ops dB->T4 M n ops done dB gE->(∀e∈gE,e.i∈iK)->done.size=ops.size->
 (∀i,i<ops.size->done.getD i true=false->i∈iK\/i∈dQ)->
 mD n (A5 t gE) a->c5 c (UP M gE++L) R w->cQ.Sublist L->x5 P M n ops dL cQ gA fH os t L R->F7 P ops (EN n c YT) (c5 c cQ R) (c5 c gA R) dQ hK dB a w:=by
 intro m;induction m with
 |zero=>
  intro hK iK os done dB gE t L R a w a1 FQ sV dC n3 a2f jO c6 O5 p9 B7 lB cW o4 xQ;obtain rfl:iK=[]:=by cases iK with|nil=>rfl|cons x l=>simp at a1
  exact aO6
 |succ m cA=>
  intro hK iK os done dB gE t L R a w a1 FQ sV dC n3 a2f jO c6 O5 p9 B7 lB cW o4 xQ;have fL:c5 c cQ R w:=cW.rU (o4.trans (XR _ _)) (λr O=>⟨r,O,.lK⟩);have A0:dB.size=ops.size:=by rw[c6.size,p9]
  have DK:∀k∈dQ,dB.getD k true=false:=by
   intro k Y;cases aZ:dB.getD k true with
   |false=>rfl
   |true=>
    rcases(c6.dB k true).1 aZ with h|⟨e,V,aB⟩;·rw[a2f k Y]at h;cases h
    ·exact absurd (n3 _ (O5 e V)) (by rw[aB];exact Ia dI Y)
  -- a making of a variable that comes up early
  have early:∀(f:Nat),hK=f+1->∀j,j∈Region.ready .any ops dB->tI ops j=1->
   wpOp P ops (EN n c YT) j (λeP w'=>(c5 c gA R w'/\(dQ.any (λk=>(dB.setIfInBounds j true).getD k false)=true\/c5 c cQ R w'))/\F7 P ops (EN n c YT) (c5 c cQ R) (c5 c gA R) dQ f (dB.setIfInBounds j true) eP w') a w:=by
   intro f aH j a6 DQ;obtain⟨bV,lD,IX,pS⟩:=mem_ready.1 a6;(have a9N:k1 lD.op=1:=by simpa[tI,IX]using DQ);obtain⟨T,dF⟩:=aFI a9N;obtain⟨bE,⟨hZ,Ur⟩,⟨d,a7,ZT,aL1⟩,IR⟩:=a7b jX IX dF;obtain⟨l0,WW,DT⟩:=Oh (M.ok _ _ Ur) w;have a2t:done.getD j true=false:=by
    cases a7:done.getD j true with
    |false=>rfl
    |true=>rw[(c6.dB j true).2 (.inl a7)]at bV;cases bV
   (have a9H:∀e∈gE,e.i≠j:=λe V aB=>by rw[(c6.dB j true).2 (.inr ⟨e,V,aB⟩)]at bV;cases bV);(have aAZ:l0.cells.toList=TU M T:=by rw[DT];simp[TU,Ur]);(have pL:c5 c (UP M (⟨j,d,w.heap.size,T⟩::gE)++L) R (w.alloc (.cells l0.cells T)):=by have:=cW.alloc l0.cells T;rw[aAZ]at this;exact this);unfold wpOp;simp only[IX];rw[lB.wanted,bE];simp only[n9,if_true];refine .inl ?_;(have WQ:(execOp a.eval lD).run P w=.ok (.value (.pointer (some ⟨w.heap.size,0,none⟩))) (w.alloc (.cells l0.cells T)):=by exact aPc);unfold Oper.wp;rw[WQ];refine⟨⟨pL.rU ((AV.trans o4).trans (XR _ _)) (λr O=>⟨r,O,.lK⟩),.inr (pL.rU (o4.trans (XR _ _)) (λr O=>⟨r,O,.lK⟩))⟩,?_⟩;have Es:j<ops.size:=(Array.getElem?_eq_some_iff.1 IX).1;(have a9I:j<dB.size:=by rw[c6.size,p9];exact Es);have a2u:j∈iK:=(B7 j Es a2t).resolve_right λh=>aWe dI h DQ;refine cA f iK os done _ (⟨j,d,w.heap.size,T⟩::gE) t L R _ _ D (by simp only[kL];omega) sV dC n3 a2f (jO.set a6) ?_ ?_ p9 B7 ?_ pL o4 xQ;·exact aOQ
   ·exact aPn
   ·exact aOJ
  cases iK with
  |nil=>exact aO6
  |cons i aC=>
   cases os with
   |nil=>simp at sV
   |cons o os=>
    simp only[pV,a3Y]at sV;obtain⟨oB,sV⟩:=sV;simp only[mK,JT,lY]at dC;obtain⟨⟨Ep,MY⟩,WI⟩:=dC;(have Ep:i∈Region.ready .any ops done:=by simpa using Ep);obtain⟨Tq,o',Ex,WL⟩:=mem_ready.1 Ep;obtain rfl:o'=o:=uA (Ex.symm.trans oB);have Eo:i<ops.size:=(Array.getElem?_eq_some_iff.1 oB).1;(have SV:i<done.size:=by rw[p9];exact Eo);(have SX:tI ops i=k1 o'.op:=by simp[tI,oB]);have V3:∀k,k<ops.size->(done.setIfInBounds i true).getD k true=false->k∈aC\/k∈dQ:=by
     intro k Y a7;by_cases Ew:i=k;·subst Ew;rw[UO SV]at a7;cases a7
     ·
      rw[getD_set_ne true Ew]at a7;rcases B7 k Y a7 with h|h;·
       rcases List.mem_cons.1 h with h|h;·exact absurd h.symm Ew
       ·exact .inl h
      ·exact .inr h
    have a2I:∀k∈aC,k∈hF:=λk Y=>n3 k (K6 _ Y);have FR:i∈hF:=n3 i eY;(have a2g:∀k∈dQ,(done.setIfInBounds i true).getD k true=false:=λk Y=>by rw[getD_set_ne true (show¬i=k from λe=>Ia dI Y (e▸FR))];exact a2f k Y);(have V5:(done.setIfInBounds i true).size=ops.size:=by simp[p9]);(have b2l:∀k,done.getD k true=true->∀d,dB.getD k d=true\/k>=done.size:=by exact aOL);obtain⟨a7,xQ⟩:=xQ
    -- if the operation is no making of a variable, it has not come up, and is apart from the early ones
    (have M6:k1 o'.op≠1->∀e∈gE,e.i≠i:=by exact aOp);(have Sg:k1 o'.op≠1->gE.length<=aC.length:=by exact aOx);have S3:k1 o'.op≠1->i∈Region.ready .any ops dB:=by
     intro Y;refine mem_ready.2 ⟨?_,o',oB,λe V aT=>(c6.dB _ _).2 (.inl (WL e V aT))⟩;cases aZ:dB.getD i true with
     |false=>rfl
     |true=>exact aOq
    have apart:k1 o'.op≠1->∀e∈gE,e.d∉o'.looksAt ops/\o'.dst≠some e.d:=λY=>aD5 jX c6 oB (M6 Y) WL;(have Dm:k1 o'.op≠1->∀e∈gE,e.i∈aC:=λY e V=>by exact aPg);(have frame:k1 o'.op≠1->∀v,mD n (A5 (w9 t o'.dst v) gE) (a.put o'.dst v):=λY v=>by rw[<-a1x (λe V=>(apart Y e V).2)];exact lB.put a7 v);(have Ff:k1 o'.op≠1->Region.wanted o' (yielded ops a.tmps)=n9 ops t o'.guard:=λY=>by rw[lB.wanted,aDH (λe V=>(apart Y e V).1)]);(have SS:k1 o'.op≠1->execOp a.eval o'=execOp (iL t) o':=λY=>by exact aPd);rcases aHy o'.op with Y|Y|Y;·
     -- it leaves the world alone
     (have g6:k1 o'.op≠1:=by rw[Y];decide);have sU:=Sg g6;obtain⟨f,rfl⟩:∃f,hK=f+1:=⟨hK-1,by simp only[kL]at FQ;omega⟩;rw[SX,Y]at MY;have IR:∀j lD,ops[j]?=some lD->j≠i->dB.getD j true=false->(∀e∈lD.after,Region.binds .any e=true->e.on≠i)->o'.apart ops lD=true:=by
      intro j lD a6 jC aZ A2;refine a3Q oB MY j lD a6 jC ?_ A2;cases a7:done.getD j true with
      |false=>rfl
      |true=>rw[(c6.dB j true).2 (.inl a7)]at aZ;cases aZ
     have aMg:=aI9 (dL:=dL) (cQ:=cQ) (gA:=gA) oB;(have a9i:∀w',(if CU dL ops i=true then c5 c gA R else c5 c cQ R) w'->c5 c (VG dL cQ gA o'.dst) R w':=by exact aPa);(have go:∀v,YieldsIf P ops (if CU dL ops i=true then c5 c gA R else c5 c cQ R) o' v a->x5 P M n ops dL cQ gA fH os (w9 t o'.dst v) L R->F7 P ops (EN n c YT) (c5 c cQ R) (c5 c gA R) dQ (f+1) dB a w:=by intro v bB wQ;refine aD8 dI FR (by rw[SX];exact Y) oB (a3X HG) (λ_ _ _ h=>h.1.elim) f dB a w jO A0 DK IR (S3 g6) bB fL (λw cE=>cE.rU AV (λr O=>⟨r,O,.lK⟩)) ?_;exact cA f aC os _ _ gE _ L R _ w Bd Nk sV WI a2I a2g (jO.set (S3 g6)) (c6.step (M6 g6) SV) (Dm g6) V5 V3 (frame g6 v) cW o4 wQ);rcases xQ with⟨cE,_,wQ⟩|⟨cE,_,v,cS,wQ⟩|⟨G,_⟩|⟨_,U,_⟩;·exact go undef (.inr ⟨by rw[Ff g6];exact cE,rfl⟩) wQ
     ·exact go v (.inl ⟨by rw[Ff g6];exact cE,λw' PP=>by rw[SS g6];exact cS c w' (a9i w' PP)⟩) wQ
     ·exact absurd G g6
     ·rw[Y]at U;cases U
    ·
     -- it makes a variable
     rw[SX,Y]at MY;rcases xQ with⟨_,G,_⟩|⟨_,U,_⟩|⟨_,T,dF,wQ⟩|⟨_,U,_⟩;·exact absurd Y G
     ·rw[Y]at U;cases U
     ·
      by_cases jQ: ∃e∈gE,e.i=i;·
       -- it has come up early
       obtain⟨e,V,Ei⟩:=jQ;obtain⟨Aj,G,U,aO,bW⟩:=c6.op e V;rw[Ei]at G;obtain rfl:Aj=o':=uA (G.symm.trans oB);(obtain rfl:e.T=T:=by rw[U]at dF;exact Op.alloc.inj dF);obtain⟨HW,F9,rfl⟩:=List.append_of_mem V;(have vR:∀x∈HW++F9,x∈HW++e::F9:=λx K=>by exact aPq);(have a9Z:∀x∈HW++F9,x.i≠i:=by exact aOw);refine cA hK aC os _ dB (HW++F9) _ _ R a w Bd aQn sV WI a2I a2g jO ?_ ?_ V5 V3 ?_ ?_ (o4.cons _) (wQ e.b);·exact aOP
       ·exact aPb
       ·rw[aO];have:=a50 (t:=t) c6.Vg;rw[this]at lB;exact lB
       ·exact aOo
      ·
       -- it has not: whatever comes up now makes a variable
       have a2r:∀e∈gE,e.i≠i:=λe V aB=>jQ ⟨e,V,aB⟩;have S4:i∈Region.ready .any ops dB:=by
        refine mem_ready.2 ⟨?_,o',oB,λe V aT=>(c6.dB _ _).2 (.inl (WL e V aT))⟩;cases aZ:dB.getD i true with
        |false=>rfl
        |true=>exact aOs
       (have sU:gE.length+1<=(i::aC).length:=by exact aO5);obtain⟨f,rfl⟩:∃f,hK=f+1:=⟨hK-1,by omega⟩;refine Ov (Gp S4) λj a6=>early f rfl j a6 ?_;exact aOy
     ·rw[Y]at U;cases U
    ·
     -- it turns the world
     (have g6:k1 o'.op≠1:=by rw[Y];decide);have sU:=Sg g6;obtain⟨f,rfl⟩:∃f,hK=f+1:=⟨hK-1,by simp only[kL]at FQ;omega⟩;rw[SX,Y]at MY;refine Ov (Gp (S3 g6)) λj a6=>?_;by_cases DQ:tI ops j=1;·exact early f rfl j a6 DQ
     ·
      have MX:=a7f (p:=λ_=>true) c6 (λ_ _=>rfl) p9 a6 DQ;have:=List.all_eq_true.1 MY j MX;(obtain rfl:j=i:=by simpa using this);unfold wpOp;simp only[oB];rw[Ff g6];rcases xQ with⟨cE,_,wQ⟩|⟨_,U,_⟩|⟨G,_⟩|⟨cE,_,Post,bE,wQ⟩;·rw[cE,if_neg eY];exact⟨⟨fL.rU AV (λr O=>⟨r,O,.lK⟩),.inr fL⟩,cA f aC os _ _ gE _ L R _ w Bd Nk sV WI a2I a2g (jO.set (S3 g6)) (c6.step (M6 g6) SV) (Dm g6) V5 V3 (frame g6 undef) cW o4 wQ⟩
      ·rw[Y]at U;cases U
      ·exact absurd G g6
      ·rw[cE,if_pos rfl];refine .inl (aI6 (SS g6) ?_);refine(bE.frame (UP M gE)) c w cW a _ _ ?_;rintro v hA R' w' ⟨E,rfl,aG⟩ pL;obtain⟨SK,IL,a9v⟩:=wQ v E R' aG;refine⟨⟨pL.rU ((AV.trans SK).trans (XR _ _)) IL,.inr (pL.rU (SK.trans (XR _ _)) IL)⟩,?_⟩;refine a42 (YV:=c5 c cQ R') (Zl:=c5 c gA R') (λx K=>K.rU iP IL) (λx K=>K.rU iP IL) _ _ _ _ ?_;exact cA f aC os _ _ gE _ E R' _ w' Bd Nk sV WI a2I a2g (jO.set (S3 g6)) (c6.step (M6 g6) SV) (Dm g6) V5 V3 (frame g6 v) pL SK a9v
end
def jV{P:Program}(M:nN P){n id:Nat}{ops:List Oper}{t:Nat->Value}{L:List bQ}{R:List eT}{Q:fR}(dL iK dQ:List Nat)(cQ gA:List bQ)(a1:P.follows .mixedOrders=true)(qK:(a1t M n ops.toArray (iK++dQ) && QE dL ops.toArray iK dQ)=true)(o4:cQ.Sublist L)(AV:gA.Sublist cQ)
 (h:x5 P M n ops.toArray dL cQ gA (λ_ t L R=>dP P M n ops.toArray gA Q (LG ops dQ) t L R) (LG ops iK) t L R):cO P n (.region id ops.toArray true) t L R Q:=by
 simp only[lY]at qK;obtain⟨qK,dI⟩:=qK;simp only[a1t,lY]at qK;obtain⟨⟨⟨⟨G,U⟩,aO⟩,bW⟩,dV⟩:=qK;have jT:∀i∈iK++dQ,i<ops.length:=λi aB=>by simpa using List.all_eq_true.1 dV i aB
 intro c a w aH aF;refine wp_region_any a1 (a7F (S:=c5 c cQ R) (eF:=c5 c gA R) (dQ:=dQ) _ _ _ _ ?_);refine aUV (M:=M) (cQ:=cQ) (dQ:=dQ) (Ls:=LG ops dQ) AV dI (Pq ops dQ λi aB=>jT i (kE _ aB)) rfl G U (ops.toArray.size+iK.length) ops.toArray.size iK (LG ops iK) (Array.replicate ops.toArray.size false) _ [] t L R a _ (gS _) ?_ (Pq ops iK λi aB=>jT i (oI _ aB)) aO (λ_ h=>h) (λk Y=>by have:=jT k (kE _ Y);simp[this]) HV.zero ?_ (λe V=>by cases V) eY ?_ aH ?_ o4 h;·
  have key:∀(bL:List Nat) (done:Array Bool),JT ops.toArray done bL=true->bL.Nodup/\∀i∈bL,done.getD i true=false:=by
   intro bL;induction bL with
   |nil=>intro _ _;exact⟨Az,λi aB=>by cases aB⟩
   |cons i bL cA=>exact aOY
  have:=Ri (iK++dQ) (List.range ops.length) (key _ _ aO).1 (λi aB=>List.mem_range.2 (jT i aB));simpa using this
 ·exact⟨by simp,λi d=>by simp,by simp,by simp,Az,Az⟩
 ·exact aPo
 ·exact c5.drew aF
section
variable{P:Program}{M:nN P}{n:Nat}{all:Array Oper}{dL:List Nat}{cQ gA:List bQ}{fH:fR}{op:Op}{ty:TypeId}{pos:String}{after:Array Edge}{aC:List Oper}{t:Nat->Value}{L E:List bQ}{R R':List eT}{d:Tmp}{v:Value}{g:Option (Nat×Bool)}{T:TypeId}{x y:Operand}
def aTe{Q:fR}{Ls:List Oper}(h:dP P M n all gA Q Ls t L R):x5 P M n all dL cQ gA (λ_ t L R=>dP P M n all gA Q Ls t L R) [] t L R:=h
def fE(cS:cI P ⟨some d,op,ty,pos,after,g⟩ (iL t) cQ R v)(aZ:dL.contains d=false)(Y:k1 op=0)(bE:n9 all t g=true)(a7:Nat.blt d n=true)(h:x5 P M n all dL cQ gA fH aC (kD t d v) L R):x5 P M n all dL cQ gA fH (⟨some d,op,ty,pos,after,g⟩::aC) t L R:=
 ⟨a7,.inr (.inl ⟨bE,Y,v,by simp only[VG];rw[aZ];exact cS,h⟩)⟩
def p4(cS:cI P ⟨some d,op,ty,pos,after,g⟩ (iL t) gA R v)(aZ:dL.contains d=true)(Y:k1 op=0)(bE:n9 all t g=true)(a7:Nat.blt d n=true)(h:x5 P M n all dL cQ gA fH aC (kD t d v) L R):x5 P M n all dL cQ gA fH (⟨some d,op,ty,pos,after,g⟩::aC) t L R:=
 ⟨a7,.inr (.inl ⟨bE,Y,v,by simp only[VG];rw[aZ];exact cS,h⟩)⟩
def a4W(Y:Nat.beq (k1 op) 1=false)(bE:n9 all t g=false)(a7:Nat.blt d n=true)(h:x5 P M n all dL cQ gA fH aC (kD t d undef) L R):x5 P M n all dL cQ gA fH (⟨some d,op,ty,pos,after,g⟩::aC) t L R:=
 ⟨a7,.inl ⟨bE,λe=>by simp[e]at Y,h⟩⟩
def RH{Post:n8}(bE:dR P ⟨some d,op,ty,pos,after,g⟩ (iL t) L R Post)(Y:k1 op=2)(cE:n9 all t g=true)(a7:Nat.blt d n=true)
 (h:∀v E R',Post v E R'->cQ.Sublist E/\(∀r∈R,aN r R')/\x5 P M n all dL cQ gA fH aC (kD t d v) E R'):x5 P M n all dL cQ gA fH (⟨some d,op,ty,pos,after,g⟩::aC) t L R:=
 ⟨a7,.inr (.inr (.inr ⟨cE,Y,Post,bE,h⟩))⟩
def mW{f:FuncId}{xs:List Operand}{n6:Array TypeId}{args:List Value}{Post:n8}(bX:xs.map (iL t)=args)(h:aM P f args.toArray L R Post)(cE:n9 all t g=true)(a7:Nat.blt d n=true)
 (k:∀v E R',Post v E R'->cQ.Sublist E/\(∀r∈R,aN r R')/\x5 P M n all dL cQ gA fH aC (kD t d v) E R'):x5 P M n all dL cQ gA fH (⟨some d,.call ⟨.value (.func f),xs.toArray,n6⟩,ty,pos,after,g⟩::aC) t L R:=
 RH (Qx a4e rfl h) rfl cE a7 k
def aHA{os:List Oper}{k:Nat}{b:Bool}(aT:t k=.bool b)(G:b=true->x5 P M n all dL cQ gA fH os (kD t k (.bool true)) L R)(U:b=false->x5 P M n all dL cQ gA fH os (kD t k (.bool false)) L R):x5 P M n all dL cQ gA fH os t L R:=by
 cases b with
 |true=>have:=G rfl;rwa[Hc aT]at this
 |false=>have:=U rfl;rwa[Hc aT]at this
end
def aM.at{P f args X L R F}{Post:n8}(uU:GI X L F)(h:aM P f args X R Post):aM P f args L R (λv hA R'=>∃E,hA=F E/\Post v E R'):=by
 obtain⟨A,B,b3,hR⟩:=uU.split;refine⟨h.1,λw aD bF=>?_⟩;subst b3;have aG:(A++X++B).Perm ((A++B)++X):=by rw[kF,kF];exact aCc _ Gj
 have oQ:Holds ((A++B)++X) aD R w:=⟨(aG.map _).nodup_iff.1 bF.lC,λe V=>bF.own e (aG.mem_iff.2 V),λe V=>bF.pT e (aG.mem_iff.2 V),bF.nT,bF.nH⟩;have SO:Holds X aD R w:=⟨(List.nodup_append.1 (by have:=oQ.lC;rwa[CO]at this)).2.1,λe V=>oQ.own e (kE _ V),λe V=>oQ.pT e (kE _ V),oQ.nT,oQ.nH⟩;refine(h.2 w aD SO).mono λe w' ⟨v,E,R',V,WK,cW⟩=>⟨v,F E,R',V,⟨E,rfl,WK⟩,?_⟩;have G:=c5.frame oQ cW;rw[hR];have DS:((A++B)++E).Perm (A++E++B):=by rw[kF,kF];exact aCc _ Gj
 have U:=G.yN DS;exact aOZ
def a7r{P n code t L R}{Q:fR}{s:eT}(aF:∀w aD,(∀r∈R,p2 w aD r)->p2 w aD s)(h:cO P n code t L (s::R) Q):cO P n code t L R Q:=by
 intro c a w aH cW;refine h c a w aH ?_;obtain⟨⟨aD,bF,bE⟩,cM,Y⟩:=cW;refine⟨⟨aD,⟨bF.lC,bF.own,bF.pT,bF.nT,λr O=>?_⟩,bE⟩,cM,Y⟩;rcases List.mem_cons.1 O with rfl|O;·exact aF w aD bF.nH
 ·exact bF.nH r O
inductive AE(b:Nat)(cs:List Value)(T:TypeId):List bQ->(List Value->List bQ)->Prop
 |lK {L}:AE b cs T (⟨b,cs,T⟩::L) (λgM=>⟨b,gM,T⟩::L)
 |cons {x L f} (h:AE b cs T L f):AE b cs T (x::L) (λgM=>x::f gM)
 |wJ {X L f} (h:AE b cs T L f):AE b cs T (X++L) (λgM=>X++f gM)
def AE.split{b cs T L f}(h:AE b cs T L f):∃A B,L=A++([⟨b,cs,T⟩]++B)/\∀gM,f gM=A++([⟨b,gM,T⟩]++B):=by
 induction h with
 | @lK L=>exact⟨[],L,rfl,λ_=>rfl⟩
 | @cons x L f _ cA=>obtain⟨A,B,G,U⟩:=cA;exact⟨x::A,B,by simp[G],λgM=>by simp[U]⟩
 | @wJ X L f _ cA=>obtain⟨A,B,G,U⟩:=cA;exact⟨X++A,B,by simp[G],λgM=>by simp[U]⟩
def aM.ZE{P f args b cs T L F R}{Post:n8}{tC:Value->List Value->List eT->Prop}(uU:AE b cs T L F)(h:aM P f args [⟨b,cs,T⟩] R Post)(aG:∀v E R',Post v E R'->∃gM,[⟨b,gM,T⟩]=E/\tC v gM R'):
 aM P f args L R (λv hA R'=>∃gM,F gM=hA/\tC v gM R'):=by obtain⟨A,B,b3,hR⟩:=uU.split;subst b3;refine(aM.at (.wJ .lK) h).mono ?_;rintro v hA R' ⟨E,rfl,WK⟩;obtain⟨gM,rfl,cD⟩:=aG v E R' WK;exact⟨gM,hR gM,cD⟩
section
variable{P:Program}{aV:Operand->Value}{L:List bQ}{R:List eT}{dst:Option Tmp}{ty:TypeId}{pos:String}{after:Array Edge}{guard:Option (Nat×Bool)}{T hN:TypeId}{x y z:Operand}{a b c:Int}{k:IntKind}
def Rx{n:Int}(G:0<=n)(U:n<=18446744073709551615):IntKind.u64.wrap n=n:=by rw[IntKind.wrap_u64];omega
def aWW(K:aV x=.int .u64 a)(bB:aV y=.int .u64 b)(G:0<=a+b)(U:a+b<=18446744073709551615):
 cI P ⟨dst,.binOp .add T x y hN,ty,pos,after,guard⟩ aV L R (.int .u64 (a+b)):=by have:=a5Y (P:=P) (L:=L) (R:=R) (dst:=dst) (ty:=ty) (pos:=pos) (after:=after) (guard:=guard) (T:=T) (hN:=hN) K bB;rwa[Rx G U]at this
def aU0(K:aV x=.int .u64 a)(bB:aV y=.int .u64 b)(G:0<=a*b)(U:a*b<=18446744073709551615):
 cI P ⟨dst,.binOp .mul T x y hN,ty,pos,after,guard⟩ aV L R (.int .u64 (a*b)):=by have:=a48 (P:=P) (L:=L) (R:=R) (dst:=dst) (ty:=ty) (pos:=pos) (after:=after) (guard:=guard) (T:=T) (hN:=hN) K bB;rwa[Rx G U]at this
def aXa(K:aV x=.int .u64 a)(bB:aV y=.int .u64 b)(bX:0<=a)(b8L:a<=18446744073709551615)(aT:0<b):cI P ⟨dst,.binOp .quo T x y hN,ty,pos,after,guard⟩ aV L R (.int .u64 (a/b)):=by have:=a4T (P:=P) (L:=L) (R:=R) (dst:=dst) (ty:=ty) (pos:=pos) (after:=after) (guard:=guard) (T:=T) (hN:=hN) K bB D;rw[XP bX]at this;have G:0<=a/b:=Mz bX D;have U:a/b<=a:=Wm _ bX;rwa[Rx G D]at this
def aE3(K:aV x=.int .u64 a)(bB:aV y=.int .u64 b)(bX:0<=a)(aT:0<b):cI P ⟨dst,.binOp .rem T x y hN,ty,pos,after,guard⟩ aV L R (.int .u64 (a%b)):=by have:=a7B (P:=P) (L:=L) (R:=R) (dst:=dst) (ty:=ty) (pos:=pos) (after:=after) (guard:=guard) (T:=T) (hN:=hN) K bB D;rwa[aCd bX]at this
def a7K(K:aV x=.int .u64 a)(bB:aV y=.int .u64 4294967295)(G:0<=a)(U:a<=18446744073709551615):
 cI P ⟨dst,.binOp .and T x y hN,ty,pos,after,guard⟩ aV L R (.int .u64 (a%4294967296)):=λ_ _ _=>by
 obtain⟨n,rfl⟩:∃n:Nat,a=(n:Int):=⟨a.toNat,by omega⟩
 have e:(BitVec.ofInt IntKind.u64.bits ((n:Nat):Int) &&& BitVec.ofInt IntKind.u64.bits 4294967295).toNat=n%4294967296:=by
  show(BitVec.ofInt 64 ((n:Nat):Int) &&& BitVec.ofInt 64 4294967295).toNat=n%4294967296
  rw[BitVec.ofInt_natCast,a3R,BitVec.toNat_ofNat,Wq D]
  exact a3L n 32
 have eH:IntKind.u64.wrap ((n%4294967296:Nat):Int)=((n:Int)%4294967296):=by rw[Rx D D];omega
 have aT:Op.intBits .and .u64 ((n:Nat):Int) 4294967295=(pure (.int .u64 ((n:Int)%4294967296)):Sem Value):=by
  unfold Op.intBits
  dsimp only
  rw[e,eH]
 simp[execOp,K,bB,eqGuard,binOp,aT]
def Pl(K:aV x=.int .u64 a)(bB:aV y=.int k 32):cI P ⟨dst,.binOp .shr T x y hN,ty,pos,after,guard⟩ aV L R (.int .u64 (a/4294967296)):=λ_ _ _=>by
 have e:a.fdiv (2^32)=a/4294967296:=by rw[a3S _ aX];rfl
 have VP:min (32:Int).toNat IntKind.u64.bits=32:=by decide
 have aT:Op.shift .shr .u64 a k 32=(pure (.int .u64 (a/4294967296)):Sem Value):=by
  unfold Op.shift
  rw[if_neg aX]
  dsimp only
  rw[VP,e]
 simp[execOp,K,bB,eqGuard,binOp,aT]
def aGv{n6:Array TypeId}(K:aV x=.int k a)(bB:aV y=.int k b)(dI:aV z=.int k c):cI P ⟨dst,.call ⟨.builtin .min,#[x,y,z],n6⟩,ty,pos,after,guard⟩ aV L R (.int k (min (min a b) c)):=λ_ w _=>by
 simp only[execOp,resolve,invoke,builtin,Builtin.min_,Wo,pV,XS,K,bB,dI]
 have G:(if b<a then b else a)=min a b:=by rw[Int.min_def];split<;>split<;>omega
 have U:(if c<min a b then c else min a b)=min (min a b) c:=by rw[Int.min_def (min a b) c];split<;>split<;>omega
 simp[Builtin.min2,G,U]
def aEx{n6:Array TypeId}(K:aV x=.int k a)(bB:aV y=.int k b)(dI:aV z=.int k c):cI P ⟨dst,.call ⟨.builtin .max,#[x,y,z],n6⟩,ty,pos,after,guard⟩ aV L R (.int k (max (max a b) c)):=λ_ w _=>by
 simp only[execOp,resolve,invoke,builtin,Builtin.max_,Wo,pV,XS,K,bB,dI]
 have G:(if b>a then b else a)=max a b:=by rw[Int.max_def];split<;>split<;>omega
 have U:(if c>max a b then c else max a b)=max (max a b) c:=by rw[Int.max_def (max a b) c];split<;>split<;>omega
 simp[Builtin.max2,G,U]
variable(M:nN P)
def aXu{c3:IntKind}{oR gC h5 iQ fT eN nK z2}(G:g5 M.gD T=some ⟨.int c3,oR,h5,fT,nK⟩)(U:g5 M.gD hN=some ⟨.int .u64,gC,iQ,eN,z2⟩)(K:aV x= .int c3 a)
 (aO:0<=a) (bW:a<=18446744073709551615):cI P ⟨dst,.convert T hN x,ty,pos,after,guard⟩ aV L R (.int .u64 a):=by have:=a55 (P:=P) (L:=L) (R:=R) (dst:=dst) (ty:=ty) (pos:=pos) (after:=after) (guard:=guard) M G U K;rwa[Rx aO bW]at this
def aFJ(P:Program)(T f:Nat):Option TypeId:=match P.underlying T with
 |some (.struct q8)=>(q8[f]?).map (·.type)
 |_=>none
def aGU{e f off n gC sz:Nat}{fl pJ:List (Nat×Nat)}{bt z mX z2 eK}{cs:List Value}{v:Value}(dF:g5 M.gD T=some ⟨.struct,n,fl,bt,z⟩)(a2m:aFJ P T f=some e)(c6:g5 M.gD e=some ⟨eK,gC,pJ,mX,z2⟩)(Y:eK.isAgg=false)
 (K:aV x=.agg cs.toArray) (aH:fl[f]?=some (off,sz)) (cS:cs[off]?=some v):
 cI P ⟨dst,.field T x f,ty,pos,after,guard⟩ aV L R v:=λ_ w _=>by
 obtain⟨q8,cZ,iF⟩:=a75 (M.ok _ _ dF) rfl
 simp only at iF
 subst iF
 rw[pW]at aH
 obtain⟨Kc,Kr,V⟩:=Option.map_eq_some_iff.1 aH
 obtain⟨G,U⟩:=Prod.mk.inj V
 have a2j:q8[f]?=some Kc:=by rw[<-Array.getElem?_toList];exact Kr
 have b4T:Kc.type=e:=by simpa[aFJ,cZ,a2j]using a2m
 have IM:=a5p (M.ok _ _ c6) w
 rw[show(iD.mk eK gC pJ mX z2).k.isAgg=false from Y,<-b4T]at IM
 subst G
 simp[execOp,K,Instr.field,run_underlying cZ,a2j,asAgg,part,IM,cS]
end
def RR(P:Program)(n:Nat)(ops:Array Oper)(cQ gA:List bQ)(Q:fR)(dQ:List Nat)(m:Nat)(done:Array Bool)(t:Nat->Value)(L:List bQ)(R:List eT):Prop:=
 ∀c a w,HV ops done->done.size=ops.size->(∀k∈dQ,done.getD k true=false)->mD n t a->c5 c L R w->cQ.Sublist L->∀hK,m+dQ.length<=hK->F7 P ops (EN n c Q) (c5 c cQ R) (c5 c gA R) dQ hK done a w
def a5x(ops:Array Oper)(hF:List Nat)(done:Array Bool)(i:Nat):Bool:=hF.contains i && ((Region.ready .any ops done).contains i && Region.free .any ops done i)
def aEb(ops:Array Oper)(hF:List Nat)(done:Array Bool)(l:List Nat):Bool:=!l.isEmpty && ((Region.ready .any ops done==l) && l.all λj=>hF.contains j)
def a6e(ops:Array Oper)(done:Array Bool)(dQ:List Nat):Bool:=JT ops done dQ && (List.range ops.size).all λi=>done.getD i true||dQ.contains i
def QO{P:Program}(M:nN P)(n:Nat)(ops:Array Oper)(dL hF dQ:List Nat):Bool:=Region.noSelect ops && (Db M n ops && QE dL ops hF dQ)
section
variable{P:Program}{M:nN P}{n m:Nat}{ops:Array Oper}{dL hF dQ:List Nat}{cQ gA:List bQ}{Q:fR}{done:Array Bool}{t:Nat->Value}{L:List bQ}{R:List eT}
def aXO{i:Nat}{o:Oper}{v:Value}(dF:QO M n ops dL hF dQ=true)(AV:gA.Sublist cQ)(bM:a5x ops hF done i=true)(oB:ops[i]? =some o)(Y:k1 o.op=0)(cE:n9 ops t o.guard=true)(a7:SF n o.dst=true)
 (cS:cI P o (iL t) (VG dL cQ gA o.dst) R v) (h:RR P n ops cQ gA Q dQ m (done.setIfInBounds i true) (w9 t o.dst v) L R):RR P n ops cQ gA Q dQ (m+1) done t L R:=by
 intro c a w jO p9 DK lB cW o4 hK FQ;simp only[QO,lY]at dF;simp only[a5x,lY]at bM;obtain⟨HG,_,dI⟩:=dF;obtain⟨FR,O,IR⟩:=bM;have FR:i∈hF:=by simpa using FR
 have O:i∈Region.ready .any ops done:=by simpa using O
 obtain⟨f,rfl⟩:∃f,hK=f+1:=⟨hK-1,by omega⟩;have SX:tI ops i=0:=by simp[tI,oB,Y]
 have fL:c5 c cQ R w:=cW.rU o4 (λr O=>⟨r,O,.lK⟩);have aMg:=aI9 (dL:=dL) (cQ:=cQ) (gA:=gA) oB;have a9i:∀w',(if CU dL ops i=true then c5 c gA R else c5 c cQ R) w'->c5 c (VG dL cQ gA o.dst) R w':=by exact aPa
 have SS:execOp a.eval o=execOp (iL t) o:=by rw[lB.eval]
 refine aD8 (dL:=dL) dI FR SX oB (a3X HG) (λ_ _ _ h=>h.1.elim) f done a w jO p9 DK (λj lD a6 jC aZ A2=>a3Q oB IR j lD a6 jC aZ A2) O
  (v:=v) (.inl ⟨by rw[lB.wanted];exact cE,λw' PP=>by rw[SS];exact cS c w' (a9i w' PP)⟩) fL (λw cE=>cE.rU AV (λr O=>⟨r,O,.lK⟩)) ?_
 refine h c _ w (jO.set O) (by simp[p9]) (λk j4=>?_) (lB.put a7 v) cW o4 f D;have jC:i≠k:=λe=>Ia dI j4 (e▸FR);rw[getD_set_ne true jC];exact DK k j4
def a0S(P:Program)(n:Nat)(ops:Array Oper)(cQ gA:List bQ)(Q:fR)(dQ:List Nat)(m:Nat)(done:Array Bool)(t:Nat->Value)(L:List bQ)(R:List eT)(j:Nat):Prop:=
 ∃o,ops[j]?=some o/\n9 ops t o.guard=true/\SF n o.dst=true/\∃Post,dR P o (iL t) L R Post/\∀v E R',Post v E R'->cQ.Sublist E/\(∀r∈R,aN r R')/\RR P n ops cQ gA Q dQ m (done.setIfInBounds j true) (w9 t o.dst v) E R'
def Cl(P:Program)(n:Nat)(ops:Array Oper)(cQ gA:List bQ)(Q:fR)(dQ:List Nat)(m:Nat)(done:Array Bool)(t:Nat->Value)(L:List bQ)(R:List eT):List Nat->Prop
 |[]=>True
 |j::l=>a0S P n ops cQ gA Q dQ m done t L R j/\Cl P n ops cQ gA Q dQ m done t L R l
def Cl.mem{l:List Nat}(h:Cl P n ops cQ gA Q dQ m done t L R l){j:Nat}(a6:j∈l):a0S P n ops cQ gA Q dQ m done t L R j:=by
 induction l with
 |nil=>cases a6
 |cons x l cA=>
  rcases List.mem_cons.1 a6 with rfl|a6;·exact h.1
  ·exact cA h.2 a6
def iU(l:List Nat)(dF:QO M n ops dL hF dQ=true)(AV:gA.Sublist cQ)(bM:aEb ops hF done l=true)(h:Cl P n ops cQ gA Q dQ m done t L R l):RR P n ops cQ gA Q dQ (m+1) done t L R:=by
 intro c a w jO p9 DK lB cW o4 hK FQ;simp only[QO,lY]at dF;simp only[aEb,lY]at bM;obtain⟨HG,_,dI⟩:=dF;obtain⟨jC,zR,pS⟩:=bM;have zR:Region.ready .any ops done=l:=by simpa using zR
 obtain⟨f,rfl⟩:∃f,hK=f+1:=⟨hK-1,by omega⟩;refine Ov (by rw[zR];intro e;rw[e]at jC;cases jC) λj a6=>?_;have Kw:j∈l:=by rw[<-zR];exact a6
 obtain⟨o,oB,cE,a7,Post,bE,b3m⟩:=h.mem Kw;have a2s:j∈hF:=by simpa using List.all_eq_true.1 pS j Kw
 unfold wpOp;simp only[oB];rw[lB.wanted,cE,if_pos rfl];refine .inl ?_;unfold Oper.wp;rw[lB.eval];refine bE c w cW a _ _ ?_;intro v E R' w' aG pL;obtain⟨SK,IL,xN⟩:=b3m v E R' aG;refine⟨⟨(pL.rU SK IL).rU AV (λr O=>⟨r,O,.lK⟩),.inr (pL.rU SK IL)⟩,?_⟩;refine a42 (YV:=c5 c cQ R') (Zl:=c5 c gA R') (λx K=>K.rU iP IL) (λx K=>K.rU iP IL) _ _ _ _ ?_;refine xN c _ w' (jO.set a6) (by simp[p9]) (λk j4=>?_) (lB.put a7 v) pL SK f D;have jC:j≠k:=λe=>Ia dI j4 (e▸a2s);rw[getD_set_ne true jC];exact DK k j4
def aTi(os:List Oper)(dF:QO M n ops dL hF dQ=true)(AV:gA.Sublist cQ)(bM:a6e ops done dQ=true)(sV:dQ.map (ops[·]?)=os.map some)(h:dP P M n ops gA Q os t L R):RR P n ops cQ gA Q dQ m done t L R:=by
 intro c a w jO p9 DK lB cW o4 hK FQ;simp only[QO,lY]at dF;simp only[a6e,lY]at bM;obtain⟨HG,jX,dI⟩:=dF;obtain⟨dC,B7⟩:=bM;refine aKl (M:=M) HG jX sV dC ⟨rfl,λi d=>?_,(λe V=>by cases V),(λe V=>by cases V),Az,Az⟩ p9 D (λi aB a7=>?_) lB cW (AV.trans o4) h;·simp
 ·have:=List.all_eq_true.1 B7 i (List.mem_range.2 aB);rw[a7]at this;simpa using this
end
def QY{P:Program}{M:nN P}{n m:Nat}{Al:List Oper}{dL hF dQ:List Nat}{cQ gA:List bQ}{Q:fR}{done:Array Bool}{t:Nat->Value}{L:List bQ}{R:List eT}(dF:QO M n Al.toArray dL hF dQ=true)(AV:gA.Sublist cQ)(bM:a6e Al.toArray done dQ=true)(DS:dQ.all (λk=>Nat.blt k Al.length)=true)
 (h:dP P M n Al.toArray gA Q (LG Al dQ) t L R):RR P n Al.toArray cQ gA Q dQ m done t L R:=
 aTi (LG Al dQ) dF AV bM (Pq Al dQ λi aB=>by simpa using List.all_eq_true.1 DS i aB) h
def RM{P:Program}(M:nN P){n id:Nat}{ops:List Oper}{t:Nat->Value}{L:List bQ}{R:List eT}{Q:fR}(dL hF dQ:List Nat)(cQ gA:List bQ)(m:Nat)(a1:P.follows .mixedOrders=true)(dF:QO M n ops.toArray dL hF dQ=true)(a2x:Nat.ble (m+dQ.length) ops.length=true)
 (DS:dQ.all (λk=>Nat.blt k ops.length)=true) (o4:cQ.Sublist L) (h:QO M n ops.toArray dL hF dQ=true->RR P n ops.toArray cQ gA Q dQ m (Array.replicate ops.length false) t L R):cO P n (.region id ops.toArray true) t L R Q:=by
 intro c a w aH aF;refine wp_region_any a1 (a7F (S:=c5 c cQ R) (eF:=c5 c gA R) (dQ:=dQ) _ _ _ _ ?_);have e:ops.toArray.size=ops.length:=by simp
 have jO:=HV.zero (ops:=ops.toArray);rw[e]at jO;refine h dF c a _ jO eY (λk Y=>?_) aH (c5.drew aF) o4 _ ?_;·have:=List.all_eq_true.1 DS k Y;simp at this;simp[this]
 ·have:=s6 a2x;simpa using this
section
variable{P:Program}{M:nN P}{n m:Nat}{ops:Array Oper}{dL hF dQ:List Nat}{cQ gA:List bQ}{Q:fR}{done:Array Bool}{t:Nat->Value}{L:List bQ}{R:List eT}{op:Op}{ty:TypeId}{pos:String}{after:Array Edge}{d:Tmp}{v:Value}{g:Option (Nat×Bool)}
def eU(i:Nat)(dF:QO M n ops dL hF dQ=true)(AV:gA.Sublist cQ)(bM:a5x ops hF done i=true)(oB:ops[i]? =some ⟨some d,op,ty,pos,after,g⟩)(Y:k1 op=0)(cE:n9 ops t g=true)(a7:Nat.blt d n=true)(aZ:dL.contains d=false)
 (cS:cI P ⟨some d,op,ty,pos,after,g⟩ (iL t) cQ R v) (h:RR P n ops cQ gA Q dQ m (done.setIfInBounds i true) (kD t d v) L R):RR P n ops cQ gA Q dQ (m+1) done t L R:=
 aXO dF AV bM oB Y cE a7 (by simp only[VG,aZ,cond_false];exact cS) h
def m9{j:Nat}{Post:n8}(oB:ops[j]? =some ⟨some d,op,ty,pos,after,g⟩)(bE:dR P ⟨some d,op,ty,pos,after,g⟩ (iL t) L R Post)(cE:n9 ops t g=true)(a7:Nat.blt d n=true)
 (h:∀v E R',Post v E R'->cQ.Sublist E/\(∀r∈R,aN r R')/\RR P n ops cQ gA Q dQ m (done.setIfInBounds j true) (kD t d v) E R'):a0S P n ops cQ gA Q dQ m done t L R j:=
 ⟨_,oB,cE,a7,Post,bE,h⟩
def nM{j:Nat}{l:List Nat}(h:a0S P n ops cQ gA Q dQ m done t L R j)(k:Cl P n ops cQ gA Q dQ m done t L R l):Cl P n ops cQ gA Q dQ m done t L R (j::l):=⟨h,k⟩
def aVt:Cl P n ops cQ gA Q dQ m done t L R []:=trivial
end
section
variable{P:Program}{aV:Operand->Value}{L E:List bQ}{R:List eT}{dst:Option Tmp}{ty:TypeId}{pos:String}{after:Array Edge}{guard:Option (Nat×Bool)}{T k e:TypeId}{z:Value}{x y u:Operand}
end
section
variable{b:Nat}{l DV:List (Int×Value)}{L E:List bQ}
end
section
open ChangeMaps
variable{P:Program}{aV:Operand->Value}{L E:List bQ}{R:List eT}{dst:Option Tmp}{ty:TypeId}{pos:String}{after:Array Edge}{guard:Option (Nat×Bool)}{T k e:TypeId}{z:Value}{x y u:Operand}
end
end Go.Aw
abbrev Go.Aw.aW:=List Go.Aw.bQ
abbrev Go.Aw.aP:=List Go.Aw.eT
