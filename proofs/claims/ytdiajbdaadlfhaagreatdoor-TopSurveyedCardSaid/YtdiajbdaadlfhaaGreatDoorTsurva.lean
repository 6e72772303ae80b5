-- By an AI agent; no person has read it.
import Derived.Test.YtdiajbdaadlfhaaGreatDoorStrB
import Derived.Test.YtdiajbdaadlfhaaGreatDoorSame22
import Derived.Test.YtdiajbdaadlfhaaGreatDoorCircR
import Derived.Test.YtdiajbdaadlfhaaGreatDoorFits
import Derived.Test.YtdiajbdaadlfhaaGreatDoorRows
import Derived.Lay
import Derived.LaidMore
import Derived.Lib.LaidTab
import Derived.Shelf.Vars
set_option linter.unusedVariables false
set_option linter.unusedSimpArgs false
set_option maxRecDepth 20000
namespace Go.Proofs.YtdiajbdaadlfhaaGreatDoor
open Go.Aw Go Go.Proofs.Tryz
section
section
variable{aC8 aDa:Prop}
theorem aJ6(a:aC8)(h:aC8->aDa:=by exact aA (v7 (row:=[_,_,_,_,_,_,_,_,_,_,_,_,_,_,_,_]) M rfl rfl rfl (by repeat(first|exact aQi|apply aQj|apply aQk)) (by rfl) (by rfl)) rfl):aDa:=h a
end
theorem aGf{X C:List bQ}:nA (X++C) X C:=by
  have h:=nA.vH (X:=X) (Yx (C:=C))
  rwa[List.append_nil]at h
theorem aTG{A:List bQ}{R:List eT}{p q:J Int}(aG:pA (p.L 3 aR) A)(bZ:pA (q.L 3 aR) A)(PV:p.ok 1 aR)(Fw:q.ok 1 aR)(V:p.l=q.l):
    aM prog 15 [p.val,q.val].toArray A R (λv E R'=>v=.bool true/\A=E/\R=R'):=
  aM.Ve (S:=[dW p.W,dW q.W]) (λw aD bF s aF=>by
    simp only[List.mem_cons,List.not_mem_nil,or_false]at aF
    rcases aF with rfl|rfl
    ·exact wD bF aG PV (λ_=>rfl) (by decide) (λs aF=>by cases aF)
    ·exact wD bF bZ Fw (λ_=>rfl) (by decide) (λs aF=>by cases aF)) (aSj p.W q.W [] _ (aU (.head _)) (aU (.tail _ (.head _))) V)
attribute [local irreducible] cO dG dP aM cI dR fA e2 e5 fB eQ e9 J.L
theorem aZQ(y:bP Int)(wX:Int)(L:List bQ)(R:List eT)(bB:nL y R)(dF:s3∈L)(SO:uN wX∈L):
    aM prog 3 [y.val].toArray L R (λv E R'=>v=.bool true/\L=E/\R=R'):=by
  refine cX 172 call3 func3 rfl rfl rfl ?_
  apply(E8)
  apply(iG)
  apply(gQ)
  refine dN rfl (aKi y _ _ bB) rfl ?_
  rintro v E R' ⟨c,rfl,K,rfl,rfl⟩
  apply(Ap)
  apply(OC)
  refine dN rfl (aVd (.MJ .aC) K (Nat.zero_le _)) rfl ?_
  rintro v E R' ⟨m,g8,S,rfl,a1,G2,a2p,a2o,g6,rfl,rfl⟩
  refine aA (mN rfl) rfl ?_
  iterate 3 apply(A8)
  apply(dO)
  intro dU
  apply(dO)
  intro fK
  apply(dO)
  intro jN
  iterate 3 apply(l5)
  apply(j6)
  refine aWf (A:=L) a1 G2 (λf aH=>(a2p f aH).mono λr O=>aU (by simp[O])) (λf aH=>(a2o f aH).mono λr O=>aU (by simp[O])) λa s x jA G2 hD fL b8J oP=>?_
  refine aFF (E:=⟨jN,x.cells,37⟩::⟨fK,s.cells,35⟩::⟨dU,a.cells,32⟩::hI c (UF y) g8::L) (List.Perm.cons _ (List.Perm.cons _ (List.Perm.cons _ List.perm_append_comm))) ?_
  refine DD (f:=gL.cells) (aI:=2) (λ_=>rfl) (by decide) ?_
  refine DD (f:=cR.cells) (aI:=10) (λ_=>rfl) (by decide) ?_
  refine DD (f:=BO.cells) (aI:=2) (λ_=>rfl) (by decide) ?_
  obtain⟨hE,wP⟩:∃hE,hE=Om ⟨none,0,[]⟩::F4 ⟨none,0,[]⟩::zW ⟨none,0,[]⟩::jA:=⟨_,rfl⟩
  refine w8 (show _=hE by rw[wP]) ?_
  have Dk:∀r∈jA,aN r hE:=λr O=>aU (by simp[wP,O])
  have Z3:oY (l3 [] []) hE:=⟨aU (by simp[wP,l3]),aU (by simp[wP,l3])⟩
  have FM:aN (Om ⟨none,0,[]⟩) hE:=aU (by simp[wP])
  have CB:nL (UF y) hE:=K.mono λr O=>(oP r (by simp[O])).mono Dk
  have Kh:∀r∈R,aN r hE:=λr O=>(oP r (by simp[O])).mono Dk
  have B5:=IC hD Dk
  have DM:=T9 fL Dk
  have n2:=G2.aNo
  have HD:=G2.aNp
  have KI:=Df G2.DI
  have lL:=aRN G2
  have S0:=G2.W2
  obtain⟨A,xM⟩:=a69 a.aE
  have a17:=(aFf G2.DI G2.O4 xM).1
  have b1H:=Ow G2.DI G2.O4 xM
  have qB:=aG0 a.aE.places.l a.aE.Z.l
  have b9Z:1<=(CR a.aE.places.l a.aE.Z.l).length:=by rw[CR,List.length_append,List.length_map];omega
  apply(e1)
  apply(C6)
  refine dN rfl (aJo a.aE _ _ B5.TE (by omega)) rfl ?_
  rintro v E R' ⟨q,rfl,g7,eZ,rfl,rfl⟩
  refine eD rfl (aDq (by repeat(first|exact aGf|exact nA.xL Yx|apply nA.MJ|apply nA.Sc)) (λ_ h=>h) g7 (by repeat(first|exact dF|apply List.Mem.tail|apply List.mem_append_right)) (by rw[eZ];exact lL) (by rw[eZ];omega)) ?_
  rw[eZ]
  refine aA (mN rfl) rfl ?_
  apply(Y3)
  refine aA (qG (show _=Value.string _ from rfl)) rfl ?_
  apply(p5)
  apply(a3r)
  refine aA (mN (show _=Value.string _ from rfl)) rfl ?_
  refine dN rfl (aUQ a.aE.places.l a.aE.Z.l wX _ _ Z3 KI lL (by omega) (by repeat(first|exact SO|apply List.Mem.tail|apply List.mem_append_right))) rfl ?_
  rintro v E R' ⟨m3,pD,rfl,rQ,⟨wS,Tz⟩,rfl,rfl⟩
  have b3c:m3.places.l.length<=64/\m3.Z.l.length<=128:=by rw[wS,Tz];omega
  refine aA (mN rfl) rfl ?_
  iterate 3 apply(A8)
  apply(dO)
  intro jB
  apply(E7)
  apply(FA)
  apply(vC)
  apply dT (aD:=[_,_]) (j:=2) (b4:=51) rfl rfl (by rfl) rfl (show _=Value.bool _ from rfl) rfl
  ·
   intro iM
   replace iM:=cP iM
   apply(cJ)
   apply(P0)
   exact iA
  intro o7
  apply(fD)
  apply dT (aD:=[_,_,_,_,_,_]) (j:=6) (b4:=55) rfl rfl (by rfl) rfl (show _=Value.bool _ from rfl) rfl
  ·
   intro n1
   replace n1:=cP n1
   apply(cJ)
   apply(C6)
   refine dN rfl (aJo a.aE _ _ ⟨B5.places.mono λr O=>aU (List.mem_append_right _ O),B5.Z.mono λr O=>aU (List.mem_append_right _ O)⟩ (by omega)) rfl ?_
   rintro v E R' ⟨gP,rfl,KK,zP,rfl,rfl⟩
   apply(F1)
   apply(P0)
   rw[zP]
   exact iA
  intro Af
  apply(fD)
  apply dT (aD:=[_,_,_,_,_]) (j:=14) (b4:=63) rfl rfl (by rfl) rfl (show _=Value.bool _ from rfl) rfl
  ·
   intro vQ
   replace vQ:=cP vQ
   apply(lG)
   apply(C6)
   refine eD rfl (aJB m3 a.aE _ _ rQ ⟨B5.places.mono λr O=>aU (List.mem_append_right _ O),B5.Z.mono λr O=>aU (List.mem_append_right _ O)⟩ wS Tz (by omega)) ?_
   apply(NB)
   exact iA
  intro Fi
  apply(dD)
  refine aJ (λbI=>?_) (λbI=>?_)
  ·
   (exfalso;simp at bI)
  apply(CI)
  refine sN (E:=⟨jB,m3.cells,28⟩::⟨fK,s.cells,35⟩::⟨dU,a.cells,32⟩::hI c (UF y) g8::L) (by repeat(first|exact TZ _|exact X3 _|apply T0|apply T1|apply X4|apply X5)) (oV _) ?_
  obtain⟨oL,DL⟩:∃oL,oL=pD++hE:=⟨_,rfl⟩
  have Sx:∀r∈hE,aN r oL:=λr O=>aU (by rw[DL];exact List.mem_append_right _ O)
  refine w8 (show _=oL by rw[DL]) ?_
  rw[<-DL]at rQ
  have aK4:=IC B5 Sx
  apply(a6Y)
  refine dN rfl (aM.a3w (.xL (.xL (.xL (.MJ .aC)))) (aT9 c (UF y) g8 a.aE _ (CB.mono Sx) g6 (by omega))) rfl ?_
  rintro v E R' ⟨_,rfl,e,eK,rfl,b2q,j4,rfl,rfl⟩
  apply(dO)
  intro rM
  apply(J4)
  have yI:=aU5 b2q.plain
  refine sN (E:=⟨rM,e.cells,55⟩::⟨jB,m3.cells,28⟩::⟨fK,s.cells,35⟩::⟨dU,a.cells,32⟩::L) (List.Sublist.cons_cons _ (List.sublist_append_left _ _)) (oV _) ?_
  apply(e1)
  apply(C6)
  refine aJ6 ?_
  refine dN rfl (aIK a.aE e _ _ aK4.TE) rfl ?_
  rintro v E R' ⟨HQ,eF,rfl,Kl,rfl,rfl⟩
  refine aA (mN rfl) rfl ?_
  apply(OG)
  intro zH
  apply(l5)
  apply(p5)
  refine aJ6 ?_
  refine g2 (CS (hB:=[(0,(Value.agg _).cells.toList)]) (c9:=[_,_,_,_,_,_,_,_,_,_,_,_,_,_,_,_]) M rfl rfl rfl rfl rfl rfl rfl) rfl ?_
  rintro v E R' ⟨b8c,rfl,rfl,a9c⟩
  replace a9c:=a9c.symm;subst a9c
  refine eD rfl (aSt (by repeat(first|exact aGf|exact nA.xL Yx|apply nA.MJ|apply nA.Sc)) (by repeat(first|exact dF|apply List.Mem.tail|apply List.mem_append_right)) yI) ?_
  refine aA (mN rfl) rfl ?_
  apply(Y3)
  refine aA (qG (show _=Value.string _ from rfl)) rfl ?_
  apply(E9)
  refine sN (E:=⟨zH,HQ.cells,28⟩::⟨rM,e.cells,55⟩::⟨jB,m3.cells,28⟩::⟨fK,s.cells,35⟩::⟨dU,a.cells,32⟩::L) (by repeat(first|exact TZ _|exact X3 _|apply T0|apply T1|apply X4|apply X5)) (oV _) ?_
  apply(e1)
  apply(lG)
  refine aA (mN (show _=Value.string _ from rfl)) rfl ?_
  refine dN rfl (aVs m3 e wX _ _ ⟨rQ.places.mono λr O=>aU (List.mem_append_right _ O),rQ.Z.mono λr O=>aU (List.mem_append_right _ O)⟩ b3c yI (by repeat(first|exact SO|apply List.Mem.tail|apply List.mem_append_right))) rfl ?_
  rintro v E R' ⟨K0,gK,Zm,rfl,TA,a24,rfl,rfl⟩
  rw[wS,Tz]at a24|-
  refine aA (mN rfl) rfl ?_
  iterate 3 apply(A8)
  apply(dO)
  intro FG
  apply(E7)
  apply(FA)
  apply(vC)
  apply dT (aD:=[_,_,_]) (j:=2) (b4:=96) rfl rfl (by rfl) rfl (show _=Value.bool _ from rfl) rfl
  ·
   intro iM
   replace iM:=cP iM
   apply(wF)
   apply(P0)
   exact iA
  intro o7
  apply(fD)
  apply dT (aD:=[_,_,_,_,_,_,_,_]) (j:=7) (b4:=101) rfl rfl (by rfl) rfl (show _=Value.bool _ from rfl) rfl
  ·
   intro nV
   replace nV:=cP nV
   apply(cJ)
   apply(BQ)
   apply lR (aD:=[_,_,_,_]) (j:=10) (b4:=104) rfl rfl (by rfl) rfl (show _=Value.bool _ from rfl) rfl
   ·
    intro HB
    replace HB:=cP HB
    obtain⟨z,dI⟩:=a5B HB
    obtain⟨aAP,aAQ,aAR,aAS⟩:=Kl z dI
    obtain⟨a25,a26⟩:=a24 z dI
    have S9:=R8 aAQ
    have bAi:=S9.places
    have bAj:=S9.Z
    apply(lG)
    apply(lG)
    refine eD rfl (aJB HQ K0 _ _ ⟨aAP.places.mono λr O=>aU (List.mem_append_right _ O),aAP.Z.mono λr O=>aU (List.mem_append_right _ O)⟩ TA (by rw[aAR,a25]) (by rw[aAS,a26]) (by omega)) ?_
    apply(NB)
    exact iA
   intro aNc
   exact iA
  intro WX
  apply(dD)
  refine aJ (λcK=>?_) (λcK=>?_)
  ·
   (exfalso;simp at cK)
  apply(CI)
  obtain⟨p1,VZ⟩:∃p1,p1=Zm++(eF++oL):=⟨_,rfl⟩
  have Ke:∀r∈oL,aN r p1:=λr O=>aU (by rw[VZ];exact List.mem_append_right _ (List.mem_append_right _ O))
  have PC:∀r∈R,aN r p1:=λr O=>((Kh r O).mono Sx).mono Ke
  refine w8 (show _=p1 by rw[VZ]) ?_
  rw[<-VZ]at TA
  have Dl:=IC aK4 Ke
  have SL:=T9 (T9 DM Sx) Ke
  have b0Q:qF ⟨m3,a.bD,a.a8⟩ p1:=⟨rQ.places.mono Ke,rQ.Z.mono Ke,Dl.bD,Dl.a8⟩
  have b0L:mU m3 A:=(a0d m3 A).1 (by rw[OO,wS,Tz];exact(a0d a.aE A).2 xM)
  apply(e1)
  apply(vX)
  apply(dO)
  intro vI
  apply(p6)
  apply(lG)
  apply(gF)
  refine OR M rfl rfl rfl rfl (by repeat(first|apply aC2|apply aC3|apply aC4)) (by rfl) (by rfl) (by rfl) ?_
  apply(j6)
  refine e7 (show _=⟨vI,bT.cells ⟨m3,a.bD,a.a8⟩,32⟩::⟨FG,K0.cells,28⟩::⟨zH,HQ.cells,28⟩::⟨rM,e.cells,55⟩::⟨jB,m3.cells,28⟩::⟨fK,s.cells,35⟩::⟨dU,a.cells,32⟩::L from rfl) ?_
  apply(e1)
  apply(y7)
  refine dN rfl (Qf a s A _ _ Dl SL (λ_=>xM)) rfl ?_
  rintro v E R' ⟨p,rfl,iN,dC,rfl,rfl⟩
  rw[a17]
  refine aA (mN rfl) rfl ?_
  apply(C8)
  apply(p5)
  apply(y7)
  refine dN rfl (Qf ⟨m3,a.bD,a.a8⟩ s A _ _ b0Q SL (λ_=>b0L)) rfl ?_
  rintro v E R' ⟨dQ,rfl,Un,Lc,rfl,rfl⟩
  rw[aRX wS Tz]at Lc|-
  rw[a17]
  have l2:p.l.length=a.aE.Z.l.length:=by rw[dC,b1H]
  refine aA (mN rfl) rfl ?_
  apply(C8)
  apply(FA)
  apply(vC)
  apply dT (aD:=[_,_]) (j:=2) (b4:=128) rfl rfl (by rfl) rfl (show _=Value.bool _ from rfl) rfl
  ·
   intro iM
   replace iM:=cP iM
   apply(cJ)
   apply(P0)
   exact iA
  intro o7
  apply(fD)
  apply dT (aD:=[_,_,_,_]) (j:=6) (b4:=132) rfl rfl (by rfl) rfl (show _=Value.bool _ from rfl) rfl
  ·
   intro n1
   replace n1:=cP n1
   apply(gQ)
   apply(gQ)
   refine eD rfl (aR8 (by repeat(first|exact Hq|apply Qj|apply Qw)) (by repeat(first|exact Hq|apply Qj|apply Qw)) iN Un (dC.trans Lc.symm)) ?_
   apply(NB)
   exact iA
  intro Af
  apply(fD)
  apply dT (aD:=[_,_,_,_,_,_,_]) (j:=12) (b4:=138) rfl rfl (by rfl) rfl (show _=Value.bool _ from rfl) rfl
  ·
   intro xR
   replace xR:=cP xR
   apply(j0)
   apply(xG)
   apply(P0)
   exact iA
  intro aNd
  apply(dD)
  refine aJ (λdE=>?_) (λdE=>?_)
  ·
   (exfalso;simp[l2]at dE)
  apply(FC)
  apply(AL)
  refine aJ (λgZ=>?_) (λgZ=>?_)
  ·
   obtain⟨z,dI⟩:=a5B gZ
   obtain⟨aAP,aAQ,aAR,aAS⟩:=Kl z dI
   obtain⟨a25,a26⟩:=a24 z dI
   have vT:=aXw dI
   rw[<-a25,<-a26]at vT
   have aM7:iB K0=0:=by rw[<-aD3,a25,a26,<-aAR,<-aAS,aD3];exact aAQ
   have aLS:=aSA G2.DI G2.O4 aM7 vT.1 vT.2
   obtain⟨B,Sy⟩:=a69 K0
   obtain⟨fH,fF⟩:=aHn a.aE
   obtain⟨b7F,b09⟩:=aHn K0
   have b0W:qF ⟨K0,a.bD,a.a8⟩ p1:=⟨TA.places,TA.Z,Dl.bD,Dl.a8⟩
   refine cC ?_
   refine sN (E:=⟨vI,bT.cells ⟨m3,a.bD,a.a8⟩,32⟩::⟨FG,K0.cells,28⟩::⟨zH,HQ.cells,28⟩::⟨rM,e.cells,55⟩::⟨jB,m3.cells,28⟩::⟨fK,s.cells,35⟩::⟨dU,a.cells,32⟩::L) (by repeat(first|exact TZ _|exact X3 _|apply T0|apply T1|apply X4|apply X5)) (oV _) ?_
   apply(e1)
   apply(lG)
   apply(gF)
   refine OR M rfl rfl rfl rfl (by repeat(first|apply aC2|apply aC3|apply aC4)) (by rfl) (by rfl) (by rfl) ?_
   apply(j6)
   refine e7 (show _=⟨vI,bT.cells ⟨K0,a.bD,a.a8⟩,32⟩::⟨FG,K0.cells,28⟩::⟨zH,HQ.cells,28⟩::⟨rM,e.cells,55⟩::⟨jB,m3.cells,28⟩::⟨fK,s.cells,35⟩::⟨dU,a.cells,32⟩::L from rfl) ?_
   apply(e1)
   apply(y7)
   apply(y7)
   refine dN rfl (aRM a ⟨K0,a.bD,a.a8⟩ s s ⟨none,0,[]⟩ A B _ _ _ _ Dl SL b0W SL ((FM.mono Sx).mono Ke) (λf aH=>by cases aH) (Nat.zero_le _) (λ_=>xM) (λ_=>Sy) (fF _) (b09 _)) rfl ?_
   rintro v E R' ⟨bA0,rfl,Aa,a2Z,rfl,rfl⟩
   rw[aLS]
   have vS:=congrArg a0A.lost a2Z
   rw[Qr,if_pos aLS]at vS
   refine aA (mN rfl) rfl ?_
   apply(OG)
   intro OZ
   apply(E7)
   apply(j6)
   refine jR M [0,1,2,3,4,5,6,7,8,9,10,11] ([bQ.mk OZ _ _,bQ.mk FG _ _,bQ.mk dU _ _]) mixed (by kernel_rfl) (by repeat(first|exact TZ _|exact X3 _|apply T0|apply T1|apply X4|apply X5)) ?_
   apply(j7)
   refine b7 (aE8 rfl rfl) rfl rfl rfl ?_
   apply(KT)
   refine zC (k:=161) (show _=Value.bool _ from rfl) (λj3=>?_) (λj3=>?_)
   ·
    replace j3:=cP j3
    simp at j3
   replace j3:=cP j3
   apply(nQ)
   apply(rS)
   apply(Vp)
   apply(Vp)
   refine zD rfl (aZw a.aE K0 _ _ Dl.TE TA KI aM7) rfl rfl ?_
   rintro v E R' ⟨bL,X6,b7D,aTl,rfl,b4d,b0M,b0P,aMz,rfl,rfl⟩
   refine⟨(by repeat(first|exact TZ _|exact X3 _|apply T0|apply T1|apply X4|apply X5)),(by first|exact oV _|assumption|exact(λr h=>aU (by simp[h]))),?_⟩
   refine xZ rfl (aTG (by repeat(first|exact Hq|apply Qj|apply Qw)) (by repeat(first|exact Hq|apply Qj|apply Qw)) Aa.l b4d (by rw[aMz,a0k xM b0M,a0k Sy b0P];exact vS)) ?_
   refine b7 (UT rfl) rfl rfl rfl ?_
   apply(C7)
   refine aJ (λfW=>?_) (λfW=>?_)
   ·
    (exfalso;simp at fW)
   apply(gI)
   refine eD rfl (aI5 _ _) ?_
   apply(sP)
   refine kN (E:=L) (R':=R) (qI rfl (EL (show _=Value.bool _ from rfl))) ?aG ?b3 ?b8
   case aG=>exact⟨rfl,rfl,rfl⟩
   case b3=>exact(by repeat(first|exact TZ _|exact X3 _|apply T0|apply T1|apply X4|apply X5))
   case b8=>exact λr O=>(PC r O).mono λr O=>aU (by simp[O])
  apply(gI)
  refine eD rfl (aI5 _ _) ?_
  apply(sP)
  refine kN (E:=L) (R':=R) (qI rfl (EL (show _=Value.bool _ from rfl))) ?aG ?b3 ?b8
  case aG=>exact⟨rfl,rfl,rfl⟩
  case b3=>exact(by repeat(first|exact TZ _|exact X3 _|apply T0|apply T1|apply X4|apply X5))
  case b8=>exact λr O=>(PC r O).mono λr O=>aU (by simp[O])
end
end Go.Proofs.YtdiajbdaadlfhaaGreatDoor
/-
  The statement TopSurveyed: it returns true for all inputs, and the inputs read as they did. Condition: the listed tables of Go's own library hold what its text lays in them.
-/
namespace Go.Proofs.YtdiajbdaadlfhaaGreatDoor
open Go.Aw Go Go.Proofs.Tryz
open Go.ChangeShapes Go.WideShapes Go.ChangeAt Go.RowKit
namespace topSurveyed
theorem aS7{H:Type}{enc:TypeId×Value->H}{a:Assume}{C:Checked}{os:Os}{f:FuncId}{fn:Func}{s:ChangeSpec}{h2:List PathCond}{apart vM aLA again:Bool}{X:World->Array Value->Prop}
    (SO:∀(w w':World) (args:Array Value),w.heap=w'.heap->X w args->X w' args)
    (own:ownKnob C.prog.godebug=none) (Vu:os.Started) (b5Z:C.prog.inits.idxOf? f=none) (FN:C.prog.funcs[f]?=some fn)
    (aBU:∃(w:World) (tape:Tape) (i:Input),w.os=os/\(w.forCall tape i).Shaped C.prog/\i.vars=[]/\Input.okWide C.prog (w.forCall tape i) .any w.heap.size f i/\
      ((s.pre enc C.prog fn h2 apart (w.forCall tape i).memory i.args/\X (w.forCall tape i).memory i.args)/\sizedMet enc C.prog fn (OpenSpec.ofChange s) apart (w.forCall tape i).memory i.args)/\a.holds C.prog (lone (Frame.enter C.prog f i.args .normal) [] (w.forCall tape i)))
    (b0c:∀(iE:World) (a8f:Nat) (args:Array Value) (ds nT:List (DataW H)) (FH:List MemPlace),
      (∀(j:Nat) t v,fn.params[j]?=some t->args[j]?=some v->Value.okWide C.prog iE .any a8f t v)->
      DataW.Whole enc C.prog fn.params.toList s.vars apart iE args.toList ds nT FH->X iE args->iE.ShapedOpen C.prog->
      Calls C.prog f args iE λe yB=>∃v,e=.returned v/\s.post enc C.prog fn apart vM aLA again iE args v yB):
    ReturnsInHanded a C os f .any (λw args=>(s.pre enc C.prog fn h2 apart w args/\X w args)/\sizedMet enc C.prog fn (OpenSpec.ofChange s) apart w args) (s.post enc C.prog fn apart vM aLA again):=by
  refine returnsInHanded_of_calls own Vu b5Z aBU ?_
  intro w tape i _ KN _ bM WL _
  obtain⟨_,_,_,b0p,b2C,_,_,_,_,Z9⟩:=bM
  have e:b0p=fn:=Option.some.inj (b2C.symm.trans FN)
  subst e
  obtain⟨⟨⟨ds,nT,FH,cE,bU⟩,K⟩,dI⟩:=WL
  have PP:=DataW.Whole.of_heap (w':=w.forCall tape i) (by rfl) cE
  refine(b0c (w.forCall tape i) w.heap.size i.args ds nT FH Z9 PP (SO _ _ _ (by rfl) K) KN).mono λe yB ⟨v,V,aG⟩=>?_
  subst V
  exact ChangeSpec.post_blind aG
theorem aWL{w:World}{a:bP Int}{wX:Int}(h:p2 w (Zi w) (k3 a))(bV:w.heap[0]?=some ((uN wX).T.FZ (uN wX).cs))(G:w.heap[1]?=some (s3.T.FZ s3.cs)):p2 w (λb=>b<w.heap.size/\b≠0/\b≠1) (k3 a):=by
  generalize aF:k3 a=s at h|-
  cases h with
  | @mk aI iZ len cap rows eE aZ bU a1 cE O mA=>
  simp only[k3,bP.eJ,eT.mk.injEq]at aF
  obtain⟨dH,eH,nS,B3,O2,b0g⟩:=aF
  subst b0g
  refine .mk aZ bU a1 cE ?_ (λs aF=>by cases aF)
  rcases O with O|⟨b,off,bX,bE,DC⟩
  ·exact .inl O
  · cases dI:a.l with
    |nil=>left;rw[<-O2,dI];rfl
    |cons n l=>
      have bI:=DC 0 0 (by rw[<-aZ,<-O2,dI,List.map_cons,List.length_cons];omega) (by rw[<-dH];omega)
      rw[<-O2,dI]at bI
      have bI:w.cell? ⟨b,off+0*aI+0,none⟩=some (.int .u8 n):=bI
      refine .inr ⟨b,off,bX,⟨bE,λe=>?_,λe=>?_⟩,DC⟩
      · subst e
        have bV:w.heap[0]?=some (.cells #[.int .i64 wX] 3 (0,0)):=bV
        simp only[World.cell?,bV]at bI
        have a1:Value.int .u8 n∈#[Value.int .i64 wX]:=Array.mem_of_getElem? (by simpa using bI)
        simp at a1
      · subst e
        have G:w.heap[1]?=some (.cells s3.cs.toArray 334 (0,0)):=G
        simp only[World.cell?,G]at bI
        have a1:Value.int .u8 n∈s3.cs.toArray:=Array.mem_of_getElem? (by simpa using bI)
        have a1:Value.int .u8 n∈Lib.pow10Tab.map λz=>Value.int .u64 z:=by rw[s3,List.mem_toArray]at a1;exact a1
        obtain⟨z,_,dI⟩:=List.mem_map.1 a1
        cases dI
theorem qD(a0:bP Int)(wX:Int)(w:World)(fZ:∀n∈a0.l,(Lit.int .u8 n).wf=true)(CL:∀s∈[k3 a0],p2 w (Zi w) s)(bV:w.heap[0]?=some ((uN wX).T.FZ (uN wX).cs))(G:w.heap[1]?=some (s3.T.FZ s3.cs)):
    Calls prog 3 #[a0.val] w λe w'=>e=.returned (.bool true)/\Below w.heap.size w w':=by
  have jU:0<w.heap.size:=(Array.getElem?_eq_some_iff.1 bV).1
  have vU:1<w.heap.size:=(Array.getElem?_eq_some_iff.1 G).1
  have hold:∀e∈[s3,uN wX],w.heap[e.b]?=some (e.T.FZ e.cs):=λe V=>by
    simp only[List.mem_cons,List.not_mem_nil,or_false]at V
    rcases V with rfl|rfl
    ·exact G
    ·exact bV
  have h:=(aZQ a0 wX [s3,uN wX] [k3 a0] ⟨aU (by simp),λi b aT=>aWr (fZ b (List.mem_of_getElem? aT))⟩ (.head _) (.tail _ (.head _))).2 w (λb=>b<w.heap.size/\b≠0/\b≠1) ⟨by simp[s3,uN],hold,λe V=>by
    simp only[List.mem_cons,List.not_mem_nil,or_false]at V
    rcases V with rfl|rfl
    ·exact λh=>h.2.2 rfl
    ·exact λh=>h.2.1 rfl,λb aT=>aT.1,λr O=>by
    rw[List.mem_singleton.1 O]
    exact aWL (CL _ (.head _)) bV G⟩
  refine h.mono λe w' ⟨v,E,R',V,⟨cS,b3,_⟩,cW⟩=>⟨by rw[V,cS],⟨cW.HK.os,cW.HK.tape,cW.HK.output,cW.HK.size,λk Y=>?_⟩⟩
  subst b3
  by_cases jQ:wU [s3,uN wX] k
  · obtain⟨e,V,rfl⟩:=jQ
    obtain⟨aD,bF,_⟩:=cW.aD
    rw[bF.own e V,hold e V]
  ·exact cW.HK.block k Y jQ
abbrev laid:List (String×DataW Unit):=Rows.topSurveyedRow.laid
theorem aVF{iE:World}(h:laidMetH prog laid iE):iE.var? prog "internal/strconv.uint64pow10" =some (Lib.pow10Tab.map fun z=>Value.int .u64 z).toArray:=by
  rw[MakeChecks.laidMetH_plain _ _ _ (by kernel_rfl)]at h
  obtain⟨ps,⟨_,_,_,_,_,_,_,_,_,_,⟨_,_,_,_,_,_,_,_,_,_,⟨g,t,cs,hK,p,q,bE,gJ,cS,a7,_,_⟩,_⟩,_⟩,_,_⟩:=h
  obtain rfl:=Option.some.inj ((show prog.globalNamed "internal/strconv.uint64pow10" =some 1 by kernel_rfl).symm.trans bE)
  obtain rfl:=Option.some.inj ((show(prog.globals[1]?).map (·.type)=some 334 by kernel_rfl).symm.trans gJ)
  have a7:DataW.trod (λ_=>()) prog iE 0 (λ_=>true) false hK 334 cs.toList=some (Lib.tabData .u64 Lib.pow10Tab,p):=a7
  rw[cS,<-Lib.cells_of_tab (n:=20) (e:=319) (by kernel_rfl) (by kernel_rfl) (by kernel_rfl) (by kernel_rfl) a7]
theorem aTK{iE:World}(aF:iE.ShapedOpen prog)(h:laidMetH prog laid iE):(∃wX,iE.heap[0]?=some ((uN wX).T.FZ (uN wX).cs))/\iE.heap[1]?=some (s3.T.FZ s3.cs):=by
  obtain⟨wX,a1⟩:=cell_of_shapedOpen_int (g:=0) (zero:=#[.int .i64 0]) (t:=3) (k:=.i64) aF (of_decide_eq_true (by kernel_rfl)) (by kernel_rfl) rfl (by kernel_rfl) (by kernel_rfl) (by kernel_rfl)
  obtain⟨Dj,bV,z0,_⟩:=aF.1 0 #[.int .i64 0] 3 (of_decide_eq_true (by kernel_rfl)) (by kernel_rfl)
  obtain⟨wN,G,nK,_⟩:=aF.1 1 (Array.replicate 20 (.int .u64 0)) 334 (of_decide_eq_true (by kernel_rfl)) (by kernel_rfl)
  have gJ:=aVF h
  refine⟨⟨wX,?_⟩,?_⟩
  · obtain⟨l⟩:=Dj
    have z0:l.length=1:=z0
    match l,z0 with
    |[v],_=>
      simp only[World.cell?,bV]at a1
      have a1:some v=some (Value.int .i64 wX):=by simpa using a1
      rw[bV,Option.some.inj a1];rfl
  · have cS:=aFN (w:=iE) (b:=⟨1,wN.toList,334⟩) (name:= "internal/strconv.uint64pow10") (by kernel_rfl) rfl (by
      rw[G]
      show some (Obj.cells wN 334 (0,0))=some (.cells wN.toList.toArray 334 (0,0))
      rw[Array.toArray_toList])
    have e:=Option.some.inj (cS.symm.trans gJ)
    have e:wN=(Lib.pow10Tab.map λz=>Value.int .u64 z).toArray:=by rw[<-e]
    rw[G,e];rfl
set_option maxRecDepth 100000 in
theorem aBU(os:Os)(H:Type)(enc:TypeId×Value->H):∃(w:World) (tape:Tape) (i:Input),w.os=os/\(w.forCall tape i).Shaped checked.prog/\i.vars=[]/\Input.okWide checked.prog (w.forCall tape i) .any w.heap.size 3 i/\
      ((Rows.topSurveyedSpec.pre enc checked.prog f3 Rows.topSurveyedRow.domain false (w.forCall tape i).memory i.args/\laidMetH prog laid (w.forCall tape i).memory)/\sizedMet enc checked.prog f3 (OpenSpec.ofChange Rows.topSurveyedSpec) false (w.forCall tape i).memory i.args)/\({}:Assume).holds checked.prog (lone (Frame.enter checked.prog 3 i.args .normal) [] (w.forCall tape i)):=
  ChangeSpec.witness_shaped (enc:=enc) (C:=checked) (os:=os) (X:=λw _=>laidMetH prog laid w) false (World.laidAll prog os laid) #[.slice none 0 0] 8 (World.laidAll_os _ _ _)
    (World.shaped_of_ZipB (by kernel_rfl) (by kernel_rfl)) (by kernel_rfl) (by kernel_rfl) (by kernel_rfl)
    (by rw[MakeChecks.laidMetH_plain _ _ _ (by kernel_rfl)];exact laidMet_laidAll _ (by kernel_rfl) (by kernel_rfl))
set_option maxRecDepth 100000 in
theorem aSM(os:Os)(Vu:os.Started)(H:Type)(enc:TypeId×Value->H):
    ReturnsInHanded {} checked os 3 .any (λw args=>(Rows.topSurveyedSpec.pre enc prog f3 Rows.topSurveyedRow.domain false w args/\laidMetH prog laid w)/\sizedMet enc prog f3 (OpenSpec.ofChange Rows.topSurveyedSpec) false w args)
      (Rows.topSurveyedSpec.post enc prog f3 false true false false):=by
  refine aS7 (C:=checked) (X:=λw _=>laidMetH prog laid w) (λ_ _ _ bF h=>h.of_heap bF) aZP Vu (by kernel_rfl) func3 (aBU os H enc) ?_
  intro iE a8f args ds nT FH aM0 xN b25 b4N
  have Z9:∀(j:Nat) t v,f3.params[j]?=some t->args[j]?=some v->Value.okWide prog iE .any a8f t v:=aM0
  have b1y:=xN
  obtain⟨p,q,aK3,PI,rfl,ZV,xT⟩:=xN
  have hD:DataW.TrodAll enc prog iE 0 (λ_=>true) true f3.params.toList args.toList ds p:=aK3
  rw[params3]at hD Z9
  obtain⟨v0,bAZ,SE,b8m,rC,bAP,b8M,rfl,rfl,bV,t0⟩:=trodAll_cons hD
  obtain⟨rfl,rfl,rfl⟩:=trodAll_nil t0
  obtain rfl:args=#[v0]:=by cases args;simp_all
  obtain⟨rfl,rfl⟩:=trodVars_none PI
  obtain⟨NH,a3E,z0,rfl⟩:=okWide_slice underlying22 (Z9 0 22 v0 rfl rfl)
  have jJ:=bV
  have b5R:∀x∈rC,x.block<iE.heap.size:=by obtain⟨m,a1⟩:=jJ;exact DataW.trod_lt m _ _ _ a1
  obtain⟨a0,VP,fZ,CL⟩:∃a:bP Int,_:=aXk iE _ (by obtain⟨m,a1⟩:=bV;exact⟨_,_,m,_,a1⟩)
  obtain⟨rfl,rfl,rfl⟩:NH=a0.a/\a3E=a0.l.length/\z0=a0.cap:=by simpa[Value.cells,bP.val]using VP
  obtain⟨⟨wX,KG⟩,mQ⟩:=aTK b4N b25
  clear aK3 aM0
  refine(qD a0 wX iE fZ CL KG mQ).mono λe yB ⟨V,aKy⟩=>?_
  subst V
  exact⟨_,rfl,_,_,_,[],_,[],b1y,trodAll_mk1 (shut_bool underlying4 _),(trodAll_cons_mk (Below.trod aVH (by kernel_rfl) (of_decide_eq_true (by kernel_rfl)) jJ aKy b5R) trodAll_mk0),rfl,aKy.frame _,λh=>by cases h⟩
end topSurveyed
end Go.Proofs.YtdiajbdaadlfhaaGreatDoor
namespace Go.Proofs.YtdiajbdaadlfhaaGreatDoor
open Go.Aw Go Go.Proofs.Tryz
end Go.Proofs.YtdiajbdaadlfhaaGreatDoor
