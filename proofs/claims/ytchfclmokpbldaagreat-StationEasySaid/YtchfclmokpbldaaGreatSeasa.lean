-- By an AI agent; no person has read it.
import Derived.Test.YtchfclmokpbldaaGreatDone22
import Derived.Test.YtchfclmokpbldaaGreatRefT
import Derived.Test.YtchfclmokpbldaaGreatRefA
import Derived.Test.YtchfclmokpbldaaGreatFeedY
import Derived.Test.YtchfclmokpbldaaGreatFeedP
import Derived.Test.YtchfclmokpbldaaGreatSiteD
import Derived.Test.YtchfclmokpbldaaGreatCloneS
import Derived.Test.YtchfclmokpbldaaGreatCutB
import Derived.Test.YtchfclmokpbldaaGreatRefP
import Derived.Test.YtchfclmokpbldaaGreatSeqS
import Derived.Test.YtchfclmokpbldaaGreatFits
import Derived.Test.YtchfclmokpbldaaGreatRows
set_option linter.unusedVariables false
set_option linter.unusedSimpArgs false
set_option maxRecDepth 20000
namespace Go.Proofs.YtchfclmokpbldaaGreat
open Go.Aw Go Go.Proofs.Tryz
section
attribute [local irreducible] cQ dF dV aM cP eC e5 e1 e2 e6 eX e4 J.L
section
variable{O3 O4:Prop}
theorem Ka(a:O3)(h:O3->O4:=by exact aI (u4 (row:=[_,_,_,_,_,_,_,_,_,_,_,_,_,_,_,_,_,_,_,_,_,_,_]) N rfl rfl rfl (by repeat(first|exact ML|apply MM|apply MN)) (by rfl) (by rfl)) rfl):O4:=h a
end
set_option maxHeartbeats 1000000 in
theorem aXB(g:hL)(p:bZ)(x:cL)(a:kC)(L:List bN)(R:List fJ)(eT:Inv g p)(K:h3 g p x)(bO:kU x R)(N1:aL (gX a.bytes) R)(bT:Ov a.p)(QK:0<=p.eK/\p.eK<=1152921504606846976):
    aM prog 66 [x.val,a.val].toArray L R (Dh g (q4 g p a.p) L R):=by
  have r2:=eT.time
  have LZ:=K.time
  have dH:-2147483648<=a.l8/\a.l8<=2147483648:=bT.l8
  have a3:-1000<=a.m/\a.m<=1000:=bT.m
  have b2B:a.p.kind=a.kind:=rfl
  refine b6 69 call66 func66 rfl rfl rfl ?_
  apply(dB)
  intro eH
  apply(iV)
  intro eS
  apply(dZ)
  intro eD
  apply(mO)
  apply(j0)
  apply(k3)
  apply(LH)
  refine eZ (a8 (fR (bK (bK (c2 ?_)))))
  apply(vX)
  refine F3 [14,16,17] ((⟨λq=>[(14,.bool q.1)],λ_=>⟨eD,uD.cells,54⟩::⟨eS,a.cells,144⟩::⟨eH,x.cells,54⟩::L,λ_=>R,λ_=>0⟩:fB {b:Bool//b=decide (BT a.p)})) ?_ ?_
  ·
   skip
   refine U (λaQ=>?_) (λaQ=>?_)
   ·
    refine eP ?_
    exact wU ⟨decide (a.kind=0),by rw[decide_eq_true aQ];exact(decide_eq_true (p:=BT a.p) (.inl aQ)).symm⟩
   apply(oI)
   refine U (λbL=>?_) (λbL=>?_)
   ·
    refine eP ?_
    exact wU ⟨decide (a.kind=1),by rw[decide_eq_true bL];exact(decide_eq_true (p:=BT a.p) (.inr (.inl bL))).symm⟩
   apply(eB)
   apply(XJ)
   apply(nG)
   apply(DI)
   exact wU ⟨decide (a.kind=2),aEn (a:=a.p) aQ bL⟩
  rintro⟨a7X,TE⟩ cH
  try dsimp only
  have b5U:((BT a.p:Prop)↔a7X=true):=by rw[TE];simp
  refine U (λcC=>?_) (λcC=>?_)
  ·
   have uV:BT a.p:=by simpa[TE]using cC
   have nD:q4 g p a.p=FD g p a.bytes.l (x.time+a.l8):=by rw[q4,if_pos uV,LZ];rfl
   apply(dC)
   refine Ka ?_
   apply(gK)
   refine dT rfl (b0r g p x a.bytes (x.time+a.l8) _ _ eT K bO N1 bT.bytes bT.len QK) rfl ?_
   rintro v E G ⟨y,rfl,aS,iG,rfl,kJ⟩
   apply(Kf)
   refine bQ (E:=L) (G:=_) (yK rfl (K0 (row:=[_,_,_,_,_,_,_,_,_,_,_,_,_,_,_,_,_,_,_,_,_,_,_]) N rfl rfl rfl (by repeat(first|exact ML|apply MM|apply MN)) (by rfl) (by rfl)) (I7 (show _=Value.int _ _ from rfl))) ?_
   exact⟨y,by rw[nD],by rw[nD];exact aS,iG,rfl,kJ⟩
  have uV:¬BT a.p:=by simpa[TE]using cC
  apply(oI)
  refine U (λdX=>?_) (λdX=>?_)
  ·
   have nD:q4 g p a.p=AF g p a.n (a.m-1) (x.time+a.l8):=by rw[q4,if_neg uV,if_pos (show a.p.kind=3 from dX),LZ];rfl
   apply(dC)
   refine Ka ?_
   apply(j0)
   apply(j3)
   apply(cE)
   refine dT rfl (aVl g p x a.n (a.m-1) (x.time+a.l8) _ _ eT K bO) rfl ?_
   rintro v E G ⟨y,rfl,aS,iG,rfl,kJ⟩
   apply(Kf)
   refine bQ (E:=L) (G:=_) (yK rfl (K0 (row:=[_,_,_,_,_,_,_,_,_,_,_,_,_,_,_,_,_,_,_,_,_,_,_]) N rfl rfl rfl (by repeat(first|exact ML|apply MM|apply MN)) (by rfl) (by rfl)) (I7 (show _=Value.int _ _ from rfl))) ?_
   exact⟨y,by rw[nD],by rw[nD];exact aS,iG,rfl,kJ⟩
  apply(oI)
  refine U (λdY=>?_) (λdY=>?_)
  ·
   have nD:q4 g p a.p=x0 g p a.n a.m (x.time+a.l8):=by rw[q4,if_neg uV,if_neg (show¬a.p.kind=3 from dX),if_pos (show a.p.kind=4 from dY),LZ];rfl
   apply(dC)
   refine Ka ?_
   apply(fD)
   apply(gK)
   refine dT rfl (aWd g p x a.n a.m (x.time+a.l8) _ _ eT K bO) rfl ?_
   rintro v E G ⟨y,rfl,aS,iG,rfl,kJ⟩
   apply(Kf)
   refine bQ (E:=L) (G:=_) (yK rfl (K0 (row:=[_,_,_,_,_,_,_,_,_,_,_,_,_,_,_,_,_,_,_,_,_,_,_]) N rfl rfl rfl (by repeat(first|exact ML|apply MM|apply MN)) (by rfl) (by rfl)) (I7 (show _=Value.int _ _ from rfl))) ?_
   exact⟨y,by rw[nD],by rw[nD];exact aS,iG,rfl,kJ⟩
  apply(oI)
  refine U (λh1=>?_) (λh1=>?_)
  ·
   have nD:q4 g p a.p=z1 g p a.n (x.time+a.l8):=by rw[q4,if_neg uV,if_neg (show¬a.p.kind=3 from dX),if_neg (show¬a.p.kind=4 from dY),if_pos (show a.p.kind=5 from h1),LZ];rfl
   apply(dC)
   refine Ka ?_
   apply(gK)
   refine dT rfl (b0M g p x a.n (x.time+a.l8) _ _ eT K bO) rfl ?_
   rintro v E G ⟨y,rfl,aS,iG,rfl,kJ⟩
   apply(Kf)
   refine bQ (E:=L) (G:=_) (yK rfl (K0 (row:=[_,_,_,_,_,_,_,_,_,_,_,_,_,_,_,_,_,_,_,_,_,_,_]) N rfl rfl rfl (by repeat(first|exact ML|apply MM|apply MN)) (by rfl) (by rfl)) (I7 (show _=Value.int _ _ from rfl))) ?_
   exact⟨y,by rw[nD],by rw[nD];exact aS,iG,rfl,kJ⟩
  apply(oI)
  refine U (λh2=>?_) (λh2=>?_)
  ·
   have nD:q4 g p a.p=zU g p (x.time+a.l8):=by rw[q4,if_neg uV,if_neg (show¬a.p.kind=3 from dX),if_neg (show¬a.p.kind=4 from dY),if_neg (show¬a.p.kind=5 from h1),if_pos (show a.p.kind=6 from h2),LZ];rfl
   apply(dC)
   refine Ka ?_
   apply(cE)
   refine dT rfl (aWh g p x (x.time+a.l8) _ _ eT K bO) rfl ?_
   rintro v E G ⟨y,rfl,aS,iG,rfl,kJ⟩
   apply(Kf)
   refine bQ (E:=L) (G:=_) (yK rfl (K0 (row:=[_,_,_,_,_,_,_,_,_,_,_,_,_,_,_,_,_,_,_,_,_,_,_]) N rfl rfl rfl (by repeat(first|exact ML|apply MM|apply MN)) (by rfl) (by rfl)) (I7 (show _=Value.int _ _ from rfl))) ?_
   exact⟨y,by rw[nD],by rw[nD];exact aS,iG,rfl,kJ⟩
  have nD:q4 g p a.p=FC g p (x.time+a.l8):=by rw[q4,if_neg uV,if_neg (show¬a.p.kind=3 from dX),if_neg (show¬a.p.kind=4 from dY),if_neg (show¬a.p.kind=5 from h1),if_neg (show¬a.p.kind=6 from h2),LZ];rfl
  refine eP (hI (a8 (bK (c2 ?_))))
  refine Ka ?_
  apply(cE)
  refine dT rfl (aVq g p x (x.time+a.l8) _ _ eT K bO) rfl ?_
  rintro v E G ⟨y,rfl,aS,iG,rfl,kJ⟩
  apply(CO)
  apply(oH)
  refine bQ (E:=L) (G:=_) (yK rfl (K0 (row:=[_,_,_,_,_,_,_,_,_,_,_,_,_,_,_,_,_,_,_,_,_,_,_]) N rfl rfl rfl (by repeat(first|exact ML|apply MM|apply MN)) (by rfl) (by rfl)) (I7 (show _=Value.int _ _ from rfl))) ?_
  exact⟨y,by rw[nD],by rw[nD];exact aS,iG,rfl,kJ⟩
end
section
attribute [local irreducible] cQ dF dV aM cP eC e5 e1 e2 e6 eX e4 J.L
end
def aII(x y:bC):Prop:=x.bU<=x.bW/\y.bU<=x.bU/\x.bW<=y.bW
structure aV4(m XE:eE):Prop where
  k5:XE.k5=m.k5
  time:XE.time=m.time
  EW:XE=m\/(aII m.EW XE.EW/\(-1000000000<=XE.EW.bU/\XE.EW.bW<=1000000000))
section
variable{S:List gP}{m XE:List eE}{aA aLD:List bC}{c:qM}{w:fU}{t:Int}(aX:XE.length=m.length)(h:∀i:Nat,i<m.length->aV4 (m.getD i default) (XE.getD i default))(gA:aLD.length=aA.length)(aF:∀i:Nat,i<aA.length->aII (aA.getD i default) (aLD.getD i default))
include aX h
include gA aF
end
section
variable{g:hL}{p:bZ}
end
section
section
variable{P:Program}{bF:Operand->Value}{L:List bN}{R:List fJ}{dst:Option Tmp}{ty:TypeId}{pos:String}{after:Array Edge}{guard:Option (Nat×Bool)}(N:oE P){T:TypeId}{x y z:Operand}
end
theorem aUA{g:hL}{p:bZ}(eT:Inv g p){a:U8}(bT:Ov a):p.eK<=(q4 g p a).1.eK/\(q4 g p a).1.eK<=p.eK+100100:=by
  have aH:=λ(p:bZ) t=>(aUN (g:=g) (p:=p) t).eK
  rw[q4]
  split
  · rw[FD];split
    ·dsimp only;omega
    · dsimp only
      rw[aH]
      have X:=aI8 _ (l:=p.held++a.bytes) p.eK rfl (λx K=>by
        rcases List.mem_append.1 K with K|K
        ·exact eT.held.1 x K
        ·exact bT.bytes x K)
      have aU:=bT.len
      have cK:=eT.held.2
      rw[List.length_append]at X
      show p.eK<=(jO (p.held++a.bytes) p.eK).eK/\(jO (p.held++a.bytes) p.eK).eK<=_
      omega
  have aG:=aH p (p.time+a.l8)
  split
  · rw[AF];split
    ·dsimp only;omega
    split
    ·dsimp only;omega
    ·dsimp only;rw[aH];dsimp only;omega
  split
  · rw[x0];split
    ·dsimp only;omega
    dsimp only
    generalize bP g p (p.time+a.l8)=q at aG|-
    split<;>(dsimp only[nT];omega)
  split
  · rw[z1];split
    ·dsimp only;omega
    dsimp only
    generalize bP g p (p.time+a.l8)=q at aG|-
    split<;>(dsimp only[nT];omega)
  split
  · rw[zU];split
    ·dsimp only;omega
    dsimp only
    generalize bP g p (p.time+a.l8)=q at aG|-
    split<;>(dsimp only[nT];omega)
  · rw[FC];split
    ·dsimp only;omega
    ·dsimp only;rw[aH];omega
attribute [local irreducible] cQ dF dV aM cP eC e5 e1 e2 e6 eX e4 J.L
end
section
attribute [local irreducible] cQ dF dV aM cP eC e5 e1 e2 e6 eX e4 J.L
end
section
structure aIH(g:hL)(j:Nat)(p:bZ)(x:cL)(R S:List fJ):Prop where
  bAk:Inv g p
  is:h3 g p x
  l3:kU x S
  drop:0<=p.eK/\p.eK<=100100*(j:Int)
  sub:∀r∈R,aL r S
attribute [local irreducible] cQ dF dV aM cP eC e5 e1 e2 e6 eX e4 J.L
end
section
attribute [local irreducible] cQ dF dV aM cP eC e5 e1 e2 e6 eX e4 J.L
section
variable{O3 O4:Prop}
theorem a0a(a:O3)(h:O3->O4:=by exact bE (u4 (row:=[_,_,_,_,_,_,_,_,_,_,_,_,_,_,_,_,_,_,_,_,_,_,_]) N rfl rfl rfl (by repeat(first|exact ML|apply MM|apply MN)) (by rfl) (by rfl)) rfl rfl rfl):O4:=h a
theorem a7Q(a:O3)(h:O3->O4:=by exact aI (u4 (row:=[_,_,_,_,_,_,_,_,_,_,_,_,_,_,_,_,_,_,_,_,_,_,_]) N rfl rfl rfl (by repeat(first|exact ML|apply MM|apply MN)) (by rfl) (by rfl)) rfl):O4:=h a
theorem aJc(a:O3)(h:O3->O4:=by exact aI (u4 (row:=[_,_,_]) N rfl rfl rfl (by repeat(first|exact ML|apply MM|apply MN)) (by rfl) (by rfl)) rfl):O4:=h a
theorem aEV(a:O3)(h:O3->O4:=by exact aI (u4 (row:=[_,_,_,_,_]) N rfl rfl rfl (by repeat(first|exact ML|apply MM|apply MN)) (by rfl) (by rfl)) rfl):O4:=h a
end
set_option maxHeartbeats 1000000 in
theorem aXj(y:a4 Int)(R:List fJ)(aS:wE y R):
    aM prog 11 [y.val].toArray [] R (λv E G=>v=.bool true/\[]=E/\R=G):=by
  refine b6 68 call11 func11 rfl rfl rfl ?_
  apply(LA)
  apply(LF)
  refine dT rfl (aDB y _ _ aS) rfl ?_
  rintro v E G ⟨c,rfl,K,rfl,rfl⟩
  apply(T8)
  apply(j8)
  apply(lX)
  refine dT rfl (aIw c _ 0 _ K (Nat.zero_le _)) rfl ?_
  rintro v E G ⟨s,len,qQ,dG,f,n,g9,rfl,c5,rC,⟨hE,_⟩,⟨aH,aF,Ev⟩,rfl⟩
  refine aI (CH rfl) rfl ?_
  apply(CS)
  intro eD
  apply(dZ)
  intro gQ
  apply(jZ)
  apply(HT)
  have sN:∀r∈R,aL r G:=λr M=>Ev r (.tail _ M)
  have TV:wE (Iv y) G:=⟨K.1.mono Ev,K.2⟩
  obtain⟨A,gE⟩:=aJ9 s.b0.aC
  have b2:=a6P (f:=f) c5 rC.IR rC.Y rC.cI rC.bX
  have eT:=a4v (A:=A) b2 gE
  apply(eB)
  refine aI (u4 (row:=[_,_,_,_,_,_,_,_]) N rfl rfl rfl (by repeat(first|exact ML|apply MM|apply MN)) (by rfl) (by rfl)) rfl ?_
  refine aJc ?_
  refine dT rfl (aDP s f A _ _ aH aF gE) rfl ?_
  rintro v E G ⟨x,sC,rfl,Aq,TW,_,rfl,rfl⟩
  rw[b2]
  have K:=TW b2
  refine aI (CH rfl) rfl ?_
  apply(CS)
  intro i1
  apply(jZ)
  apply(PT)
  refine U (λaQ=>?_) (λaQ=>?_)
  ·
   apply(PR)
   refine lH (E:=[]) (G:=R) (sD rfl (I7 (show _=Value.bool _ from rfl))) ?aP ?dI ?bO
   case aP=>exact absurd aQ (by simp)
   case dI=>exact(by repeat(first|exact Cp _|exact Oo _|apply Im|apply Cq|apply Oq|apply Ot))
   case bO=>exact λr M=>(sN r M).mono λr M=>aT (by simp[M])
  refine eP (a8 (bK (bK ?_)))
  have kJ:∀r∈G,aL r (sC++G):=λr M=>aT (List.mem_append_right _ M)
  apply(eB)
  apply(lX)
  refine aJc ?_
  refine dT rfl (aM.aOv (.a1J (.a1J (.a1J (.a7Z .nil)))) (aXr c _ g9 f _ ⟨TV.1.mono kJ,TV.2⟩ hE (aF.mono kJ) (by rw[rC.Y,aX6];exact rC.IR.2))) rfl ?_
  rintro v E G ⟨_,rfl,q,fI,rfl,cJ,sO,l5,kY,rfl⟩
  apply(u0)
  apply(VM)
  refine dS [(6,Value.pointer _),(31,Value.slice _ _ _),(32,Value.int _ _),(33,Value.int _ _)] (by repeat' (first|exact trivial|refine And.intro rfl ?_)) λfK=>?_
  refine hB (T:=144) (f:=kC.cells) (aN:=5) q (q.l.map λa=>gX a.bytes) (by repeat(first|apply sA.cons|exact sA.lT|exact sA.A2|exact sA.at (by assumption)|apply sA.s7)) (λ_=>rfl) (by decide) cJ.ok (λs aH=>by
    obtain⟨a,bT,rfl⟩:=List.mem_map.1 aH
    exact(cJ.all a bT).bytes) ?_
  refine tO (E:=⟨i1,x.cells,54⟩::[]) (by repeat(first|exact Cp _|exact Oo _|apply Im|apply Cq|apply Oq|apply Ot)) (n1 _) ?_
  obtain⟨hG,C5⟩:∃hG,hG=Ru q.V::G:=⟨_,rfl⟩
  have WW:aL (Ru q.V) hG:=aT (by rw[C5];exact .head _)
  have a8E:∀r∈G,aL r hG:=λr M=>aT (by rw[C5];exact .tail _ M)
  have GD:∀r∈R,aL r hG:=λr M=>(sN r M).mono λr M=>(kJ r M).mono λr M=>(kY r M).mono a8E
  have Lp:aIH (vJ s f A) 0 (YH s f) x hG hG:=⟨eT,K,Aq.mono λr M=>(kY r M).mono a8E,⟨Int.le_refl _,Int.le_refl _⟩,λr M=>aT M⟩
  refine wK (show _=hG by rw[C5]) ?_
  refine k2 [2,9,10,11,12,13,33,34,35,36,37,38,39,40,41,42,43,44,45,46,47,48,49,50,51,52,53,54,55,56,57,58,59,60,61,62,63,64,65,66] ((⟨λg=>[(33,.int .i64 ((g.1.1:Nat):Int))],λg=>⟨i1,g.1.2.2.1.cells,54⟩::[],λg=>g.1.2.2.2,λg=>q.l.length-g.1.1⟩:fB {g:Nat×bZ×cL×List fJ//g.1<=q.l.length/\aIH (vJ s f A) g.1 g.2.1 g.2.2.1 hG g.2.2.2})) (⟨(0,YH s f,x,hG),by dsimp only;omega,Lp⟩) ?_
  rintro⟨⟨j,p,u,S⟩,a6,qC⟩ cH
  try dsimp only
  dsimp only at a6 qC
  obtain⟨a1U,KA,AY,b9z,lU⟩:=qC
  have b92:=WW.mono lU
  apply(h0)
  refine U (λbL=>?_) (λbL=>?_)
  ·
   have b7:=bJ (l:=q.l) (k:=j) default (by omega)
   obtain⟨a,a9f⟩:∃a,a=q.l.getD j default:=⟨_,rfl⟩
   rw[<-a9f]at b7
   have b2C:=List.mem_of_getElem? b7
   have N1:=cJ.all a b2C
   have aNd:=λr M=>(a8E r M).mono lU
   apply(j9)
   refine aI (by first|exact j4 N rfl rfl rfl rfl (by first|assumption|exact X5 (by simp)) (i:=j) (by first|rfl|omega|(simp;omega)) (by omega)|exact i5 N rfl rfl rfl rfl (i:=j) (by first|rfl|omega|(simp;omega)) (by omega)) rfl ?_
   apply(SO)
   intro jR
   apply(sI)
   refine a7Q ?_
   refine aEV ?_
   refine dT rfl (aWG (vJ s f A) p u a _ _ a1U KA AY (N1.bytes.mono aNd) N1.ok (by omega)) rfl ?_
   rintro v E G ⟨w,YO,rfl,dH,aBb,rfl,rfl⟩
   have aU:∀r∈S,aL r (YO++S):=λr M=>aT (List.mem_append_right _ M)
   refine aI (CH rfl) rfl ?_
   apply(CS)
   intro i0
   apply(jZ)
   apply(mO)
   refine a7Q ?_
   refine aEV ?_
   refine dT rfl (aXB (vJ s f A) p u a _ _ a1U KA (AY.mono aU) ((N1.bytes.mono aNd).mono aU) N1.ok (by omega)) rfl ?_
   rintro v E G ⟨fO,rfl,vP,a2z,rfl,H9⟩
   obtain⟨s0,rfl⟩:∃s0,s0=G:=⟨_,rfl⟩
   have Ss:=a1U.done N1.ok
   have a9y:=aUA a1U N1.ok
   obtain⟨d,B2⟩:∃d,d=q4 (vJ s f A) p a.p:=⟨_,rfl⟩
   rw[<-B2]at dH vP Ss a9y|-
   have b5L:=aBb.mono H9
   refine aI (CH rfl) rfl ?_
   apply(CS)
   intro n3
   apply(jZ)
   apply(P1)
   refine gZ N [0,1,2,3,4,5,6,7,8,9,10,12,11,13,14,15] ([bN.mk n3 _ _,bN.mk i0 _ _]) dO (by kernel_rfl) (by repeat(first|exact Cp _|exact Oo _|apply Im|apply Cq|apply Oq|apply Ot)) ?_
   apply(hK)
   apply(hK)
   refine bE (a54 rfl rfl) rfl rfl rfl ?_
   apply(sS)
   refine lQ (k:=52) (show _=Value.bool _ from rfl) (λfQ=>?_) (λfQ=>?_)
   ·
    replace fQ:=bB fQ
    simp at fQ
   replace fQ:=bB fQ
   refine a0a ?_
   refine a0a ?_
   refine lW rfl (h3.aB7 Ss dH vP b5L a2z) ?_
   refine bE (NQ rfl) rfl rfl rfl ?_
   apply(k1)
   refine lQ (k:=58) (show _=Value.bool _ from rfl) (λgH=>?_) (λgH=>?_)
   ·
    replace gH:=bB gH
    simp at gH
   replace gH:=bB gH
   refine a0a ?_
   refine a0a ?_
   refine lW rfl (aXz (vJ s f A) d.1 fO _ _ Ss vP a2z) ?_
   refine lW rfl (aYv (vJ s f A) d.1 fO _ _ Ss vP a2z) ?_
   refine bE (a54 rfl rfl) rfl rfl rfl ?_
   apply(l2)
   refine U (λcC=>?_) (λcC=>?_)
   ·
    apply(LA)
    apply(Bg)
    refine lH (E:=[]) (G:=R) (sD rfl (I7 (show _=Value.bool _ from rfl))) ?aP ?dI ?bO
    case aP=>exact absurd cC (by simp)
    case dI=>exact(by repeat(first|exact Cp _|exact Oo _|apply Im|apply Cq|apply Oq|apply Ot))
    case bO=>exact λr M=>(GD r M).mono λr M=>(lU r M).mono λr M=>(aU r M).mono H9
   refine eP (a8 (c2 ?_))
   refine a7Q ?_
   apply(jZ)
   apply(uJ)
   exact eO ⟨(j+1,d.1,fO,s0),by dsimp only;omega,⟨Ss,vP,a2z,by dsimp only;omega,λr M=>(lU r M).mono λr M=>(aU r M).mono H9⟩⟩
  obtain rfl:j=q.l.length:=by omega
  apply(n9)
  refine cD rfl (aUf _ _) ?_
  apply(uK)
  refine lH (E:=[]) (G:=R) (sD rfl (I7 (show _=Value.bool _ from rfl))) ?aP ?dI ?bO
  case aP=>exact⟨rfl,rfl,rfl⟩
  case dI=>exact(by repeat(first|exact Cp _|exact Oo _|apply Im|apply Cq|apply Oq|apply Ot))
  case bO=>exact λr M=>(GD r M).mono λr M=>lU r M
end
end Go.Proofs.YtchfclmokpbldaaGreat
/-
  The statement StationEasy: it returns true for all inputs, and the inputs read as they did. No conditions.
-/
namespace Go.Proofs.YtchfclmokpbldaaGreat
open Go.Aw Go Go.Proofs.Tryz
open Go.ChangeShapes Go.WideShapes Go.ChangeAt Go.RowKit
namespace stationEasy
theorem Ni(F6:a4 Int)(w:World)(gV:∀n∈F6.l,(Lit.int .u8 n).wf=true)(aB5:∀s∈[gX F6],sB w (Jg w) s):
    Calls prog 11 #[F6.val] w λe w'=>e=.returned (.bool true)/\Below w.heap.size w w':=by
  have h:=(aXj F6 [gX F6] ⟨aT (by simp),λi b a5=>aWi (gV b (List.mem_of_getElem? a5))⟩).2 w (Jg w) (aUO λr M=>by
    simp only[List.mem_cons,List.not_mem_nil,or_false]at M
    rcases M with rfl
    ·exact aB5 _ (by simp))
  exact h.mono λe w' ⟨v,E,G,W,⟨cY,_,_⟩,cT⟩=>⟨by rw[W,cY],aXJ cT⟩
set_option maxRecDepth 100000 in
theorem aX1(os:Os)(aB8:os.Started)(H:Type)(enc:TypeId×Value->H):
    ReturnsInHanded {} checked os 11 .any (Rows.stationEasySpec.pre6 enc prog f11 Rows.stationEasyRow.domain false) (Rows.stationEasySpec.post enc prog f11 false true false false):=by
  refine returnsInHanded_of_change (C:=checked) aXH aB8 (by kernel_rfl) func11
    (ChangeSpec.witness6 (enc:=enc) (C:=checked) false ⟨#[],#[.slice none 0 0],[]⟩ 8 (by kernel_rfl) (by kernel_rfl) (by kernel_rfl) (by kernel_rfl)) ?_
  intro jI b1p args ds sM b8W aNm qC b9w _
  have Ml:∀(j:Nat) t v,f11.params[j]?=some t->args[j]?=some v->Value.okWide prog jI .any b1p t v:=aNm
  have b2r:=qC
  obtain⟨p,q,aLP,IC,rfl,QL,tW⟩:=qC
  have gE:DataW.TrodAll enc prog jI 0 (λ_=>true) true f11.params.toList args.toList ds p:=aLP
  rw[params11]at gE Ml
  obtain⟨Wa,bBb,S1,b86,uA,bAN,b9q,rfl,rfl,b2,kZ⟩:=trodAll_cons gE
  obtain⟨rfl,rfl,rfl⟩:=trodAll_nil kZ
  obtain rfl:args=#[Wa]:=by cases args;simp_all
  obtain⟨rfl,rfl⟩:=trodVars_none IC
  obtain⟨OR,RE,b7q,rfl⟩:=okWide_slice underlying22 (Ml 0 22 Wa rfl rfl)
  have fF:=b2
  have b6l:∀x∈uA,x.block<jI.heap.size:=by obtain⟨m,a3⟩:=fF;exact DataW.trod_lt m _ _ _ a3
  obtain⟨F6,Si,gV,aB5⟩:∃a:a4 Int,_:=aVa jI _ (by obtain⟨m,a3⟩:=b2;exact⟨_,_,m,_,a3⟩)
  obtain⟨rfl,rfl,rfl⟩:OR=F6.a/\RE=F6.l.length/\b7q=F6.cap:=by simpa[Value.cells,a4.val]using Si
  clear aLP aNm
  refine(Ni F6 jI gV aB5).mono λe yV ⟨W,aLu⟩=>?_
  subst W
  exact⟨_,rfl,_,_,_,[],_,[],b2r,trodAll_mk1 (shut_bool underlying4 _),(trodAll_cons_mk (Below.trod aUk (by kernel_rfl) (of_decide_eq_true (by kernel_rfl)) fF aLu b6l) trodAll_mk0),rfl,aLu.frame _,λh=>by cases h⟩
end stationEasy
end Go.Proofs.YtchfclmokpbldaaGreat
namespace Go.Proofs.YtchfclmokpbldaaGreat
open Go.Aw Go Go.Proofs.Tryz
end Go.Proofs.YtchfclmokpbldaaGreat
