--By an AI agent.
import Derived.Test.YtchfclmokpbldaaGreatCutB
import Derived.Test.YtchfclmokpbldaaGreatRefP
import Derived.Test.YtchfclmokpbldaaGreatIntsB
import Derived.Test.YtchfclmokpbldaaGreatFits
import Derived.Test.YtchfclmokpbldaaGreatRows
set_option maxRecDepth 9999
set_option linter.unusedVariables false
set_option linter.unusedSimpArgs false
namespace Go.Proofs.YtchfclmokpbldaaGreat
open Go.Aw Go Go.Proofs.Tryz
def aOC(x y:a9):Prop:=x.bG<=x.bO/\y.bG<=x.bG/\x.bO<=y.bO
structure b4D(m LD:eA):Prop where
  lX:LD.lX=m.lX
  time:LD.time=m.time
  HS:LD=m\/(aOC m.HS LD.HS/\(-1000000000<=LD.HS.bG/\LD.HS.bO<=1000000000))
section
variable{S:List fA}{m LD:List eA}{Z aR3:List a9}{c:m9}{w:fR}{t:Int}(hl:LD.length=m.length)(h:∀i:Nat,i<m.length->b4D (m.getD i default) (LD.getD i default))(fW:aR3.length=Z.length)(hf:∀i:Nat,i<Z.length->aOC (Z.getD i default) (aR3.getD i default))
include hl h
include fW hf
end
section
variable{g:hQ}{p:b0}
end
section
section
variable{P:Program}{bA:Operand->Value}{L:List a5}{R:List fG}{dst:Option Tmp}{ty:TypeId}{pos:String}{after:Array Edge}{guard:Option (Nat×Bool)}(O:pP P){T:TypeId}{x y z:Operand}
end
theorem b46{g:hQ}{p:b0}(dR:Inv g p){a:ZC}(ha:Yb a):p.eJ<=(sO g p a).1.eJ/\(sO g p a).1.eJ<=p.eJ+100100:=by
  have hs:=λ(p:b0) t=>(b3a (g:=g) (p:=p) t).eJ
  rw[sO]
  split
  · rw[IK];split
    ·dsimp only;omega
    · dsimp only
      rw[hs]
      have V:=aRk _ (l:=p.held++a.bytes) p.eJ rfl (λx K=>by
        rcases List.mem_append.1 K with K|K
        ·exact dR.held.1 x K
        ·exact ha.bytes x K)
      have aQ:=ha.len
      have b7:=dR.held.2
      rw[List.length_append]at V
      show p.eJ<=(j3 (p.held++a.bytes) p.eJ).eJ/\(j3 (p.held++a.bytes) p.eJ).eJ<=_
      omega
  have hk:=hs p (p.time+a.l9)
  split
  · rw[CW];split
    ·dsimp only;omega
    split
    ·dsimp only;omega
    ·dsimp only;rw[hs];dsimp only;omega
  split
  · rw[zZ];split
    ·dsimp only;omega
    dsimp only
    generalize bM g p (p.time+a.l9)=q at hk|-
    split<;>(dsimp only[o7];omega)
  split
  · rw[CQ];split
    ·dsimp only;omega
    dsimp only
    generalize bM g p (p.time+a.l9)=q at hk|-
    split<;>(dsimp only[o7];omega)
  split
  · rw[CE];split
    ·dsimp only;omega
    dsimp only
    generalize bM g p (p.time+a.l9)=q at hk|-
    split<;>(dsimp only[o7];omega)
  · rw[IJ];split
    ·dsimp only;omega
    ·dsimp only;rw[hs];omega
attribute [local irreducible] cH c6 dP aI cJ eD e9 e0 e1 e5 eS e8 J.L
end
section
theorem b6y{s:dQ}{f:hI}(N:oI s=0)(V:i6 f.aT.l f.aU.l f.cA=0)(aQ:f.aU.l.length=s.aU.l.length)(b7:∀x∈f.aT.l,x.cQ=0):s7 s f=0:=by
  rw[s7,N,if_neg (by decide),V,if_neg (by decide),if_neg (by rw[aQ];simp),if_neg (λ⟨x,K,h⟩=>h (b7 x K))]
attribute [local irreducible] cH c6 dP aI cJ eD e9 e0 e1 e5 eS e8 J.L
end
section
section
variable{Rb Rc:Prop}
theorem Fl(a:Rb)(h:Rb->Rc:=by exact(a4 (yB (row:=[_,_,_,_,_,_,_,_,_,_,_,_,_,_,_,_,_,_,_,_,_,_,_]) O rfl rfl rfl (by repeat(first|exact Xh|apply Xi|apply Xj)) (by rfl) (by rfl)) ·)):Rc:=h a
theorem aBB(a:Rb)(h:Rb->Rc:=by exact(aG (yB (row:=[_,_,_,_,_,_,_,_,_,_,_,_,_,_,_,_,_,_,_,_,_,_,_]) O rfl rfl rfl (by repeat(first|exact Xh|apply Xi|apply Xj)) (by rfl) (by rfl)) ·)):Rc:=h a
theorem aOx(a:Rb)(h:Rb->Rc:=by exact(aG (yB (row:=[_,_,_,_,_]) O rfl rfl rfl (by repeat(first|exact Xh|apply Xi|apply Xj)) (by rfl) (by rfl)) ·)):Rc:=h a
end
structure aOB(g:hQ)(j:Nat)(p:b0)(x:cF)(R S:List fG):Prop where
  bKk:Inv g p
  is:h5 g p x
  kW:lK x S
  drop:0<=p.eJ/\p.eJ<=100100*(j:Int)
  sub:∀r∈R,aH r S
attribute [local irreducible] cH c6 dP aI cJ eD e9 e0 e1 e5 eS e8 J.L
set_option maxHeartbeats 1000000 in
theorem b64(y:a0 Int)(R:List fG)(aN:jK y R):
    aI prog 10 [y.val].toArray [] R (λv E G=>v=.bool true/\[]=E/\R=G):=by
  refine bW 102 call10 func10 ?_
  apply(QO)
  apply(hM)
  refine cK (aOa y _ _ aN) ?_
  rintro v E G ⟨c,rfl,K,rfl,rfl⟩
  apply(U9)
  apply(WM)
  refine cK (b7O c _ 0 _ K (Nat.zero_le _)) ?_
  rintro v E G ⟨s,bKW,aYb,eU,rfl,X4,e6,⟨hs,_,_,nF⟩,rfl⟩
  refine aG (A2 rfl) ?_
  iterate 3 apply(EJ)
  apply(dA)
  intro cT
  apply(dA)
  intro eH
  apply(dA)
  intro hP
  iterate 3 apply(i3)
  apply(jW)
  have HO:jK (ZO y) G:=⟨K.1.mono nF,K.2⟩
  have aFx:=X4.aUs
  refine uV (E:=⟨cT,s.cells,38⟩::eT c (ZO y) eU::[]) (by repeat(first|exact LU _|exact PR _|apply NS|apply LV|apply PS|apply PT)) (mB _) ?_
  apply(A9)
  apply(lM)
  refine cK (aI.Cs (.tE (.MM .nil)) (b1l c _ eU s.aU.l.length _ HO e6 (by omega))) ?_
  rintro v E G ⟨_,rfl,f,eE,rfl,BP,HH,iJ,vP,hK,⟨hf,jR⟩,rfl⟩
  apply(dA)
  intro kL
  apply(G5)
  have rY:jK (ZO y) G:=⟨HO.1.mono jR,HO.2⟩
  have RJ:=hs.mono jR
  obtain⟨A,gI⟩:=aJd s.bU.Y
  have bQ:s7 s f=0:=b6y X4.ok.pT iJ HH vP
  have dR:=a9Y (A:=A) bQ gI
  apply(eK)
  refine aG (yB (row:=[_,_,_,_,_,_,_,_]) O rfl rfl rfl (by repeat(first|exact Xh|apply Xi|apply Xj)) (by rfl) (by rfl)) ?_
  refine aG (yB (row:=[_,_,_]) O rfl rfl rfl (by repeat(first|exact Xh|apply Xi|apply Xj)) (by rfl) (by rfl)) ?_
  refine cK (b78 s f A _ _ RJ hf gI) ?_
  rintro v E G ⟨x,r5,rfl,Hv,M4,_,rfl,rfl⟩
  rw[bQ]
  have US:=M4 bQ
  refine aG (A2 rfl) ?_
  apply(G7)
  intro gL
  apply(i3)
  apply(TJ)
  refine a76 (λaO=>?_) (λaO=>?_)
  ·
   apply(OA)
   refine lJ (E:=[]) (G:=R) (pG rfl (Dp (show _=Value.bool _ from rfl))) ?hp ?c2 ?bD
   case hp=>exact absurd aO (by simp)
   case c2=>exact(by repeat(first|exact LU _|exact PR _|apply NS|apply LV|apply PS|apply PT))
   case bD=>exact λr M=>(nF r (.tail _ M)).mono λr M=>(jR r M).mono λr M=>aM (by simp[M])
  refine dK (aZ (a6 (a6 ?_)))
  have Bx:jK (ZO y) (r5++G):=⟨rY.1.mono λr M=>aM (List.mem_append_right _ M),rY.2⟩
  apply(A9)
  refine cK (aI.Cs (.tE (.tE (.tE (.MM .nil)))) (b6k c _ eE 7 _ Bx hK (by omega))) ?_
  rintro v E G ⟨_,rfl,q,i2,rfl,hq,a7m,rV,l4,FR,rfl⟩
  apply(vV)
  apply(ZT)
  refine c7 [(8,Value.pointer _),(40,Value.slice _ _ _),(41,Value.int _ _),(42,Value.int _ _)] (by repeat' (first|exact trivial|refine And.intro rfl ?_)) λeZ=>?_
  refine Dw (T:=144) (f:=v7.cells) (aR:=5) q (q.l.map λa=>hA a.bytes) (by repeat(first|apply sR.cons|exact sR.mW|exact sR.xY|exact sR.at (by assumption)|apply sR.xJ)) (λ_=>rfl) (by decide) hq.ok (λs hs=>by
    obtain⟨a,ha,rfl⟩:=List.mem_map.1 hs
    exact(hq.all a ha).bytes) ?_
  refine uV (E:=⟨gL,x.cells,54⟩::[]) (by repeat(first|exact LU _|exact PR _|apply NS|apply LV|apply PS|apply PT)) (mB _) ?_
  obtain⟨e4,uG⟩:∃e4,e4=aKR q.U::G:=⟨_,rfl⟩
  have Bi:aH (aKR q.U) e4:=aM (by rw[uG];exact .head _)
  have aD5:∀r∈G,aH r e4:=λr M=>aM (by rw[uG];exact .tail _ M)
  have JB:∀r∈R,aH r e4:=λr M=>(nF r (.tail _ M)).mono λr M=>(jR r M).mono λr M=>(FR r (List.mem_append_right _ M)).mono aD5
  have Uh:aOB (u3 s f A) 0 (Er s f) x e4 e4:=⟨dR,US,Hv.mono λr M=>(FR r M).mono aD5,⟨Int.le_refl _,Int.le_refl _⟩,λr M=>aM M⟩
  refine sU (show _=e4 by rw[uG]) ?_
  refine kO [2,11,12,13,14,15,42,43,44,45,46,47,48,49,50,51,52,53,54,55,56,57,58,59,60,61,62,63,64,65,66,67,68,69,70,71,72,73,74,75] ((⟨λg=>[(42,.int .i64 ((g.1.1:Nat):Int))],λg=>⟨gL,g.1.2.2.1.cells,54⟩::[],λg=>g.1.2.2.2,λg=>q.l.length-g.1.1⟩:dV {g:Nat×b0×cF×List fG//g.1<=q.l.length/\aOB (u3 s f A) g.1 g.2.1 g.2.2.1 e4 g.2.2.2})) (⟨(0,Er s f,x,e4),by dsimp only;omega,Uh⟩) ?_
  rintro⟨⟨j,p,u,S⟩,aY,pA⟩ bZ
  try dsimp only
  dsimp only at aY pA
  obtain⟨Aj,EE,xV,bJt,l6⟩:=pA
  have bJ3:=Bi.mono l6
  apply(h2)
  refine a76 (λbF=>?_) (λbF=>?_)
  ·
   have hg:=iL (l:=q.l) (k:=j) default (by omega)
   obtain⟨a,Uj⟩:∃a,a=q.l.getD j default:=⟨_,rfl⟩
   rw[<-Uj]at hg
   have bBK:=List.mem_of_getElem? hg
   have Q7:=hq.all a bBK
   have aTP:=λr M=>(aD5 r M).mono l6
   apply(j7)
   refine aG (by first|exact j9 O rfl rfl rfl rfl (by first|assumption|exact Dh (by simp)) (i:=j) (by first|rfl|omega|(simp;omega)) (by omega)|exact i9 O rfl rfl rfl rfl (i:=j) (by first|rfl|omega|(simp;omega)) (by omega)) ?_
   apply(WJ)
   intro FL
   apply(rP)
   refine aBB ?_
   refine aOx ?_
   refine cK (b1B (u3 s f A) p u a _ _ Aj EE xV (Q7.bytes.mono aTP) Q7.ok (by omega)) ?_
   rintro v E G ⟨w,a4I,rfl,cV,aGH,rfl,rfl⟩
   have aQ:∀r∈S,aH r (a4I++S):=λr M=>aM (List.mem_append_right _ M)
   refine aG (A2 rfl) ?_
   apply(G7)
   intro lN
   apply(i3)
   apply(mL)
   refine aBB ?_
   refine aOx ?_
   refine cK (b9S (u3 s f A) p u a _ _ Aj EE (xV.mono aQ) ((Q7.bytes.mono aTP).mono aQ) Q7.ok (by omega)) ?_
   rintro v E G ⟨fT,rfl,tK,a7z,rfl,D8⟩
   obtain⟨qZ,rfl⟩:∃qZ,qZ=G:=⟨_,rfl⟩
   have a1d:=Aj.done Q7.ok
   have aEV:=b46 Aj Q7.ok
   obtain⟨d,FX⟩:∃d,d=sO (u3 s f A) p a.p:=⟨_,rfl⟩
   rw[<-FX]at cV tK a1d aEV|-
   have bE5:=aGH.mono D8
   refine aG (A2 rfl) ?_
   apply(G7)
   intro sA
   apply(i3)
   apply(OD)
   refine gJ O [0,1,2,3,4,5,6,7,8,9,10,12,11,13,14,15] ([a5.mk sA _ _,a5.mk lN _ _]) cX (by kernel_rfl) (by repeat(first|exact LU _|exact PR _|apply NS|apply LV|apply PS|apply PT)) ?_
   apply(g1)
   apply(g1)
   refine a4 (aBt rfl rfl) ?_
   apply(tN)
   refine l0 (k:=61) (show _=Value.bool _ from rfl) (λfD=>?_) (λfD=>?_)
   ·
    replace fD:=a8 fD
    simp at fD
   replace fD:=a8 fD
   refine Fl ?_
   refine Fl ?_
   refine k6 rfl (h5.aHx a1d cV tK bE5 a7z) ?_
   refine a4 (PX rfl) ?_
   apply(mU)
   refine l0 (k:=67) (show _=Value.bool _ from rfl) (λgM=>?_) (λgM=>?_)
   ·
    replace gM:=a8 gM
    simp at gM
   replace gM:=a8 gM
   refine Fl ?_
   refine Fl ?_
   refine k6 rfl (b8L (u3 s f A) d.1 fT _ _ a1d tK a7z) ?_
   refine k6 rfl (b9y (u3 s f A) d.1 fT _ _ a1d tK a7z) ?_
   refine a4 (aBt rfl rfl) ?_
   apply(m2)
   refine a76 (λb2=>?_) (λb2=>?_)
   ·
    apply(aOE)
    apply(Pt)
    refine lJ (E:=[]) (G:=R) (pG rfl (Dp (show _=Value.bool _ from rfl))) ?hp ?c2 ?bD
    case hp=>exact absurd b2 (by simp)
    case c2=>exact(by repeat(first|exact LU _|exact PR _|apply NS|apply LV|apply PS|apply PT))
    case bD=>exact λr M=>(JB r M).mono λr M=>(l6 r M).mono λr M=>(aQ r M).mono D8
   refine dK (aZ (cR ?_))
   refine aBB ?_
   apply(i3)
   apply(wB)
   exact dU ⟨(j+1,d.1,fT,qZ),by dsimp only;omega,⟨a1d,tK,a7z,by dsimp only;omega,λr M=>(l6 r M).mono λr M=>(aQ r M).mono D8⟩⟩
  obtain rfl:j=q.l.length:=by omega
  have hv:=tX.of Aj EE xV.aK xV.c5
  have uF:lS u.aK.bU.Y (u3 s f A).bU:=fZ.xI EE.aK Aj.xI
  apply(O9)
  refine gJ O [0,2,1,3,4,5,6,7] ([a5.mk gL _ _]) cX (by kernel_rfl) (by repeat(first|exact LU _|exact PR _|apply NS|apply LV|apply PS|apply PT)) ?_
  refine Fl ?_
  refine Fl ?_
  refine q1 rfl (aNz u _ _ hv) rfl rfl ?_
  rintro v E G ⟨iH,lO,rfl,qC,Vb,rfl,rfl⟩
  refine⟨(by repeat(first|exact LU _|exact PR _|apply NS|apply LV|apply PS|apply PT)),(by first|exact mB _|assumption|exact(λr h=>aM (by simp[h]))),?_⟩
  have N:∀r∈S,aH r (cZ lO::cZ iH::S):=λr M=>aM (.tail _ (.tail _ M))
  have Pc:=tX.of Aj EE (xV.mono N).aK (xV.mono N).c5
  refine q1 rfl (aL8 u _ _ Pc) rfl rfl ?_
  rintro v E G ⟨aVe,aU9,rfl,bEw,a1Z,rfl,rfl⟩
  refine⟨(by repeat(first|exact LU _|exact PR _|apply NS|apply LV|apply PS|apply PT)),(by first|exact mB _|assumption|exact(λr h=>aM (by simp[h]))),?_⟩
  have V:∀r∈cZ lO::cZ iH::S,aH r (cZ aU9::cZ aVe::cZ lO::cZ iH::S):=λr M=>aM (.tail _ (.tail _ M))
  have LC:=(xV.mono N).mono V
  have EF:=tX.of Aj EE LC.aK LC.c5
  apply(p2)
  intro I2
  apply(p2)
  intro I3
  apply(sE)
  apply(sE)
  apply(F7)
  refine gJ O [0,1,2,3,4,5,6,7,8,9,10,11,12,13,15,14,16,17,18,19,20,21,22] ([a5.mk I3 _ _,a5.mk I2 _ _,a5.mk gL _ _]) cX (by kernel_rfl) (by repeat(first|exact LU _|exact PR _|apply NS|apply LV|apply PS|apply PT)) ?_
  apply(WP)
  refine k6 rfl (aOl iH aVe _ _ (aM (by simp)) (aM (by simp)) (qC.trans bEw.symm)) ?_
  apply(tN)
  refine l0 (k:=85) (show _=Value.bool _ from rfl) (λgW=>?_) (λgW=>?_)
  ·
   replace gW:=a8 gW
   apply(WP)
   refine k6 rfl (aOl lO aU9 _ _ (aM (by simp)) (aM (by simp)) (Vb.trans a1Z.symm)) ?_
   apply(mU)
   refine l0 (k:=92) (show _=Value.bool _ from rfl) (λxP=>?_) (λxP=>?_)
   ·
    replace xP:=a8 xP
    refine Fl ?_
    refine Fl ?_
    refine q1 rfl (a3M u (u3 s f A).bU _ _ EF uF) rfl rfl ?_
    rintro v E G ⟨Z,rfl,fW,rfl,rfl⟩
    refine⟨(by repeat(first|exact LU _|exact PR _|apply NS|apply LV|apply PS|apply PT)),(by first|exact mB _|assumption|exact(λr h=>aM (by simp[h]))),?_⟩
    refine q1 rfl (Zw u (u3 s f A).bU _ _ (tX.of Aj EE (LC.aK.mono λr M=>aM (.tail _ M)) (LC.c5.mono λr M=>aM (.tail _ M))) uF) rfl rfl ?_
    rintro v E G ⟨qR,rfl,bCG,rfl,rfl⟩
    refine⟨(by repeat(first|exact LU _|exact PR _|apply NS|apply LV|apply PS|apply PT)),(by first|exact mB _|assumption|exact(λr h=>aM (by simp[h]))),?_⟩
    refine k6 rfl (b36 Z qR _ _ (aM (.tail _ (.head _))) (aM (.head _)) (fW.trans bCG.symm)) ?_
    apply(mU)
    refine l0 (k:=99) (show _=Value.bool _ from rfl) (λK6=>?_) (λK6=>?_)
    ·
     replace K6:=a8 K6
     refine k6 rfl (b3D _ _) ?_
     apply(LH)
     refine a4 (GN (show _=Value.bool _ from rfl)) ?_
     refine gS (aZ (iT ?_))
     refine lJ (E:=[]) (G:=R) (pG rfl (Dp (show _=Value.bool _ from rfl))) ?hp ?c2 ?bD
     case hp=>exact⟨rfl,rfl,rfl⟩
     case c2=>exact(by repeat(first|exact LU _|exact PR _|apply NS|apply LV|apply PS|apply PT))
     case bD=>exact λr M=>(JB r M).mono λr M=>(l6 r M).mono λr M=>aM (by simp[M])
    replace K6:=a8 K6
    simp at K6
   replace xP:=a8 xP
   simp at xP
  replace gW:=a8 gW
  simp at gW
end
end Go.Proofs.YtchfclmokpbldaaGreat
/-
  The statement StationActs: it returns true for all inputs, and the inputs read as they did. No conditions.
-/
namespace Go.Proofs.YtchfclmokpbldaaGreat
open Go.Aw Go Go.Proofs.Tryz
open Go.ChangeShapes Go.WideShapes Go.ChangeAt Go.RowKit
namespace stationActs
theorem Wp(I1:a0 Int)(w:World)(gX:∀n∈I1.l,(Lit.int .u8 n).wf=true)(EN:∀s∈[hA I1],tW w (Rp w) s):
    Calls prog 10 #[I1.val] w λe w'=>e=.returned (.bool true)/\Below w.heap.size w w':=by
  have h:=(b64 I1 [hA I1] ⟨aM (by simp),λi b hb=>b1z (gX b (List.mem_of_getElem? hb))⟩).2 w (Rp w) (b3b λr M=>by
    simp only[List.mem_cons,List.not_mem_nil,or_false]at M
    rcases M with rfl
    ·exact EN _ (by simp))
  exact h.mono λe w' ⟨v,E,G,X,⟨hv,_,_⟩,cI⟩=>⟨by rw[X,hv],b9s cI⟩
set_option maxRecDepth 100000 in
theorem b1Y(os:Os)(aHA:os.Started)(H:Type)(enc:TypeId×Value->H):
    ReturnsInHanded {} checked os 10 .any (Rows.stationActsSpec.pre6 enc prog f10 Rows.stationActsRow.domain false) (Rows.stationActsSpec.post enc prog f10 false true false false):=by
  refine returnsInHanded_of_change (C:=checked) b8X aHA (by kernel_rfl) func10
    (ChangeSpec.witness6 (enc:=enc) (C:=checked) false ⟨#[],#[.slice none 0 0],[]⟩ 8 (by kernel_rfl) (by kernel_rfl) (by kernel_rfl) (by kernel_rfl)) ?_
  intro jX bAs args ds tH bIK aTX pA bJq _
  have Vj:∀(j:Nat) t v,f10.params[j]?=some t->args[j]?=some v->Value.okWide prog jX .any bAs t v:=aTX
  have bBA:=pA
  obtain⟨p,q,aSe,K3,rfl,HH,u5⟩:=pA
  have gI:DataW.TrodAll enc prog jX 0 (λ_=>true) true f10.params.toList args.toList ds p:=aSe
  rw[params10]at gI Vj
  obtain⟨a2F,bKX,XC,bIR,vU,bKN,bJj,rfl,rfl,bQ,k0⟩:=trodAll_cons gI
  obtain⟨rfl,rfl,rfl⟩:=trodAll_nil k0
  obtain rfl:args=#[a2F]:=by cases args;simp_all
  obtain⟨rfl,rfl⟩:=trodVars_none K3
  obtain⟨x6,VC,aYb,rfl⟩:=okWide_slice underlying22 (Vj 0 22 a2F rfl rfl)
  have fM:=bQ
  have bFL:∀x∈vU,x.block<jX.heap.size:=by obtain⟨m,hm⟩:=fM;exact DataW.trod_lt m _ _ _ hm
  obtain⟨I1,XF,gX,EN⟩:∃a:a0 Int,_:=b1P jX _ (by obtain⟨m,hm⟩:=bQ;exact⟨_,_,m,_,hm⟩)
  obtain⟨rfl,rfl,rfl⟩:x6=I1.a/\VC=I1.l.length/\aYb=I1.cap:=by simpa[Value.cells,a0.val]using XF
  clear aSe aTX
  refine(Wp I1 jX gX EN).mono λe CH ⟨X,aRS⟩=>?_
  subst X
  exact⟨_,rfl,_,_,_,[],_,[],bBA,trodAll_mk1 (shut_bool underlying4 _),(trodAll_cons_mk (Below.trod b4B (by kernel_rfl) (of_decide_eq_true (by kernel_rfl)) fM aRS bFL) trodAll_mk0),rfl,aRS.frame _,λh=>by cases h⟩
end stationActs
end Go.Proofs.YtchfclmokpbldaaGreat
