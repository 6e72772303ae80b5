-- By an AI agent; no person has read it.
import Derived.Test.YtdiajbdaadlfhaaGreatDoorLevK
import Derived.Test.YtdiajbdaadlfhaaGreatDoorStaA
import Derived.Test.YtdiajbdaadlfhaaGreatDoorStaC
set_option linter.all false
set_option maxHeartbeats 4000000
variable{A B:Prop}
namespace Go.Proofs.YtdiajbdaadlfhaaGreatDoor
open Go.Aw Go Go.Proofs.Tryz
def aHM(h:A->B:=by exact aA rF rfl):=h
def aKn(h:A->B:=by exact g2 Wz rfl):=h
def aIy(h:A->B:=by exact aA EC rfl):=h
def aM.aN5{P:Program}{f:FuncId}{args:Array Value}{L:aW}{R:aP}{Post tC:n8}(h:aM P f args L R Post)(k:∀v E R' c w,Post v E R'->c5 c E R' w->∃hA uD,c5 c hA uD w/\tC v hA uD):aM P f args L R tC:=
 ⟨h.1,λw aD bF=>(h.2 w aD bF).mono λ_ _ ⟨v,E,R',e,p,s⟩=>let ⟨hA,uD,s',HO⟩:=k v E R' _ _ p s;⟨v,hA,uD,e,HO,s'⟩⟩
set_option maxRecDepth 20000
attribute [local irreducible] cO dG dP aM cI dR fA e2 e5 fB eQ e9 J.L
def a5y(x:bP Int)(L:aW)(R:aP)(K:aN (dW x) R)(bA:x.l.length<=1000):
 aM prog 117 [x.val].toArray L R (λv E R'=>∃o:gT,v=(⟨o,x.l⟩:J Int).val/\(⟨o,x.l⟩:J Int).ok 1 aR/\(⟨o,x.l⟩:J Int).L 3 aR++L=E/\R=R'):=by refine cX 5 call117 func117 rfl rfl rfl ?_;apply eV∘tH∘gQ;refine g2 (rH (f:=aR) (xs:=x) M rfl rfl rfl aX rfl rfl (K) bH D) rfl ?_;rintro v E R' ⟨M9,rfl,a99,rfl,rfl⟩;apply(UW);refine cF ((⟨M9,x.l⟩:J Int).L 3 aR++L) R BH ?_;exact⟨M9,rfl,a99,rfl,rfl⟩
structure Xy(l:List hT)(k:Nat)(R:aP)(j5:J hT)(S:aP):Prop where
 ok:j5.ok 4 hT.cells
 len:j5.l.length=k
 eq:j5.l.map YZ=(l.take k).map YZ
 sub:∀f∈j5.l,aN f.eJ S
 ext:∀r∈R,aN r S
structure Xw(l:List gV)(k:Nat)(R:aP)(oC:J gV)(S:aP):Prop where
 ok:oC.ok 3 gV.cells
 len:oC.l.length=k
 eq:oC.l.map ER=(l.take k).map ER
 sub:∀f∈oC.l,aN f.eJ S
 ext:∀r∈R,aN r S
structure a1p(l:List kJ)(k:Nat)(R:aP)(sD:J kJ)(S:aP):Prop where
 ok:sD.ok 4 kJ.cells
 len:sD.l.length=k
 eq:sD.l.map H9=(l.take k).map H9
 sub:∀f∈sD.l,∀s∈kJ.eE f,aN s S
 ext:∀r∈R,aN r S
def a64{aY qE:Type}{f:aY->qE}{l ys:List aY}{k:Nat}{x y:aY}(h:ys.map f=(l.take k).map f)(K:l[k]?=some x)(V:f y=f x):(ys++[y]).map f=(l.take (k+1)).map f:=by rw[BA,K,CO,CO,h];show _++[f y]=_++[f x];rw[V]
def Xy.next{l:List hT}{k:Nat}{R S:aP}{j5:J hT}(h:Xy l k R j5 S){x y:hT}(K:l[k]?=some x)(V:YZ y=YZ x){o:gT}(bM:(⟨o,j5.l++[y]⟩:J hT).ok 4 hT.cells):Xy l (k+1) R ⟨o,j5.l++[y]⟩ (y.eJ::S):=
 ⟨bM,by show(j5.l++[y]).length=_;rw[hL,h.len];rfl,a64 h.eq K V,λf aH=>by
  rcases List.mem_append.1 aH with aH|aH
  ·exact(h.sub f aH).mono λr O=>aU (.tail _ O)
  ·rw[List.mem_singleton.1 aH];exact aU (.head _),λr O=>(h.ext r O).mono λr O=>aU (.tail _ O)⟩
def Xw.next{l:List gV}{k:Nat}{R S:aP}{j5:J gV}(h:Xw l k R j5 S){x y:gV}(K:l[k]?=some x)(V:ER y=ER x){o:gT}(bM:(⟨o,j5.l++[y]⟩:J gV).ok 3 gV.cells):Xw l (k+1) R ⟨o,j5.l++[y]⟩ (y.eJ::S):=
 ⟨bM,by show(j5.l++[y]).length=_;rw[hL,h.len];rfl,a64 h.eq K V,λf aH=>by
  rcases List.mem_append.1 aH with aH|aH
  ·exact(h.sub f aH).mono λr O=>aU (.tail _ O)
  ·rw[List.mem_singleton.1 aH];exact aU (.head _),λr O=>(h.ext r O).mono λr O=>aU (.tail _ O)⟩
def a1p.next{l:List kJ}{k:Nat}{R S:aP}{j5:J kJ}(h:a1p l k R j5 S){x y:kJ}(K:l[k]?=some x)(V:H9 y=H9 x){o:gT}(bM:(⟨o,j5.l++[y]⟩:J kJ).ok 4 kJ.cells):a1p l (k+1) R ⟨o,j5.l++[y]⟩ (dW y.Z::RO y.mB::S):=
 ⟨bM,by show(j5.l++[y]).length=_;rw[hL,h.len];rfl,a64 h.eq K V,λf aH s aF=>by
  rcases List.mem_append.1 aH with aH|aH
  ·exact(h.sub f aH s aF).mono λr O=>aU (.tail _ (.tail _ O))
  ·rw[List.mem_singleton.1 aH]at aF
   simp only[kJ.eE,nX,pO,or_false]at aF
   rcases aF with rfl|rfl
   ·exact aU (.tail _ (.head _))
   ·exact aU (.head _),λr O=>(h.ext r O).mono λr O=>aU (.tail _ (.tail _ O))⟩
def aUB(a:bT)(L:aW)(R:aP)(bX:qF a R)(bV:h4 a=0):
 aM prog 161 [a.val].toArray L R (λv E R'=>∃(eP:bT) (S:aP),v=eP.val/\pI eP=pI a/\qF eP (S++R)/\L=E/\S++R=R'):=by
 have bM:=J9 bV;have n2:=bM.aE.places;have HD:=bM.aE.Z;have S0:=bM.W2;have xT:=bM.Fr;have Z5:=bX.places;have aMJ:=bX.Z;have Kq:=bX.bD;have aLY:=bX.a8;refine cX 55 call161 func161 rfl rfl rfl ?_;apply(fC);intro fT;apply(dO);intro eN;apply(j6);refine jR M [0,1,2,4,5,6,3,7,8,9,10,11] _ mixed aQ iP ?_;apply U4∘U4;refine pP (rH (f:=gL.cells) (xs:=a.aE.places) M rfl rfl rfl aX rfl rfl (Z5) bH D) rfl rfl rfl ?_;rintro v E R' ⟨M8,rfl,a94,rfl,rfl⟩;apply(fI);refine pP (rH (f:=cR.cells) (xs:=a.aE.Z) M rfl rfl rfl aX rfl rfl (aMJ) bH D) rfl rfl rfl ?_;rintro v E R' ⟨W7,rfl,a95,rfl,rfl⟩;apply fI∘aOb;refine b7 aC5 rfl rfl rfl ?_;apply(uZ);intro e4;apply(uY);refine jI (bY (cC (cC ?_)));refine jW (T:=53) (f:=cR.cells) (aI:=10) (⟨W7,a.aE.Z.l⟩:J cR) [] cL bH aX a95 eW ?_;refine e7 h3 ?_;refine jW (T:=49) (f:=gL.cells) (aI:=2) (⟨M8,a.aE.places.l⟩:J gL) [] cL bH aX a94 eW ?_;refine e7 h3 ?_;obtain⟨jA,FJ⟩:∃jA,jA=zW (⟨M8,a.aE.places.l⟩:J gL).W::F4 (⟨W7,a.aE.Z.l⟩:J cR).W::R:=⟨_,rfl⟩;have oP:∀r∈R,aN r jA:=λr O=>aU (by rw[FJ];exact .tail _ (.tail _ O));have b1f:aN (zW (⟨M8,a.aE.places.l⟩:J gL).W) jA:=aU a4f;have b1h:aN (F4 (⟨W7,a.aE.Z.l⟩:J cR).W) jA:=aU a4I;refine w8 a4H ?_;have b2w:=Kq.mono oP;have b2f:=aLY.mono oP;apply e1∘pE;refine e3 [(1,.pointer _),(2,.pointer _),(3,.pointer _),(19,.slice _ _ _),(20,.int _ _),(21,.int _ _)] cB λg9=>?_;refine oM ([5]++dJ 21 15) ((⟨λg=>[(21,.int .i64 ((g.1.1:Nat):Int))],λg=>⟨e4,[(⟨M8,a.aE.places.l⟩:J gL).val,(⟨W7,a.aE.Z.l⟩:J cR).val,g.1.2.1.val,.slice none 0 0],32⟩::(g.1.2.1.L 147 hT.cells++(⟨eN,[.slice none 0 0,.slice none 0 0,.slice none 0 0,.slice none 0 0],32⟩::⟨fT,a.cells,32⟩::L)),λg=>g.1.2.2,λg=>a.bD.l.length-g.1.1⟩:e0 {g:Nat×J hT×aP//g.1<=a.bD.l.length/\Xy a.bD.l g.1 jA g.2.1 g.2.2})) (⟨(0,J.nil,jA),by dsimp only;omega,⟨J.iJ,rfl,rfl,λf aH=>(by cases aH),oV _⟩⟩) cB Nn eX ?_;rintro⟨⟨k,j5,S⟩,Y,hR⟩ c1;try dsimp only
 dsimp only at Y hR;have b01:=hR.ok;have b8B:=hR.len;have b2x:=b2w.mono hR.ext;apply(gU);refine aJ ?_ ?_<;>intro bI;·have bE:=bR (l:=a.bD.l) (k:=k) default D;obtain⟨x,K⟩:∃x,x=a.bD.l.getD k default:=⟨_,rfl⟩;rw[<-K]at bE;have zU:=aN.nF b2x bE;have xY:=(bM.nF k x bE).1.a29;apply jK∘aHM∘RW;intro fK;apply(BP);refine g2 (rH (f:=hU.cells) (xs:=x.hJ) M rfl rfl rfl aX rfl rfl (zU) bH D) rfl ?_;rintro v E R' ⟨Ft,rfl,Ue,rfl,rfl⟩;apply(q6);refine eS (bY (dM ?_));apply gB∘vX∘aKn;rintro v E R' ⟨IJ,rfl,rfl,G6⟩;replace G6:=G6.symm;subst G6;refine g2 (jZ (f:=hT.cells) (p:=j5) (a:=⟨x.aS,x.hX,x.Jp,(⟨Ft,x.hJ.l⟩:J hU).W⟩) M rfl rfl rfl rfl (b01) cL j8 rfl kG) rfl ?_;rintro v E R' ⟨aNv,rfl,a98,rfl,rfl⟩;apply(q6);refine eS (hG (bY ?_));refine jW (T:=234) (f:=hU.cells) (aI:=2) (⟨Ft,x.hJ.l⟩:J hU) [] cL bH aX Ue eW ?_;refine e7 h3 ?_;apply e1∘m0;exact eG ⟨(k+1,⟨aNv,j5.l++[_]⟩,_),by dsimp only;omega,hR.next (y:=⟨x.aS,x.hX,x.Jp,(⟨Ft,x.hJ.l⟩:J hU).W⟩) bE rfl a98⟩
 obtain rfl:k=a.bD.l.length:=by omega
 have b2g:=b2f.mono hR.ext;apply D2∘pE;refine e3 [(2,.pointer _),(3,.pointer _),(37,.slice _ _ _),(38,.int _ _),(39,.int _ _)] cB λs4=>?_;refine oM ([7]++dJ 39 15) ((⟨λg=>[(39,.int .i64 ((g.1.1:Nat):Int))],λg=>⟨e4,[(⟨M8,a.aE.places.l⟩:J gL).val,(⟨W7,a.aE.Z.l⟩:J cR).val,j5.val,g.1.2.1.val],32⟩::(g.1.2.1.L 149 gV.cells++(j5.L 147 hT.cells++(⟨eN,[.slice none 0 0,.slice none 0 0,.slice none 0 0,.slice none 0 0],32⟩::⟨fT,a.cells,32⟩::L))),λg=>g.1.2.2,λg=>a.a8.l.length-g.1.1⟩:e0 {g:Nat×J gV×aP//g.1<=a.a8.l.length/\Xw a.a8.l g.1 S g.2.1 g.2.2})) (⟨(0,J.nil,S),by dsimp only;omega,⟨J.iJ,rfl,rfl,λf aH=>(by cases aH),oV _⟩⟩) cB Nn eX ?_;rintro⟨⟨j,oC,eF⟩,a6,h0⟩ c1;try dsimp only
 dsimp only at a6 h0;have b00:=h0.ok;have aK8:=h0.len;have b2h:=b2g.mono h0.ext;apply(gU);refine aJ ?_ ?_<;>intro cK;·have bE:=bR (l:=a.a8.l) (k:=j) default D;obtain⟨x,K⟩:∃x,x=a.a8.l.getD j default:=⟨_,rfl⟩;rw[<-K]at bE;have zU:=aN.tN b2h bE;have xY:=(bM.tN j x bE).1.len;apply(jK);refine aA Xl rfl ?_;apply Ar∘dO;intro lT;apply(BP);refine dN rfl (a5y x.hY _ _ zU D) rfl ?_;rintro v E R' ⟨qQ,rfl,WF,rfl,rfl⟩;apply(q6);refine eS (bY (dM ?_));apply(gB);refine aA qW rfl ?_;refine g2 Nf rfl ?_;rintro v E R' ⟨b74,rfl,rfl,a81⟩;replace a81:=a81.symm;subst a81;refine g2 (jZ (f:=gV.cells) (p:=oC) (a:=⟨x.aS,x.sC,(⟨qQ,x.hY.l⟩:J Int).W⟩) M rfl rfl rfl rfl (b00) cL j8 rfl kG) rfl ?_;rintro v E R' ⟨b58,rfl,b3H,rfl,rfl⟩;apply(q6);refine eS (hG (bY ?_));refine jW (T:=3) (f:=aR) (aI:=1) (⟨qQ,x.hY.l⟩:J Int) [] cL bH aX WF eW ?_;refine e7 h3 ?_;apply e1∘m0;exact eG ⟨(j+1,⟨b58,oC.l++[_]⟩,_),by dsimp only;omega,h0.next (y:=⟨x.aS,x.sC,(⟨qQ,x.hY.l⟩:J Int).W⟩) bE rfl b3H⟩
 obtain rfl:j=a.a8.l.length:=by omega
 refine jW (T:=147) (f:=hT.cells) (aI:=4) j5 (j5.l.map hT.eJ) cL bH aX hR.ok (λs aF=>by obtain⟨f,aH,rfl⟩:=List.mem_map.1 aF;exact(hR.sub f aH).mono h0.ext) ?_;refine e7 h3 ?_;refine jW (T:=149) (f:=gV.cells) (aI:=3) oC (oC.l.map gV.eJ) cL bH aX h0.ok (λs aF=>by obtain⟨f,aH,rfl⟩:=List.mem_map.1 aF;exact(h0.sub f aH).mono λr O=>aU (.tail _ O)) ?_;refine e7 h3 ?_;apply oS∘vX∘y5;refine kN (E:=L) (R':=(O1 oC.W::SJ j5.W::eF)++R) (qI rfl a4p) ?aG ?b3 ?b8;case aG=>
  exact⟨⟨⟨(⟨M8,a.aE.places.l⟩:J gL).W,(⟨W7,a.aE.Z.l⟩:J cR).W⟩,j5.W,oC.W⟩,O1 oC.W::SJ j5.W::eF,rfl,by
  rw[pI,pI];refine congr (congr (congrArg bT.mk rfl) ?_) ?_;·show(⟨none,0,j5.l.map YZ⟩:bP hT)=_;rw[hR.eq,yV (gS _)]
  ·show(⟨none,0,oC.l.map ER⟩:bP gV)=_;rw[h0.eq,yV (gS _)],⟨((b1f.mono hR.ext).mono h0.ext).mono λr O=>aU (.tail _ (.tail _ (oI _ O))),((b1h.mono hR.ext).mono h0.ext).mono λr O=>aU (.tail _ (.tail _ (oI _ O))),aU (.tail _ (.head _)),aU (.head _)⟩,rfl,rfl⟩
 case b3=>exact bC
 case b8=>
  exact λr O=>by
   rcases List.mem_append.1 O with h|h;·exact aU h
   ·exact(((oP r h).mono hR.ext).mono h0.ext).mono λr O=>aU (.tail _ (.tail _ O))
def aIr{n:Nat}{l:List Int}(h: ∀i:Nat,i<l.length->¬BS n l i): ∀i:Nat,i<l.length->(i:Int)<=l.getD i 0/\l.getD i 0<n
 |0,aB=>by have:=h 0 aB;rw[BS]at this;omega
 |i+1,aB=>by
  have G:=aIr h i D
  have U:=h (i+1) aB
  rw[BS,Nat.add_sub_cancel]at U
  omega
def aVh{n m:Nat}{z:kJ}(h:DF n m z=0):z.mB.l.length<=64/\z.Z.l.length<=m+1:=by
 rw[DF]at h;split at h;·omega
 rename_i G;split at h;·cases h
 split at h;·cases h
 rename_i aO;have G:JJ z.mB.l n=0:=Decidable.not_not.1 G;refine⟨?_,?_⟩;·
  rw[JJ]at G;split at G;·cases G
  ·rename_i bW;(have bW:H7 z.mB.l=true:=by simpa using bW);rw[H7,lY,decide_eq_true_eq]at bW;omega
 ·
  rcases gX (m+1) z.Z.l.length with aZ|aZ;·have:=aIr (n:=m) (l:=z.Z.l) (λi aB aT=>aO ⟨i,aB,aT⟩) (m+1) aZ;omega
  ·exact aZ
def aRY(s:dY)(L:aW)(R:aP)(aF:BN s R)(bV:o0 s=0):
 aM prog 116 [s.val].toArray L R (λv E R'=>∃(s':dY) (S:aP),v=s'.val/\hH s' s/\BN s' (S++R)/\L=E/\S++R=R'):=by
 have bM:=VB bV
 have lL:=bM.len
 have HD:=(J9 bM.c2).aE.Z
 have pK:=aF.e8
 have PK:=aF.h2
 have FW:=aF.b0
 have Z5:=aF.m4
 refine cX 42 call116 func116 rfl rfl rfl ?_
 apply(fC)
 intro fT
 apply(dO)
 intro eN
 apply(j6)
 refine jR M [0,1,3,4,6,7,9,10,2,5,8,11,12,13,14] _ mixed aQ iP ?_
 apply rS∘An∘nQ∘nQ∘nQ
 refine zD rfl (aUB s.c2 _ _ aF.c2 bM.c2) rfl rfl ?_
 rintro v E R' ⟨eP,Zn,rfl,Km,b1F,rfl,rfl⟩
 refine⟨bC,hC,?_⟩
 have Td:∀r∈R,aN r (Zn++R):=λr O=>aU (kE _ O)
 have aAy:=pK.mono Td
 have b1U:=PK.mono Td
 have b3Z:=Z5.mono Td
 have b5p:=FW.mono Td
 refine pP (rH (f:=g0.cells) (xs:=s.e8) M rfl rfl rfl aX rfl rfl (aAy) bH D) rfl rfl rfl ?_
 rintro v E R' ⟨M8,rfl,a94,rfl,rfl⟩
 apply(fI)
 refine pP (rH (f:=rK.cells) (xs:=s.h2) M rfl rfl rfl aX rfl rfl (b1U) bH D) rfl rfl rfl ?_
 rintro v E R' ⟨sY,rfl,WE,rfl,rfl⟩
 apply(fI)
 refine pP (rH (f:=aR) (xs:=s.m4) M rfl rfl rfl aX rfl rfl (b3Z) bH D) rfl rfl rfl ?_
 rintro v E R' ⟨Vj,rfl,b3w,rfl,rfl⟩
 apply(fI)
 refine b7 aQD rfl rfl rfl ?_
 apply(uZ)
 intro e4
 apply(uY)
 refine jI (bY (cC (cC ?_)))
 refine jW (T:=194) (f:=aR) (aI:=1) (⟨Vj,s.m4.l⟩:J Int) [] cL bH aX b3w eW ?_
 refine e7 h3 ?_
 refine jW (T:=192) (f:=rK.cells) (aI:=6) (⟨sY,s.h2.l⟩:J rK) [] cL bH aX WE eW ?_
 refine e7 h3 ?_
 refine jW (T:=188) (f:=g0.cells) (aI:=8) (⟨M8,s.e8.l⟩:J g0) [] cL bH aX a94 eW ?_
 refine e7 h3 ?_
 obtain⟨jA,FJ⟩:∃jA,jA=L0 (⟨M8,s.e8.l⟩:J g0).W::Jk (⟨sY,s.h2.l⟩:J rK).W::dW (⟨Vj,s.m4.l⟩:J Int).W::(Zn++R):=⟨_,rfl⟩
 have oP:∀r∈Zn++R,aN r jA:=λr O=>aU (by rw[FJ];exact .tail _ (.tail _ (.tail _ O)))
 have b1i:aN (L0 (⟨M8,s.e8.l⟩:J g0).W) jA:=aU a4f
 have b1d:aN (Jk (⟨sY,s.h2.l⟩:J rK).W) jA:=aU a4I
 have b1g:aN (dW (⟨Vj,s.m4.l⟩:J Int).W) jA:=aU aCp
 refine w8 a4H ?_
 have aAY:=b5p.mono oP
 have b1G:=IC b1F oP
 apply e1∘pE
 refine e3 [(2,.pointer _),(3,.pointer _),(20,.slice _ _ _),(21,.int _ _),(22,.int _ _)] cB λg9=>?_
 refine oM ([5]++dJ 22 19) ((⟨λg=>[(22,.int .i64 ((g.1.1:Nat):Int))],λg=>⟨e4,[eP.aE.places.val,eP.aE.Z.val,eP.bD.val,eP.a8.val,(⟨M8,s.e8.l⟩:J g0).val,(⟨sY,s.h2.l⟩:J rK).val,g.1.2.1.val,(⟨Vj,s.m4.l⟩:J Int).val],117⟩::(g.1.2.1.L 199 kJ.cells++(⟨eN,[.slice none 0 0,.slice none 0 0,.slice none 0 0,.slice none 0 0,.slice none 0 0,.slice none 0 0,.slice none 0 0,.slice none 0 0],117⟩::⟨fT,s.cells,117⟩::L)),λg=>g.1.2.2,λg=>s.b0.l.length-g.1.1⟩:e0 {g:Nat×J kJ×aP//g.1<=s.b0.l.length/\a1p s.b0.l g.1 jA g.2.1 g.2.2})) (⟨(0,J.nil,jA),by dsimp only;omega,⟨J.iJ,rfl,rfl,λf aH=>(by cases aH),oV _⟩⟩) cB Nn eX ?_
 rintro⟨⟨k,sD,S⟩,Y,AX⟩ c1
 try dsimp only
 dsimp only at Y AX
 have b1C:=AX.ok
 have b8K:=AX.len
 have aM9:=aAY.mono AX.ext
 apply(gU)
 refine aJ ?_ ?_<;>intro bI
 ·
  have bE:=bR (l:=s.b0.l) (k:=k) default D
  obtain⟨x,K⟩:∃x,x=s.b0.l.getD k default:=⟨_,rfl⟩
  rw[<-K]at bE
  have b5e:=aN.mB aM9 bE
  have b5h:=aN.aC1 aM9 bE
  have WU:=aVh (bM.eR x (hS bE))
  apply jK∘aHM∘RW
  intro fK
  apply(J4)
  refine jV M [] [0,1,3,4,2,6,5] [7,8,9] (_) _ mixed aQ bC b9 ?_
  apply lS∘lS
  refine RH (rH (f:=kQ.cells) (xs:=x.mB) M rfl rfl rfl aX rfl rfl (b5e) bH D) rfl rfl rfl ?_
  rintro v E R' ⟨TH,rfl,Uf,rfl,rfl⟩
  apply fI∘wZ
  refine mW rfl (a5y x.Z _ _ b5h D) rfl rfl ?_
  rintro v E R' ⟨qQ,rfl,WF,rfl,rfl⟩
  refine⟨bC,hC,?_⟩
  apply zY∘Ao∘Cn
  refine jI (bY (dM ?_))
  apply gB∘vX∘aKn
  rintro v E R' ⟨MG,rfl,rfl,G7⟩
  replace G7:=G7.symm;subst G7
  refine g2 (jZ (f:=kJ.cells) (p:=sD) (a:=⟨(⟨TH,x.mB.l⟩:J kQ).W,x.hold,(⟨qQ,x.Z.l⟩:J Int).W,x.vM⟩) M rfl rfl rfl rfl (b1C) cL j8 rfl kG) rfl ?_
  rintro v E R' ⟨aNw,rfl,Uh,rfl,rfl⟩
  apply(q6)
  refine eS (hG (bY ?_))
  refine jW (T:=196) (f:=kQ.cells) (aI:=4) (⟨TH,x.mB.l⟩:J kQ) [] cL bH aX Uf eW ?_
  refine e7 h3 ?_
  refine jW (T:=3) (f:=aR) (aI:=1) (⟨qQ,x.Z.l⟩:J Int) [] cL bH aX WF eW ?_
  refine e7 h3 ?_
  apply e1∘m0
  exact eG ⟨(k+1,⟨aNw,sD.l++[_]⟩,_),by dsimp only;omega,AX.next (y:=⟨(⟨TH,x.mB.l⟩:J kQ).W,x.hold,(⟨qQ,x.Z.l⟩:J Int).W,x.vM⟩) bE rfl Uh⟩
 obtain rfl:k=s.b0.l.length:=by omega
 refine jW (T:=199) (f:=kJ.cells) (aI:=4) sD (sD.l.flatMap kJ.eE) cL bH aX AX.ok (λs aF=>by
  obtain⟨f,aH,aF⟩:=List.mem_flatMap.1 aF
  exact AX.sub f aH s aF) ?_
 refine e7 h3 ?_
 apply oS∘aIy∘y5
 refine kN (E:=L) (R':=(VJ sD.W::S)++R) (qI rfl (UB (row:=[_,_,_,_,_,_,_,_]) M rfl rfl rfl mC aK aK)) ?aG ?b3 ?b8
 case aG=>
  exact⟨⟨eP,(⟨M8,s.e8.l⟩:J g0).W,(⟨sY,s.h2.l⟩:J rK).W,sD.W,(⟨Vj,s.m4.l⟩:J Int).W⟩,VJ sD.W::S,rfl,by
  show sL _=sL _
  rw[sL,sL]
  refine congr (congr (congr (congr (congrArg dY.mk Km) rfl) rfl) ?_) rfl
  show(⟨none,0,sD.l.map H9⟩:bP kJ)=_
  rw[AX.eq,yV (gS _)],by
  have dV:∀r∈jA,aN r ((VJ sD.W::S)++R):=λr O=>(AX.ext r O).mono λr O=>aU (.tail _ (oI _ O))
  exact⟨IC b1G dV,b1i.mono dV,b1d.mono dV,aU (.head _),b1g.mono dV⟩,rfl,rfl⟩
 case b3=>exact bC
 case b8=>
  exact λr O=>by
   rcases List.mem_append.1 O with h|h
   ·exact aU h
   ·exact(((Td r h).mono oP).mono AX.ext).mono λr O=>aU (.tail _ O)
structure Pg(x:dS)(s:dY)(h:bP Int)(w:bP gW)(c:bP cY)(f:jG)(dK:J e6)(bL:J fO)(R:aP):Prop where
 Fm:dK.ok 4 e6.cells
 PS:bL.ok 4 fO.cells
 es:hH s x.bO
 a1K:h.l=x.held.l
 a1N:w.l=x.gR.l
 a1J:c.l=x.b1.l
 Sn:f.b6.l=x.fP.b6.l
 a1O:f.b0.l=x.fP.b0.l
 a1M:f.eB=x.fP.eB
 em:dK.l=x.fN.l
 a1L:bL.l=x.gN.l
 bO:BN s R
 held:aN (k3 h) R
 gR:aN (JU w) R
 b1:aN (AQ c) R
 fP:pY f R
def Pg.is{x:dS}{s:dY}{h:bP Int}{w:bP gW}{c:bP cY}{f:jG}{dK:J e6}{bL:J fO}{R:aP}(k:Pg x s h w c f dK bL R){g:mZ}{p:c0}(K:n7 g p x):n7 g p ⟨s,x.time,h,x.fU,dK.W,w,c,f,x.aC,bL.W⟩:=
 ⟨k.es.trans K.bO,K.time,k.a1K.trans K.held,K.fU,k.em.trans K.fN,k.a1N.trans K.gR,k.a1J.trans K.b1,k.Sn.trans K.aL,k.a1O.trans K.c4,k.a1M.trans K.cV,K.aC,k.a1L.trans K.gN⟩
structure Ph(x:dS):Prop where
 ok:o0 x.bO=0
 held:x.held.l.length<=1000
 fN:x.fN.l.length<=1000
 gR:x.gR.l.length<=1000
 b1:x.b1.l.length<=1000
 aL:x.fP.b6.l.length<=1000
 c4:x.fP.b0.l.length<=1000
 gN:x.gN.l.length<=1000
def Ph.of{g:mZ}{p:c0}{x:dS}(hP:Inv g p)(K:n7 g p x):Ph x:=by have lL:=hP.Gf.len;exact⟨by rw[K.bO.DI];exact hP.bO,by rw[K.held];have:=hP.held.2;omega,by rw[K.fN,hP.fN];omega,by rw[K.gR,hP.Mm];omega,by rw[K.b1,hP.MI];omega,by rw[K.aL];have:=hP.Ss.CN;omega,by rw[K.c4];have:=hP.Ss.BI;omega,by rw[K.gN];have:=hP.gN;omega⟩
structure aGP(x:dS)(s:dY)(h:bP Int)(f:jG)(dK:J e6)(mS:J gW)(fG:J cY)(bL:J fO)(R:aP):Prop where
 Fm:dK.ok 4 e6.cells
 aNi:mS.ok 3 gW.cells
 aNh:fG.ok 3 cY.cells
 PS:bL.ok 4 fO.cells
 es:hH s x.bO
 a1K:h.l=x.held.l
 a1N:mS.l=x.gR.l
 a1J:fG.l=x.b1.l
 Sn:f.b6.l=x.fP.b6.l
 a1O:f.b0.l=x.fP.b0.l
 a1M:f.eB=x.fP.eB
 em:dK.l=x.fN.l
 a1L:bL.l=x.gN.l
 bO:BN s R
 held:aN (k3 h) R
 fP:pY f R
def aIv(x:dS)(L:aW)(R:aP)(vO:Ph x)(b8:EW x R):
 aM prog 80 [x.val].toArray L R (λv E R'=>∃(s:dY) (h:bP Int) (f:jG) (dK:J e6) (mS:J gW) (fG:J cY) (bL:J fO) (S:aP),v=(⟨s,x.time,h,x.fU,dK.W,mS.W,fG.W,f,x.aC,bL.W⟩:dS).val/\aGP x s h f dK mS fG bL (S++R)/\bL.L 282 fO.cells++(fG.L 141 cY.cells++(mS.L 209 gW.cells++(dK.L 207 e6.cells++L)))=E/\S++R=R'):=by have G:=vO.held;have U:=vO.fN;have aO:=vO.gR;have bW:=vO.b1;have dV:=vO.aL;have gY:=vO.c4;have j1:=vO.gN;have pK:=b8.bO;refine cX 42 call80 func80 rfl rfl rfl ?_;apply(fC);intro fT;apply(dO);intro eN;apply iG∘gF∘aIy;refine dN rfl (aRY x.bO _ _ pK vO.ok) rfl ?_;rintro v E R' ⟨s',a5T,rfl,WR,aAy,rfl,rfl⟩;have Ec:∀r∈R,aN r (a5T++R):=λr O=>aU (kE _ O);have g8:=b8.held.mono Ec;have eK:=b8.fN.mono Ec;have mJ:=b8.gR.mono Ec;have h8:=b8.b1.mono Ec;have Fj:=b8.fP.aL.mono Ec;have Vc:=b8.fP.c4.mono Ec;have Fk:=b8.gN.mono Ec;apply(gF);refine OR M rfl rfl rfl rfl qV aK aK aK ?_;apply iG∘GQ;refine g2 (rH (f:=s8) (xs:=x.held) M rfl rfl rfl aX rfl rfl (g8) bH D) rfl ?_;rintro v E R' ⟨W6,rfl,Uc,rfl,rfl⟩;apply gF∘q6∘UV;refine g2 (rH (f:=e6.cells) (xs:=x.fN) M rfl rfl rfl aX rfl rfl (eK) bH D) rfl ?_;rintro v E R' ⟨W7,rfl,a95,rfl,rfl⟩;apply q6∘UV;refine g2 (rH (f:=gW.cells) (xs:=x.gR) M rfl rfl rfl aX rfl rfl (mJ) bH D) rfl ?_;rintro v E R' ⟨aNu,rfl,b3z,rfl,rfl⟩;apply q6∘UV;refine g2 (rH (f:=cY.cells) (xs:=x.b1) M rfl rfl rfl aX rfl rfl (h8) bH D) rfl ?_;rintro v E R' ⟨yM,rfl,S1,rfl,rfl⟩;apply q6∘iG∘GQ;refine g2 (rH (f:=cH.cells) (xs:=x.fP.b6) M rfl rfl rfl aX rfl rfl (Fj) bH D) rfl ?_;rintro v E R' ⟨TH,rfl,Uf,rfl,rfl⟩;apply gF∘q6∘iG∘GQ;refine dN rfl (a5y x.fP.b0 _ _ Vc D) rfl ?_;rintro v E R' ⟨qQ,rfl,WF,rfl,rfl⟩;apply gF∘q6∘UV;refine g2 (rH (f:=fO.cells) (xs:=x.gN) M rfl rfl rfl aX rfl rfl (Fk) bH D) rfl ?_;rintro v E R' ⟨aNx,rfl,b3F,rfl,rfl⟩;apply q6∘j6;refine jW (T:=3) (f:=aR) (aI:=1) (⟨qQ,x.fP.b0.l⟩:J Int) [] cL bH aX WF eW ?_;refine e7 h3 ?_;refine jW (T:=143) (f:=cH.cells) (aI:=5) (⟨TH,x.fP.b6.l⟩:J cH) [] cL bH aX Uf eW ?_;refine e7 h3 ?_;refine jW (T:=5) (f:=s8) (aI:=1) (⟨W6,x.held.l⟩:J Int) [] cL bH aX Uc eW ?_;refine e7 h3 ?_;apply(e1);refine aA NP rfl ?_;apply(y5);refine cF ((⟨aNx,x.gN.l⟩:J fO).L 282 fO.cells++((⟨yM,x.b1.l⟩:J cY).L 141 cY.cells++((⟨aNu,x.gR.l⟩:J gW).L 209 gW.cells++((⟨W7,x.fN.l⟩:J e6).L 207 e6.cells++L)))) ((k3 (⟨W6,x.held.l⟩:J Int).W::wA (⟨TH,x.fP.b6.l⟩:J cH).W::dW (⟨qQ,x.fP.b0.l⟩:J Int).W::a5T)++R) (qI rfl aPE) ?_;exact⟨s',(⟨W6,x.held.l⟩:J Int).W,⟨(⟨TH,x.fP.b6.l⟩:J cH).W,(⟨qQ,x.fP.b0.l⟩:J Int).W,x.fP.eB⟩,(⟨W7,x.fN.l⟩:J e6),⟨aNu,x.gR.l⟩,⟨yM,x.b1.l⟩,(⟨aNx,x.gN.l⟩:J fO),k3 (⟨W6,x.held.l⟩:J Int).W::wA (⟨TH,x.fP.b6.l⟩:J cH).W::dW (⟨qQ,x.fP.b0.l⟩:J Int).W::a5T,rfl,⟨a95,b3z,S1,b3F,WR,rfl,rfl,rfl,rfl,rfl,rfl,rfl,rfl,aAy.mono λr O=>aU (.tail _ (.tail _ (.tail _ O))),aU (.head _),⟨aU (.tail _ (.head _)),aU (.tail _ (.tail _ (.head _)))⟩⟩,rfl,rfl⟩
def aS6(x:dS)(L:aW)(R:aP)(vO:Ph x)(b8:EW x R):
 aM prog 80 [x.val].toArray L R (λv E R'=>∃(s:dY) (h:bP Int) (w:bP gW) (c:bP cY) (f:jG) (dK:J e6) (bL:J fO) (S:aP),v=(⟨s,x.time,h,x.fU,dK.W,w,c,f,x.aC,bL.W⟩:dS).val/\Pg x s h w c f dK bL (S++R)/\bL.L 282 fO.cells++(dK.L 207 e6.cells++L)=E/\S++R=R'):=by refine aM.aN5 (aIv x L R vO b8) ?_;rintro v E R' c w ⟨s,h,f,dK,mS,fG,bL,S,cS,fF,rfl,rfl⟩ cW;have G:=cW.yN (a33 _ _ _);have U:=G.ZI (eE:=[]) fF.aNh bH aX eW;have aO:=U.yN (a33 _ _ _);have bW:=aO.ZI (eE:=[]) fF.aNi bH aX eW;have dV:∀r∈S++R,aN r ((JU mS.W::AQ fG.W::S)++R):=λr O=>aU (.tail _ (.tail _ O));exact⟨_,_,bW,s,h,mS.W,fG.W,f,dK,bL,JU mS.W::AQ fG.W::S,cS,⟨fF.Fm,fF.PS,fF.es,fF.a1K,fF.a1N,fF.a1J,fF.Sn,fF.a1O,fF.a1M,fF.em,fF.a1L,fF.bO.mono dV,fF.held.mono dV,aU (.head _),aU (.tail _ (.head _)),fF.fP.mono dV⟩,rfl,rfl⟩
end Go.Proofs.YtdiajbdaadlfhaaGreatDoor
namespace Go.Proofs.YtdiajbdaadlfhaaGreatDoor
open Go.Aw Go Go.Proofs.Tryz
section
attribute [local irreducible] cO dG dP aM cI dR fA e2 e5 fB eQ e9 J.L
def Rt(h:A->B:=by exact aA (l7 (hB:=[]) (c9:=[_,_,_,_]) M rfl rfl rfl rfl) rfl):=h
def Ys(h:B:=by exact⟨(⟨0,0,⟨0,0⟩⟩:e6),by rw[V],λh=>by omega,rfl,rfl⟩):=h
def aDK(h:A->B:=by exact fE a4i rfl rfl rfl rfl):=h
def aJt(a:Int)(L:aW)(R:aP)(bX:-1000000000000<=a/\a<=1000000000000):
 aM prog 164 [.int .i64 a].toArray L R (λv E R'=>v=.int .i64 (a/1000)/\L=E/\R=R'):=by
 have a1:=Int.tmod_def a 1000;have G:0<=a->a.tdiv 1000=a/1000:=λh=>XP h;have U:a<0->a.tdiv 1000= -((-a)/1000):=λh=>by
  have:a= -(-a):=by omega
  rw[this,Int.neg_tdiv,XP D];omega
 refine cX 12 call164 func164 rfl rfl rfl ?_;apply oO∘iG∘cJ∘Gd∘FA∘Gc∘nD;refine aJ ?_ ?_<;>intro bI;·apply nP∘oD∘q4∘sO;refine eL L R ?_;exact⟨by rw[show a.tdiv 1000-1=a/1000 by omega],rfl,rfl⟩
 apply gI∘aI1;refine eL L R ?_;exact⟨by rw[show a.tdiv 1000=a/1000 by omega],rfl,rfl⟩
def aWY(s:g0)(r:Int)(L:aW)(R:aP)(aF:vB s=0)(zQ:-1000000<=r/\r<=1000000):
 aM prog 123 [s.val,.int .i64 r].toArray L R (λv E R'=>v=(J3 s r).val/\L=E/\R=R'):=by
 refine cX 71 call123 func123 rfl rfl rfl ?_;apply(fC);intro eN;apply(dO);intro dU;apply U2∘q5;apply dT (aD:=[_,_]) (j:=2) (b4:=10) rfl rfl aK rfl b2 rfl;·exact JC
 intro o7;apply(dD);refine aJ ?_ ?_<;>intro bI;·apply(eV);refine eD rfl (RF _ _) ?_;apply(RV);refine cF L R mM ?_;exact⟨by rw[J3,if_pos D],rfl,rfl⟩
 have c6:¬(vB s≠0\/¬(0<=r/\r<=65535)):=by omega
 have B8:=aFV (s:=s) (r:=r) aF D;have wT:=a5N aF;rw[JL]at wT;have aMb:1<=s.kind/\s.kind<=6:=by
  rw[vB]at aF;split at aF;·omega
  ·omega
 apply gI∘kB∘gB∘dD;refine w6 ([5]++dJ 17 6) ((⟨λg=>[(5,.int .i64 g.1)],λ_=>⟨dU,[.int .i64 0,.int .i64 0],51⟩::⟨eN,s.cells,188⟩::L,λ_=>R,λ_=>0⟩:e0 {n:Int//n=if 4<=s.kind then Je s.kind else -1})) ?_ ?_;·
  refine iH (cC (dM ?_));apply(q3);refine aJ ?_ ?_<;>intro cK;·apply e1∘eA;refine eS (hG ?_);exact zX ⟨1,by rw[if_pos D,Je,if_neg D,if_neg D]⟩
  apply(sQ);refine aJ ?_ ?_<;>intro dE;·apply e1∘eA;refine eS (hG ?_);exact zX ⟨2,by rw[if_pos D,Je,if_neg D,if_pos D]⟩
  apply(sQ);refine aJ ?_ ?_<;>intro gZ;·apply e1∘eA;refine eS (hG ?_);exact zX ⟨5,by rw[if_pos D,Je,if_pos D]⟩
  refine gG (hG ?_);exact zX ⟨-1,by rw[if_neg D]⟩
 rintro⟨CF,SZ⟩ c1;try dsimp only
 have b9s:4<=s.kind↔0<=CF:=by
  rw[SZ,Je];repeat' split
  all_goals omega
 apply nR∘IF;refine aJ ?_ ?_<;>intro fW;·
  apply nR∘cJ∘y8;refine aJ ?_ ?_<;>intro lJ;·apply(eV);refine eD rfl (RF _ _) ?_;apply(l5);refine eS (bY (mE (i7 (i7 ?_))));refine cF L R mM ?_;exact⟨by rw[if_pos D]at SZ;rw[J3,if_neg c6,if_pos D,if_pos D],rfl,rfl⟩
  apply gI∘wF∘CH∘RV;refine cF L R mM ?_;exact⟨by rw[if_pos D]at SZ;rw[J3,if_neg c6,if_pos D,if_neg D],rfl,rfl⟩
 apply gI∘h1∘XD∘E9;refine jR M [0,1,2,5,6,8,9,10,11,14,15,3,4,7,12,13,16,17,18,19] ([bQ.mk eN _ _]) mixed aQ bC ?_;apply uH∘nQ∘uH;refine b7 (Pp rfl D D) rfl rfl rfl ?_;apply(nQ);refine xZ rfl (aJt (s.I5*r) _ _ D) ?_;apply P1∘A7;refine xZ rfl (aJt (-(s.I5*r)) _ _ D) ?_;apply A7∘P1;refine b7 Wx rfl rfl rfl ?_;apply(uZ);intro lT;apply uY∘XB∘gB∘BQ;apply dT (aD:=[_,_,_]) (j:=3) (b4:=57) rfl rfl aK rfl b2 rfl;·exact a4q
 intro m2;apply(dD);refine aJ ?_ ?_<;>intro kK;·apply e1∘gB;refine aA NO rfl ?_;apply(gB);refine aA NO rfl ?_;apply r1∘r1∘iG∘LP;refine cF L R mM ?_;exact⟨by rw[J3,if_neg c6,if_neg D,if_pos D,Cj];simp only[aB7],rfl,rfl⟩
 apply gI∘LP;refine cF L R mM ?_;exact⟨by rw[J3,if_neg c6,if_neg D,if_neg D,Cj];simp only[aB7],rfl,rfl⟩
def Bn(S:List g0)(iZ z a:Int):Prop:=(a= -1/\∀j:Nat,z<j->j<S.length->(S.getD j default).hW≠iZ)\/((z<a/\a<S.length)/\(S.getD a.toNat default).hW=iZ/\∀j:Nat,z<j->(j:Int)<a->(S.getD j default).hW≠iZ)
def aZg{S:List g0}{iZ a:Int}(h:Bn S iZ (-1) a):CX S iZ=a:=by
 rcases h with⟨G,U⟩|⟨G,U,aO⟩;·rw[CX,List.find?_eq_none.2 (λi aB=>by rw[XO]at aB;simpa using U i D aB),G];rfl
 ·
  have:(List.range S.length).find? (λi=>decide ((S.getD i default).hW=iZ))=some a.toNat:=by rw[a3Z];refine⟨by simpa using U,by rw[XO];omega,λj a6=>?_⟩;simpa using aO j D D
  rw[CX,this];show((a.toNat:Nat):Int)=a;omega
def Bn.b2M{S:List g0}{z iZ:Int}(dI:0<=z/\z<S.length)(h:(S.getD z.toNat default).hW=iZ):Bn S iZ (z-1) z:=
 .inr ⟨by omega,h,λj G U=>by omega⟩
def Bn.b5V{S:List g0}{z iZ a:Int}(dI:0<=z/\z<S.length)(k:Bn S iZ z a)(h:(S.getD z.toNat default).hW≠iZ):Bn S iZ (z-1) a:=by
 rcases k with⟨G,U⟩|⟨G,U,aO⟩;·
  refine .inl ⟨G,λj a6 aZ=> ?_⟩;rcases BC (z<j)with bW|bW;·exact U j bW aZ
  ·(obtain rfl:j=z.toNat:=by omega);exact h
 ·
  refine .inr ⟨by omega,U,λj a6 aZ=> ?_⟩;rcases BC (z<j)with bW|bW;·exact aO j bW aZ
  ·(obtain rfl:j=z.toNat:=by omega);exact h
def aUJ(S:bP g0)(f:nO)(t:Int)(L:aW)(R:aP)(fL:aN (L0 S) R)(aH:aN (k3 f.data) R)(aT:uB f.data.l)(bA:S.l.length<=64):
 aM prog 86 [S.val,f.val,.int .i64 t].toArray L R (λv E R'=>∃m:e6,v=.tuple #[m.val,.int .i64 (yY S.l f.n5 t)]/\(yY S.l f.n5 t=0->m=Nw S.l f.n5 t)/\L=E/\R=R'):=by
 refine rZ call86 aH λFN=>?_;refine cX 85 call86 func86 rfl rfl rfl ?_;apply(fC);intro dU;apply(dO);intro jN;apply FA∘q5;apply dT (aD:=[_,_]) (j:=2) (b4:=13) rfl rfl aK rfl b2 rfl;·exact JC
 intro o7;apply(dD);refine aJ ?_ ?_<;>intro bI;·
  apply eV∘Rt∘y4;refine cF L R TT ?_;have V:yY S.l f.n5 t=8:=by rw[yY,if_pos D]
  exact Ys
 apply gI∘kB∘j0∘oD∘pR;refine e3 [(0,.slice _ _ _),(2,.int _ _),(4,.pointer _),(6,.pointer _),(8,.int _ _),(9,.int _ _)] cB λg9=>?_;refine lF ([8,9]++dJ 21 13) (λg:{g:Int×Int//(-1<=g.1/\g.1<S.l.length)/\Bn S.l f.hW g.1 g.2}=>[(9,.int .i64 g.1.1),(8,.int .i64 g.1.2)]) (λg=>(g.1.1+1).toNat) (⟨((S.l.length:Int)-1,-1),by dsimp only;omega,.inl ⟨rfl,λj G U=>by dsimp only at G;omega⟩⟩) ?_;rintro⟨⟨z,a⟩,dI,bX⟩ c1;try dsimp only
 dsimp only at dI bX;apply nR∘IF;refine aJ ?_ ?_<;>intro cK;·
  have bE:=bR (l:=S.l) (k:=z.toNat) default D;refine gG (bY (cC (iH (cC ?_))));refine jR M [0,1,2,3,4,5,6,7] _ mixed aQ iP ?_;refine b7 qX rfl rfl rfl ?_;apply(j7);refine b7 aCB rfl rfl rfl ?_;apply TL∘s0∘nQ;refine b7 QB rfl rfl rfl ?_;apply(A9);refine aJ ?_ ?_<;>intro dE;·apply nP∘eA∘XE∘GO;exact eG ⟨(z-1,z),by dsimp only;omega,.b2M D dE⟩
  apply Lv∘GO;exact eG ⟨(z-1,a),by dsimp only;omega,bX.b5V D dE⟩
 obtain rfl:z= -1:=by omega
 have Ee:CX S.l f.n5.hW=a:=aZg bX;have V0:a<0\/(0<=a/\a<S.l.length):=by
  rcases bX with h|h;·omega
  ·omega
 apply D2∘cJ∘q5;apply dT (aD:=[_,_,_,_,_,_]) (j:=2) (b4:=36) rfl rfl aK rfl b2 rfl;·intro iM;replace iM:=cP iM;have b2G:=bR (l:=S.l) (k:=a.toNat) default D;apply(k2);refine aA aQQ rfl ?_;refine aA Np rfl ?_;refine eD rfl (a7A (S.l.getD a.toNat default) _ _) ?_;exact v6
 intro o7;apply(dD);refine aJ ?_ ?_<;>intro gZ;·
  apply eV∘Rt∘y4;refine cF L R TT ?_;have V:yY S.l f.n5 t=9:=by rw[yY,if_neg D,Ee,if_pos D]
  exact Ys
 have b2G:=bR (l:=S.l) (k:=a.toNat) default D;have a1W:¬(t<0\/2147483648<t):=by omega
 have a1X:¬(a<0\/vB (S.l.getD a.toNat default)≠0):=by omega
 have PL:f.n5.data.length=f.data.l.length:=rfl;have Us:f.n5.kind=f.kind:=rfl;apply gI∘wF;refine eD rfl (RF _ _) ?_;refine aA (l7 (hB:=[(0,(Value.int _ _).cells.toList),(1,(Value.int _ _).cells.toList),(2,(Value.agg _).cells.toList)]) (c9:=[_,_,_,_]) M rfl rfl rfl rfl) rfl ?_;apply(dO);intro lI;apply(RU);refine eS (bY (iH (cC (dM ?_))));apply(q3);refine aJ ?_ ?_<;>intro fW;·
  apply x0∘jM∘pG;refine aJ ?_ ?_<;>intro lJ;·apply eV∘Rt∘E7;refine eS (bY (mE (i7 (lO (i7 ?_)))));exact aPT
  have bV:=bR (l:=f.data.l) (k:=0) 0 D;have G:=bR (l:=f.data.l) (k:=1) 0 D;have KG:=aT.at 0;have mQ:=aT.at 1;refine gG (bY ?_);refine jV M [] [0,1,2,3,4,5,6,7,8,9,10,11,12,13,14,15,16,17] [18] (_) _ mixed aQ bC (by(repeat(first|apply List.Sublist.cons (a:=bQ.mk lI _ _)|apply List.Sublist.cons_cons));exact oU _) ?_;apply(RY);refine fE aQQ rfl rfl rfl rfl ?_;refine fE Np rfl rfl rfl rfl ?_;apply lS∘aBu∘D3∘aDK;refine fE (a04 rfl rfl aX (aH5 D)) rfl rfl rfl rfl ?_;apply(lS);refine fE aCH rfl rfl rfl rfl ?_;apply D3∘aDK;refine fE (aFG rfl rfl (aJb D D)) rfl rfl rfl rfl ?_;refine mW rfl (aWY (S.l.getD a.toNat default) _ _ _ D D) rfl rfl ?_;rintro v E R' ⟨rfl,rfl,rfl⟩;refine⟨bC,hC,?_⟩;apply(LR);refine Ru rfl rfl rfl rfl qV aK aK aK bC ?_;refine jI (hG (bY (cC (dM ?_))));apply vX∘yD;refine cF L R TT ?_;have V:yY S.l f.n5 t=0:=by rw[yY,if_neg a1W,Ee,if_neg a1X,if_neg D,if_neg D]
  exact⟨⟨a,t,J3 (S.l.getD a.toNat default) (f.data.l.getD 0 0*256+f.data.l.getD 1 0)⟩,by rw[V],λ_=>by rw[Nw,Ee,if_pos D];rfl,rfl,rfl⟩
 apply(sQ);refine aJ ?_ ?_<;>intro kK;·
  apply eV∘jM∘pG;refine aJ ?_ ?_<;>intro qM;·exact(eV∘Rt∘E7∘D4) aPT
  refine gG (hG (bY (cC (dM ?_))));apply vX∘yD;refine cF L R TT ?_;have V:yY S.l f.n5 t=0:=by rw[yY,if_neg a1W,Ee,if_neg a1X,if_neg D,if_neg D]
  exact⟨⟨a,t,sX⟩,by rw[V],λ_=>by rw[Nw,Ee,if_neg D],rfl,rfl⟩
 apply eV∘Rt∘E7∘D4;refine cF L R TT ?_;have V:yY S.l f.n5 t=5:=by rw[yY,if_neg a1W,Ee,if_neg a1X,if_pos D]
 exact Ys
def Qn(g:mZ)(q:c0×Int)(L:aW)(R:aP):n8:=λv E R'=>∃(y:dS) (S:aP),v=.tuple #[y.val,.int .i64 q.2]/\n7 g q.1 y/\EW y R'/\L=E/\S++R=R'
def RP{g:mZ}{p:c0}{x:dS}(K:n7 g p x){t:Int}:(t<x.time\/2147483648<t)↔sJ p t:=by rw[K.time,sJ]
def Pg.VR{x:dS}{s:dY}{h:bP Int}{w:bP gW}{c:bP cY}{f:jG}{dK:J e6}{bL:J fO}{R R':aP}(k:Pg x s h w c f dK bL R)(b8:∀r∈R,aN r R')(G:aN (hV dK.W) R')(U:aN (kO bL.W) R'):EW (⟨s,x.time,h,x.fU,dK.W,w,c,f,x.aC,bL.W⟩:dS) R':=⟨k.bO.mono b8,k.held.mono b8,G,k.gR.mono b8,k.b1.mono b8,k.fP.mono b8,U⟩
end
end Go.Proofs.YtdiajbdaadlfhaaGreatDoor
