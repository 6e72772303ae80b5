--By an AI agent.
import Derived.Test.YtchfclmokpbldaaGreatFlows
import Derived.Test.YtchfclmokpbldaaGreatOwn
import Derived.ProofKit
import Derived.OpenShut
import Derived.ShutString
import Derived.ChangeOld
import Derived.Below
set_option maxRecDepth 9999
set_option linter.all false
set_option maxHeartbeats 0
variable{A B:Prop}
def a3V(h:A->B:=by exact(eO (i9 O rfl rfl rfl rfl (i:=(a.aX.l.getD k default).b9.toNat) cW D) ·)):=h
def aBd(h:A->B:=by exact(eO (i9 O rfl rfl rfl rfl (i:=k) cW D) ·)):=h
def aBP(h:A->B:=by exact(cK (E8 hC K hk D) ·)):=h
def aBp(h:A->B:=by exact(cK (E8 hC K e6 D) ·)):=h
def aBK(h:A->B:=by exact(cK (nA hC K hK D) ·)):=h
def aAZ(h:A->B:=by exact gO Qy rfl):=h
def aBE(h:A->B:=by exact(aG (mI (hN:=[(0,(Value.slice _ _ _).cells.toList)]) (cU:=[_,_]) O rfl rfl rfl rfl) ·)):=h
def aPN(h:A->B:=by exact pO rfl (j2 (f:=eL.cells) (p:=fN) (a:=jP) O rfl rfl rfl rfl (Bd) c0 j8 rfl kH) rfl rfl):=h
def b8s(h:A->B:=by exact pO rfl (j2 (f:=aL) (p:=Z) (a:=q) O rfl rfl rfl rfl (XX) c0 j8 rfl kH) rfl rfl):=h
def b75(h:A->B:=by exact(kN 11 I6 dT rfl sM ·)):=h
def b62(h:A->B:=by exact(kN 12 I6 dT rfl sM ·)):=h
def aNS(h:A->B:=by exact pO rfl (j2 (f:=eL.cells) (p:=fN) (a:=jP) O rfl rfl rfl rfl (a7i) c0 j8 rfl kH) rfl rfl):=h
def b5y(h:A->B:=by exact pO rfl (j2 (f:=aL) (p:=Z) (a:=q) O rfl rfl rfl rfl (a7g) c0 j8 rfl kH) rfl rfl):=h
def b5r(h:A->B:=by exact(kN 11 I7 dT rfl sM ·)):=h
def b6S(h:A->B:=by exact(kN 12 I7 dT rfl sM ·)):=h
def aJM(h:A->B:=by exact hF O [] [0,1,2,3,4,5,6,7,8,9,10] [11] (_) _ cX bE a2 (by(repeat(first|apply List.Sublist.cons (a:=a5.mk C0 _ _)|apply List.Sublist.cons_cons));exact oR _)):=h
def aM6(h:A->B:=by exact hF O [] [0,1,2,3,4,5,6,7,8,9,10] [11] (_) _ cX bE a2 (by(repeat(first|apply List.Sublist.cons (a:=a5.mk sA _ _)|apply List.Sublist.cons_cons));exact oR _)):=h
def aPg(h:A->B:=by exact hF O [] [0,1,2,3,4,5,6,7] [8] ([a5.mk kL _ _]) _ cX bE a2 (by(repeat(first|apply List.Sublist.cons (a:=a5.mk kL _ _)|apply List.Sublist.cons_cons));exact oR _)):=h
def aPZ(h:A->B:=by exact k2 rfl (nA hC K m4 D) rfl rfl):=h
def aPS(h:A->B:=by exact k2 rfl (E8 hC K s0 D) rfl rfl):=h
def aQA(h:A->B:=by exact MG Qy rfl rfl rfl):=h
def b4g(h:A->B:=by exact gO (j2 (f:=aL) (p:=pM) (a:=_) O rfl rfl rfl rfl (hok) c0 j8 rfl kH) rfl):=h
def b2g(h:A->B:=by exact gO (j2 (f:=aL) (p:=qF) (a:=_) O rfl rfl rfl rfl (n9) c0 j8 rfl kH) rfl):=h
def aOo(h:A->B:=by exact(cK (nA hC K e6 D) ·)):=h
def aRx(h:A->B:=by exact(aG (h4 O ((⟨.own FN bS.l.length [],l7⟩:J Int)) _ rfl rfl ((show _=Value.slice _ _ _ from rfl).trans (v4 Ud)) rfl bC (i:=jP.bK.toNat) cW iC) ·)):=h
def aOU(h:A->B:=by exact(aG (h4 O ((⟨.own FN bS.l.length [],l7.set jP.bK.toNat (l7.getD jP.bK.toNat 0+q)⟩:J Int)) _ rfl rfl ((show _=Value.slice _ _ _ from rfl).trans (v4 (by rw[p6];exact Ud))) rfl bC (i:=jP.to.toNat) cW iC) ·)):=h
namespace Go.Proofs.YtchfclmokpbldaaGreat
open Go.Aw Go Go.Proofs.Tryz
def H3(a:bR)(s:cE):Nat->List a9
 |0=>List.replicate a.Y.aD.l.length ⟨0,0⟩
 |k+1=>
  let d:=a.aX.l.getD k default
  let x:=v1 d (s.aX.l.getD k 0)
  let y:=(H3 a s k).getD d.b9.toNat default
  (H3 a s k).set d.b9.toNat ⟨y.bG+x.bG,y.bO+x.bO⟩
def a4V(a:bR)(s:cE): ∀k,(H3 a s k).length=a.Y.aD.l.length
 |0=>by simp[H3]
 |k+1=>by simp only[H3,p6];exact a4V a s k
def aBV{a:bR}{s:cE}(ha:rH a){r:Nat}(M:r<a.Y.aD.l.length):∀k,k<=a.aX.l.length->∃x:a9,(H3 a s k)[r]?=some x/\
 (m8 a s r k).bG=(a.Y.aD.l.getD r default).aB.bG+x.bG/\(m8 a s r k).bO=(a.Y.aD.l.getD r default).aB.bO+x.bO
 |0,_=>⟨⟨0,0⟩,by simp[H3,M],by simp[m8],by simp[m8]⟩
 |k+1,hk=>by
  obtain⟨x,N,V,aQ⟩:=aBV (s:=s) ha M k D
  have hd:=ha.uD k _ (iL default (show k<a.aX.l.length by omega))
  have bJs:=hd.1.b9
  simp only[H3,m8]
  by_cases X:(a.aX.l.getD k default).b9=(r:Int)
  ·rw[if_pos X]
   have wG:(a.aX.l.getD k default).b9.toNat=r:=by omega
   rw[wG]
   have hg:(H3 a s k).getD r default=x:=by rw[iW,N];rfl
   refine⟨_,tQ (by rw[a4V];exact M),?_,?_⟩<;>rw[hg]<;>dsimp only<;>omega
  ·rw[if_neg X]
   have wG:¬(a.aX.l.getD k default).b9.toNat=r:=by omega
   exact⟨x,by rw[JR wG];exact N,V,aQ⟩
def qO(a:bR):Nat->List Nat
 |0=>[]
 |k+1=>if(a.Y.aD.l.getD k default).dM=true then qO a k else qO a k++[k]
def JY(a:bR)(v:Nat):Nat->List Int
 |0=>[]
 |k+1=>
  if(a.Y.aD.l.getD k default).dM=true then JY a v k
  else if(a.Y.aD.l.getD k default).bK=(v:Int)\/(a.Y.aD.l.getD k default).to=(v:Int)then JY a v k++[((qO a k).length:Int)]
  else JY a v k
def aCM(a:bR): ∀k,(qO a k).length<=k
 |0=>by simp[qO]
 |k+1=>by
  have:=aCM a k
  simp only[qO]
  split
  ·omega
  ·simp;omega
def a0b(a:bR)(v:Nat): ∀k,(JY a v k).length<=k
 |0=>by simp[JY]
 |k+1=>by
  have:=a0b a v k
  simp only[JY]
  split
  ·omega
  ·split
   ·simp;omega
   ·omega
structure uW where
 mO:a0 mK
 kW:a0 (a0 Int)
abbrev uW.val(n:uW):Value:=.agg #[n.mO.val,n.kW.val]
def uW.cells(n:uW):List Value:=[n.mO.val,n.kW.val]
def aBc(x:a0 Int):List Value:=[x.val]
abbrev sQ(x:a0 mK):fG:=x.fI 12 mK.cells (x.l.map mK.fI)
abbrev rI(x:a0 (a0 Int)):fG:=x.fI 1 aBc (x.l.map cZ)
structure N2(a:bR)(s:cE)(n:uW):Prop where
 Ch:n.mO.l.map mK.rC=(qO a a.Y.aD.l.length).map λ(i:Nat)=>(i:Int)
 U4:∀p∈n.mO.l,Rr a s p.rC p
 a6m:n.kW.l.length=a.Y.places.l.length
 kW:∀(v:Nat) (x:a0 Int),n.kW.l[v]?=some x->x.l=JY a v a.Y.aD.l.length
structure VZ(a:bR)(s:cE)(k:Nat)(F:List (J DZ)):Prop where
 len:F.length=a.Y.aD.l.length
 ok:∀(r:Nat) (p:J DZ),F[r]?=some p->p.ok 5 DZ.cells/\p.l=KS a s r k
def VZ.zero(a:bR)(s:cE):VZ a s 0 (List.replicate a.Y.aD.l.length J.nil):=by exact aHH
def VZ.EQ{a:bR}{s:cE}{k:Nat}{F:List (J DZ)}(h:VZ a s k F)(hs:s.a3.l.getD k 0=0):VZ a s (k+1) F:=by refine⟨h.len,λr p hp=>?_⟩;rw[KS,if_neg (λh=>h.1 hs)];exact h.ok r p hp
def VZ.next{a:bR}{s:cE}{k:Nat}{F:List (J DZ)}(h:VZ a s k F)(hs: ¬s.a3.l.getD k 0=0){i:Nat}(aA:(i:Int)=(a.a3.l.getD k default).b9){p:J DZ}(hp:F[i]? =some p){o:gZ}
 (ho:(⟨o,p.l++[⟨a.a3.l.getD k default,s.a3.l.getD k 0⟩]⟩:J DZ).ok 5 DZ.cells):VZ a s (k+1) (F.set i ⟨o,p.l++[⟨a.a3.l.getD k default,s.a3.l.getD k 0⟩]⟩):=by
 refine⟨by simp[h.len],λr q hq=>?_⟩;rw[EU]at hq;split at hq;·
  rename_i a7o;subst a7o;split at hq;·cases hq;refine⟨ho,?_⟩;dsimp only;rw[KS,if_pos ⟨hs,aA.symm⟩,(h.ok i p hp).2]
  ·cases hq
 ·rename_i a7o;rw[KS,if_neg (λh=>a7o D)];exact h.ok r q hq
structure VY(a:bR)(k:Nat)(aC:List (J Int)):Prop where
 len:aC.length=a.Y.places.l.length
 ok:∀(v:Nat) (p:J Int),aC[v]?=some p->p.ok 1 aL/\p.l=JY a v k
def VY.zero(a:bR):VY a 0 (List.replicate a.Y.places.l.length J.nil):=by exact aHH
def VY.EQ{a:bR}{k:Nat}{aC:List (J Int)}(h:VY a k aC)(hc:(a.Y.aD.l.getD k default).dM=true):VY a (k+1) aC:=by refine⟨h.len,λv p hp=>?_⟩;rw[JY,if_pos hc];exact h.ok v p hp
def VY.next{a:bR}{k:Nat}{aC:List (J Int)}(h:VY a k aC)(hc: ¬(a.Y.aD.l.getD k default).dM=true){i j:Nat}(aA:(i:Int)=(a.Y.aD.l.getD k default).bK)(aY:(j:Int)=(a.Y.aD.l.getD k default).to)(iO:i≠j)
 {p q:J Int} (hp:aC[i]?=some p) (hq:aC[j]?=some q) {o o':gZ} {n:Int} (hn:n=((qO a k).length:Int)) (ho:(⟨o,p.l++[n]⟩:J Int).ok 1 aL) (Of:(⟨o',q.l++[n]⟩:J Int).ok 1 aL):
 VY a (k+1) ((aC.set i ⟨o,p.l++[n]⟩).set j ⟨o',q.l++[n]⟩):=by
 refine⟨by simp[h.len],λv x K=>?_⟩;rw[JY,if_neg hc];rw[EU]at K;split at K;·
  rename_i hv;subst hv;split at K;·cases K;refine⟨Of,?_⟩;dsimp only;rw[if_pos (.inr aY.symm),(h.ok j q hq).2,hn]
  ·cases K
 ·
  rename_i hv;rw[EU]at K;split at K;·
   rename_i EF;subst EF;split at K;·cases K;refine⟨ho,?_⟩;dsimp only;rw[if_pos (.inl aA.symm),(h.ok i p hp).2,hn]
   ·cases K
  ·rename_i EF;rw[if_neg D];exact h.ok v x K
structure QA(a:bR)(s:cE)(S:aJ)(k:Nat)(P:J mK):Prop where
 ok:P.ok 12 mK.cells
 Ch:P.l.map mK.rC=(qO a k).map λ(i:Nat)=>(i:Int)
 U4:∀p∈P.l,Rr a s p.rC p/\aH p.fI S
def QA.length{a:bR}{s:cE}{S:aJ}{k:Nat}{P:J mK}(h:QA a s S k P):P.l.length=(qO a k).length:=by have:=congrArg List.length h.Ch;exact NI
def QA.zero(a:bR)(s:cE)(S:aJ):QA a s S 0 J.nil:=⟨J.g6,rfl,λ_ h=>by cases h⟩
def QA.EQ{a:bR}{s:cE}{S:aJ}{k:Nat}{P:J mK}(h:QA a s S k P)(hc:(a.Y.aD.l.getD k default).dM=true):QA a s S (k+1) P:=
 ⟨h.ok,by rw[qO,if_pos hc];exact h.Ch,h.U4⟩
def QA.next{a:bR}{s:cE}{S:aJ}{k:Nat}{P:J mK}(h:QA a s S k P)(hc:¬(a.Y.aD.l.getD k default).dM=true){p:mK}(hp:Rr a s k p)(hs:aH p.fI S){o:gZ}(ho:(⟨o,P.l++[p]⟩:J mK).ok 12 mK.cells):
 QA a s S (k+1) ⟨o,P.l++[p]⟩:=by
 refine⟨ho,?_,λq hq=>?_⟩;·rw[qO,if_neg hc];simp[h.Ch,hp.rC]
 ·
  rcases List.mem_append.1 hq with hq|hq;·exact h.U4 q hq
  ·rw[List.mem_singleton.1 hq];refine⟨?_,hs⟩;rw[hp.rC];exact hp
def aAK{aV:Type}{T:TypeId}{f:aV->List Value}(n:Nat):(List.replicate n (J.nil:J aV)).flatMap (J.L T f)=[]:=by
 induction n with
 |zero=>rfl
 |succ n cM=>rw[a8w,EW,cM];rfl
def a98{aV:Type}(n:Nat):CX [.slice none 0 0] n=(List.replicate n (J.nil:J aV)).flatMap MH:=aB5 (f:=MH) (x:=J.nil) rfl n
def b3x(n:Nat):CX [.int .i64 0,.int .i64 0] n=(List.replicate n (⟨0,0⟩:a9)).flatMap a9.cells:=aB5 (f:=a9.cells) (x:=⟨0,0⟩) rfl n
attribute [local irreducible] cH c6 dP aI cJ eD e9 e0 e1 e5 eS e8 J.L
def a9B(a:bR)(s:cE)(L:aP)(R:aJ)(hm:nT a R)(hs:o2 s R)(ha:rH a)(hf:YX a s):
 aI prog 113 [a.val,s.val].toArray L R (λv E G=>∃n:uW,v=n.val/\N2 a s n/\L=E/\sQ n.mO::rI n.kW::R=G):=by
 have UJ:=hm.aD;have EB:=hm.places;have tJ:=hm.a3;have pU:=hm.aX;have Bo:=hs.a3;have X4:=hs.aX;have u5:=ha.M8;have RG:=ha.O4;have Hg:=hf.X8;have bDb:=hf.aG2;have OX:=ha.Y.aD;have q9:=ha.Y.places;refine bW 181 call113 func113 ?_;apply(c8);intro cS;apply(iU);intro dG;apply(dA);intro cT;apply lP∘z3∘EL;rintro v E G ⟨C0,rfl,rfl,KZ⟩;replace KZ:=KZ.symm;subst KZ;apply vG∘z3∘EL;rintro v E G ⟨Fw,rfl,rfl,Mj⟩;replace Mj:=Mj.symm;subst Mj;apply z5∘r9;refine c7 [(2,.pointer _),(3,.pointer _),(4,.pointer _),(5,.slice _ _ _),(6,.slice _ _ _),(27,.slice _ _ _),(28,.int _ _),(29,.int _ _)] bP λeZ=>?_;refine mC ([7,8,9]++b4 29 35) ((⟨λg=>[(29,.int .i64 ((g.1:Nat):Int))],λg=>⟨Fw,CX [.slice none 0 0] a.Y.aD.l.length,223⟩::⟨C0,(H3 a s g.1).flatMap a9.cells,90⟩::⟨cT,[.slice none 0 0,.slice none 0 0],221⟩::⟨dG,s.cells,80⟩::⟨cS,a.cells,32⟩::L,λ_=>R,λg=>a.aX.l.length-g.1⟩:dV {k:Nat//k<=a.aX.l.length})) (⟨0,by omega⟩) bP (by dsimp only;rw[H3,<-b3x];exact oR _) fF ?_;rintro⟨k,hk⟩ bZ;try dsimp only
 apply(h2);apply(W)<;>intro aO;·
  have hd:=bJ a.aX.l k default;have u6:=bJ s.aX.l k 0;have C8:=ha.uD _ _ hd;have OU:=C8.1.b9;have UQ:=a4V a s k;obtain⟨y,aN,a7B,RN⟩:=aBV (s:=s) ha (r:=(a.aX.l.getD k default).b9.toNat) D k D;have bFf:=Fr (s:=s) ha (r:=(((a.aX.l.getD k default).b9.toNat:Nat):Int)) D k D;have UO:=a9X C8.1 (s.aX.l.getD k 0);have zN:=(ha.Y.b9 _ _ (bJ a.Y.aD.l ((a.aX.l.getD k default).b9.toNat) default)).aB;have Bz:(H3 a s k).getD (a.aX.l.getD k default).b9.toNat default=y:=getD_some aN;apply pR∘B2∘Pu∘dA;intro gL;apply dE∘G5;refine gJ O [0,1,2,3,4,5,6,7,8] _ cX bE g3 ?_;refine a4 lR ?_;apply WG∘lW;refine k6 rfl (b7Z (a.aX.l.getD k default) (s.aX.l.getD k 0) _ _ (pU.uD hd)) ?_;apply(p2);intro h8;apply sE∘F7∘aJM∘QP∘a3V∘EM∘YG∘l1∘PA∘a3V∘EM∘x1;refine ZA (v:=Value.int _ _) rfl rfl rfl rfl s6 Qv (by exact Kt (x5:=⟨y.bG+(v1 (a.aX.l.getD k default) (s.aX.l.getD k 0)).bG,y.bO⟩) bI bH bC aE) aE a2 ?_;apply(vW);obtain⟨PH,aGM⟩:∃PH:a9,PH=⟨y.bG+(v1 (a.aX.l.getD k default) (s.aX.l.getD k 0)).bG,y.bO⟩:=⟨_,rfl⟩;have a2f:((H3 a s k).set (a.aX.l.getD k default).b9.toNat ⟨y.bG+(v1 (a.aX.l.getD k default) (s.aX.l.getD k 0)).bG,y.bO⟩)[(a.aX.l.getD k default).b9.toNat]?=some PH:=by rw[aGM];exact tQ D
  have bKh:PH.bO=y.bO:=by rw[aGM]
  apply aJM∘QP∘a3V∘EM∘YG∘l1∘PA∘a3V∘EM∘x1;refine ZA (v:=Value.int _ _) rfl rfl rfl rfl s6 Qv (by exact Kt (x5:=⟨PH.bG,PH.bO+(v1 (a.aX.l.getD k default) (s.aX.l.getD k 0)).bO⟩) bI bH bC aE) aE a2 ?_;apply(TL);subst aGM;exact oT ⟨k+1,by omega⟩ kG bP (by dsimp only;rw[y6,H3];(try dsimp only);rw[Bz];exact a2) fF k1
 obtain rfl:k=a.aX.l.length:=by omega
 apply AV∘r9;refine c7 [(2,.pointer _),(3,.pointer _),(4,.pointer _),(5,.slice _ _ _),(6,.slice _ _ _),(65,.slice _ _ _),(66,.int _ _),(67,.int _ _)] bP λnS=>?_;refine mC ([10,11]++b4 67 30) ((⟨λg=>[(67,.int .i64 ((g.1.1:Nat):Int))],λg=>⟨Fw,g.1.2.flatMap MH,223⟩::⟨C0,(H3 a s a.aX.l.length).flatMap a9.cells,90⟩::⟨cT,[.slice none 0 0,.slice none 0 0],221⟩::⟨dG,s.cells,80⟩::⟨cS,a.cells,32⟩::(g.1.2.flatMap (J.L 292 DZ.cells)++L),λ_=>R,λg=>a.a3.l.length-g.1.1⟩:dV {g:Nat×List (J DZ)//g.1<=a.a3.l.length/\VZ a s g.1 g.2})) (⟨(0,List.replicate a.Y.aD.l.length J.nil),by omega,VZ.zero a s⟩) bP (by dsimp only;rw[aAK,<-a98];exact oR _) fF ?_;rintro⟨⟨k,F⟩,hk,h1⟩ bZ;try dsimp only
 dsimp only at hk h1;apply(h2);apply(W)<;>intro bF;·
  have hd:=bJ a.a3.l k default;have u6:=bJ s.a3.l k 0;have C8:=ha.nD _ _ hd;have OU:=C8.1.b9;have T2:=h1.len;have fW:(a.a3.l.getD k default).b9.toNat<F.length:=by omega
  obtain⟨p,hp⟩:=IA fW;have iB:=h1.ok _ _ hp;have eB:=aCz (a:=a) (s:=s) (r:=(((a.a3.l.getD k default).b9.toNat:Nat):Int)) k;rw[<-iB.2]at eB;apply pR∘B2∘OH;intro FL;apply dE∘rP∘gE∘B2∘jI∘qP;apply(W)<;>intro b2;·refine hF O [78,79,80] [0,1,2,3,4,5,6,7,8,9,10,11,12,13,14,15] [16,17,18] ([a5.mk FL _ _,a5.mk Fw _ _,a5.mk dG _ _]) _ cX bE a2 (by(repeat(first|apply List.Sublist.cons (a:=a5.mk Fw _ _)|apply List.Sublist.cons_cons));exact oR _) ?_;refine m5 oG ?_;apply IM∘QP;refine eO b0e ?_;apply YG∘a2x∘CN∘aHp∘vA;refine eO (mI (hN:=[(0,(Value.agg _).cells.toList),(1,(Value.int _ _).cells.toList)]) (cU:=[_,_,_,_,_]) O rfl rfl rfl rfl) ?_;refine MG a8Y rfl rfl rfl ?_;rintro v E G ⟨bII,rfl,rfl,aEm⟩;replace aEm:=aEm.symm;subst aEm;apply(xF);refine o4 (j2 (f:=DZ.cells) (a:=⟨a.a3.l.getD k default,s.a3.l.getD k 0⟩) O rfl rfl rfl rfl (iB.1) c0 j8 rfl kH) rfl rfl rfl ?_;rintro v E G ⟨a7V,rfl,aFO,rfl,rfl⟩;apply(fS);refine a4 b0e ?_;refine ZA (v:=Value.slice _ _ _) rfl rfl rfl rfl s6 Qv (by exact Kt (x5:=⟨a7V,p.l++[⟨a.a3.l.getD k default,s.a3.l.getD k 0⟩]⟩) bI bH bC aE) aE a2 ?_;apply(TL);exact aWI
  apply(n6);exact aWI
 obtain rfl:k=a.a3.l.length:=by omega
 apply oD∘z3∘EL;rintro v E G ⟨Fv,rfl,rfl,Mc⟩;replace Mc:=Mc.symm;subst Mc;refine aG (mI (hN:=[(1,(Value.slice _ _ _).cells.toList)]) (cU:=[_,_]) O rfl rfl rfl rfl) ?_;apply(dA);intro lN;apply rQ∘eP∘r9;refine c7 [(4,.pointer _),(5,.slice _ _ _),(6,.slice _ _ _),(12,.pointer _),(105,.slice _ _ _),(106,.int _ _),(107,.int _ _)] bP λNH=>?_;have mem:∀p∈F,∃r:Nat,F[r]?=some p:=λp hp=>List.mem_iff_getElem?.1 hp;refine b3k (A:=[_,_,_,_,_,_,_]) (aR:=5) (λb=>b.nD.fI) bI bH (λp hp=>?bGj) (λp hp x K=>?bGK) λS dW=>?_;case bGj=>obtain⟨r,M⟩:=mem p hp;exact(h1.ok r p M).1
 case bGK=>obtain⟨r,M⟩:=mem p hp;rw[(h1.ok r p M).2]at K;obtain⟨i,aA⟩:=a59 _ (g4 _) x K;exact tJ.nD aA
 apply(HR);have aTh:aH (YI a.Y.aD) (S++R):=UJ.mono λr h=>aM (by simp[h]);refine mC ([13,14,15]++b4 107 73) ((⟨λg=>[(107,.int .i64 ((g.1.1:Nat):Int))],λg=>⟨lN,[g.1.2.1.val,.slice (some ⟨Fv,0,none⟩) a.Y.places.l.length a.Y.places.l.length],221⟩::⟨Fv,g.1.2.2.flatMap MH,40⟩::⟨Fw,F.flatMap MH,223⟩::⟨C0,(H3 a s a.aX.l.length).flatMap a9.cells,90⟩::⟨cT,[.slice none 0 0,.slice none 0 0],221⟩::⟨dG,s.cells,80⟩::⟨cS,a.cells,32⟩::(g.1.2.1.L 225 mK.cells++(g.1.2.2.flatMap (J.L 3 aL)++L)),λ_=>S++R,λg=>a.Y.aD.l.length-g.1.1⟩:dV {g:Nat×J mK×List (J Int)//g.1<=a.Y.aD.l.length/\QA a s S g.1 g.2.1/\VY a g.1 g.2.2})) (⟨(0,J.nil,List.replicate a.Y.places.l.length J.nil),by dsimp only;omega,QA.zero a s S,VY.zero a⟩) bP (by dsimp only;rw[lT,aAK,<-a98];exact oR _) fF ?_;rintro⟨⟨k,P,aC⟩,hk,i0,nW⟩ bZ;try dsimp only
 dsimp only at hk i0 nW;apply(h2);apply(W)<;>intro dZ;·
  have M:=bJ a.Y.aD.l k default;have kX:=ha.Y.b9 _ _ M;have RI:=kX.bK;have X2:=kX.to;have a7n:=kX.ne;have zN:=kX.aB;have Lz:=nW.len;have T2:=h1.len;have bJg:=i0.length;have aTw:=aCM a k;have bC1:k<F.length:=by omega
  obtain⟨aR2,MU⟩:=IA bC1;have bCE:=h1.ok _ _ MU;have DA:(a.Y.aD.l.getD k default).bK.toNat<aC.length:=by omega
  have jM:(a.Y.aD.l.getD k default).to.toNat<aC.length:=by omega
  obtain⟨p,hp⟩:=IA DA;obtain⟨q,hq⟩:=IA jM;have iB:=nW.ok _ _ hp;have gG:=nW.ok _ _ hq;have eB:=a0b a (a.Y.aD.l.getD k default).bK.toNat k;have gB:=a0b a (a.Y.aD.l.getD k default).to.toNat k;rw[<-iB.2]at eB;rw[<-gG.2]at gB;have iO:(a.Y.aD.l.getD k default).bK.toNat≠(a.Y.aD.l.getD k default).to.toNat:=by omega
  obtain⟨y,aN,a7B,RN⟩:=aBV (s:=s) ha (r:=k) D a.aX.l.length D;have bFf:=Fr (s:=s) ha (r:=((k:Nat):Int)) D a.aX.l.length D;have UQ:=a4V a s a.aX.l.length;apply pR∘B2∘WQ;intro sA;apply dE∘G6∘b3;apply(W)<;>intro dX;·refine lC (lB (lA (aZ (cR ?_))));apply(uX);exact aVY
  apply eR∘lM∘zG;refine hF O [117,118,119,120] [0,1,2,3,4,5,6,7,8,9,10,11] [12,13,14] ([a5.mk sA _ _,a5.mk lN _ _,a5.mk Fv _ _]) _ cX bE a2 b0W ?_;apply IM∘IM∘QV;refine eO aZ3 ?_;apply YG∘wM∘VA;rintro v E G ⟨bIv,rfl,rfl,aDX⟩;replace aDX:=aDX.symm;subst aDX;apply(xF);refine o4 (j2 (f:=aL) (a:=(P.l.length:Int)) O rfl rfl rfl rfl (iB.1) c0 j8 rfl kH) rfl rfl rfl ?_;rintro v E G ⟨aUu,rfl,bDE,rfl,rfl⟩;apply(fS);refine a4 aZ3 ?_;refine ZA (v:=Value.slice _ _ _) rfl rfl rfl rfl s6 Qv (by exact Kt (x5:=⟨aUu,p.l++[(P.l.length:Int)]⟩) bI bH bC aE) aE a2 ?_;apply(F7);have bEp:(aC.set (a.Y.aD.l.getD k default).bK.toNat ⟨aUu,p.l++[(P.l.length:Int)]⟩)[(a.Y.aD.l.getD k default).to.toNat]?=some q:=by rw[JR iO];exact hq
  refine hF O [131,132,133,134] [0,1,2,3,4,5,6,7,8,9,10,11] [12,13,14] ([a5.mk sA _ _,a5.mk lN _ _,a5.mk Fv _ _]) _ cX bE a2 b0W ?_;apply IM∘IM∘QV;refine eO aZ6 ?_;apply YG∘wM∘VA;rintro v E G ⟨bIx,rfl,rfl,aDZ⟩;replace aDZ:=aDZ.symm;subst aDZ;apply(xF);refine o4 (j2 (f:=aL) (a:=(P.l.length:Int)) O rfl rfl rfl rfl (gG.1) c0 j8 rfl kH) rfl rfl rfl ?_;rintro v E G ⟨bF1,rfl,bDG,rfl,rfl⟩;apply(fS);refine a4 aZ6 ?_;refine ZA (v:=Value.slice _ _ _) rfl rfl rfl rfl s6 Qv (by exact Kt (x5:=⟨bF1,q.l++[(P.l.length:Int)]⟩) bI bH bC aE) aE a2 ?_;apply F7∘aM6∘wL∘l1∘G2∘aBd∘EM∘YG∘PA∘wL∘TA∘F7∘aM6∘wL∘l1∘G2∘aBd∘EM∘YG∘PA∘wL∘TA∘vW;refine hF O [] [0,1,2,3,4,5,6,7,8,9] [10,11,12] ([a5.mk sA _ _,a5.mk lN _ _,a5.mk Fw _ _]) _ cX bE a2 dT ?_;apply(l1);refine eO a9c ?_;apply wM∘G2∘aBd∘YG;refine eO (mI (hN:=[(0,(Value.agg _).cells.toList),(1,(Value.int _ _).cells.toList),(2,(Value.slice _ _ _).cells.toList)]) (cU:=[_,_,_,_,_,_,_,_,_,_,_,_]) O rfl rfl rfl rfl) ?_;refine MG (L0 (hN:=[(0,(Value.agg _).cells.toList)]) (cU:=[_,_,_,_,_,_,_,_,_,_,_,_]) O rfl rfl rfl rfl rfl rfl rfl) rfl rfl rfl ?_;rintro v E G ⟨aRO,rfl,rfl,Mi⟩;replace Mi:=Mi.symm;subst Mi;apply(xF);refine o4 (j2 (f:=mK.cells) (a:=⟨{a.Y.aD.l.getD k default with aB:=⟨(a.Y.aD.l.getD k default).aB.bG+y.bG,(a.Y.aD.l.getD k default).aB.bO+y.bO⟩},(k:Int),aR2.U⟩) O rfl rfl rfl rfl (i0.ok) c0 j8 rfl kH) rfl rfl rfl ?_;rintro v E G ⟨bKH,rfl,bDL,rfl,rfl⟩;apply KI∘TL;exact aVY
 obtain rfl:k=a.Y.aD.l.length:=by omega
 apply(O9);have Lz:=nW.len;refine vF (A:=[_,_,_,_,_,_,_]) (aR:=12) (P.l.map mK.fI) bI bH i0.ok (λx K=>?bGL) ?_;case bGL=>obtain⟨p,hp,rfl⟩:=List.mem_map.1 K;exact(i0.U4 p hp).2.mono λr h=>aM (by simp[h])
 apply(HR);refine aKl (A:=[_,_,_,_,_,_,_]) (aR:=1) bI bH (λp hp=>?aHn) λe2 uI=>?_;case aHn=>obtain⟨r,M⟩:=List.mem_iff_getElem?.1 hp;exact(nW.ok r p M).1
 apply(HR);refine Zb (A:=[_]) (aR:=1) (len:=(aC.map J.U).length) (cap:=a.Y.places.l.length) (rows:=(aC.map J.U).map aBc) (eQ:=(aC.map J.U).map cZ) fX B6 D (λr M=>?s4) bH ?aDj (λx K=>?aHB) ?_;case s4=>obtain⟨y,_,rfl⟩:=List.mem_map.1 M;rfl
 case aDj=>exact aW3
 case aHB=>exact b0z
 apply HR∘eK∘S6;refine lJ (E:=L) (G:=sQ P.U::rI ⟨some ⟨Fv,0,none⟩,a.Y.places.l.length,aC.map J.U⟩::R) mR ?hp ?c2 ?bD;case hp=>
  refine⟨⟨P.U,⟨some ⟨Fv,0,none⟩,a.Y.places.l.length,aC.map J.U⟩⟩,?_,⟨i0.Ch,λp hp=>(i0.U4 p hp).1,by simp[Lz],λv x K=>?_⟩,rfl,rfl⟩;·simp only[uW.val,a0.val,uQ,Lz];rfl
  ·dsimp only at K;exact aZ5
 case c2=>exact a2
 case bD=>exact λr M=>aM (by simp only[vC,Ja]at M|-;rcases M with h|h|h<;>simp[h])
def a4i{a:bR}{i:Nat}: ∀{k:Nat},i∈qO a k↔i<k/\(a.Y.aD.l.getD i default).dM=false
 |0=>by simp[qO]
 |k+1=>by
  have cM:=a4i (a:=a) (i:=i) (k:=k)
  simp only[qO]
  by_cases hc:(a.Y.aD.l.getD k default).dM=true
  ·rw[if_pos hc,cM]
   constructor
   ·rintro⟨N,V⟩;exact⟨by omega,V⟩
   ·rintro⟨N,V⟩
    refine⟨?_,V⟩
    rcases Ww (Wy N)with h|h
    ·exact h
    ·subst h;rw[hc]at V;cases V
  ·rw[if_neg hc,Ja,cM,aH8]
   constructor
   ·rintro(⟨N,V⟩|rfl)
    ·exact⟨by omega,V⟩
    ·exact⟨by omega,by simpa using hc⟩
   ·rintro⟨N,V⟩
    rcases Ww (Wy N)with h|h
    ·exact .inl ⟨h,V⟩
    ·exact .inr h
def N2.find{a:bR}{s:cE}{n:uW}(h:N2 a s n){r:Int}(M:0<=r/\r<a.Y.aD.l.length)(hc:(a.Y.aD.l.getD r.toNat default).dM=false):∃(j:Nat) (p:mK),n.mO.l[j]?=some p/\p.rC=r:=by
 have N:r.toNat∈qO a a.Y.aD.l.length:=a4i.2 ⟨by omega,hc⟩;have V:r∈n.mO.l.map mK.rC:=by rw[h.Ch];exact List.mem_map.2 ⟨_,N,by omega⟩
 obtain⟨p,hp,X⟩:=List.mem_map.1 V;obtain⟨j,aY⟩:=List.mem_iff_getElem?.1 hp;exact⟨j,p,aY,X⟩
def N2.open{a:bR}{s:cE}{n:uW}(h:N2 a s n){p:mK}(hp:p∈n.mO.l):(0<=p.rC/\p.rC<a.Y.aD.l.length)/\(a.Y.aD.l.getD p.rC.toNat default).dM=false:=by have V:p.rC∈n.mO.l.map mK.rC:=List.mem_map.2 ⟨p,hp,rfl⟩;rw[h.Ch]at V;obtain⟨i,aA,X⟩:=List.mem_map.1 V;obtain⟨aQ,b7⟩:=a4i.1 aA;rw[<-X];exact⟨by omega,by simpa using b7⟩
def N2.length{a:bR}{s:cE}{n:uW}(h:N2 a s n):n.mO.l.length<=a.Y.aD.l.length:=by have:=congrArg List.length h.Ch;simp only[uQ]at this;have:=aCM a a.Y.aD.l.length;omega
def aH.U4{x:a0 mK}{R:aJ}(h:aH (sQ x) R){i:Nat}{p:mK}(aA:x.l[i]?=some p):aH p.fI R:=
 h.sub (.XE (List.mem_map.2 ⟨p,gU aA,rfl⟩) .mW)
def b9G{a:bR}{s:cE}{x:q2}(bQ:hO a=0)(N:lL a s=true)(V: ¬(x.bY.l.length≠a.Y.places.l.length\/x.g8.l.length≠a.Y.aD.l.length))(aQ:x.bY.l.findSome? rK=none)(b7:x.g8.l.findSome? Dx=none)
 (eG:∀i,i<x.g8.l.length->SD a s x i=none) (gF:∀v,v<x.bY.l.length->TT a x (KG a x x.g8.l.length) v=none):Es a s x=0:=by have dY:(List.range x.g8.l.length).findSome? (SD a s x)=none:=List.findSome?_eq_none_iff.2 λi aA=>eG i (List.mem_range.1 aA);have eY:(List.range x.bY.l.length).findSome? (TT a x (KG a x x.g8.l.length))=none:=List.findSome?_eq_none_iff.2 λi aA=>gF i (List.mem_range.1 aA);rw[aAA bQ N V,aQ,b7,dY,eY];rfl
def b8N{l:List Int}(h:l.findSome? rK=none):∀(i:Nat) (p:Int),l[i]?=some p->-70368744177664<=p/\p<=70368744177664:=λi p hp=>by
 have:=List.findSome?_eq_none_iff.1 h p (gU hp)
 unfold rK at this
 split at this
 ·cases this
 ·omega
structure aAB(bK to:Int)(r:eL):Prop where
 bK:r.bK=bK
 to:r.to=to
 len:1<=r.len/\r.len<=400
 n7:4<=r.n7/\r.n7<=30
 dM:r.dM=false
 aB:1<=r.aB.bG/\r.aB.bG<=r.aB.bO/\r.aB.bO<=22
 jO:-300<=r.jO.bG/\r.jO.bG<=r.jO.bO/\r.jO.bO<=320
def jK.mono{x:a0 Int}{R G:aJ}(h:jK x R)(k:∀r∈R,aH r G):jK x G:=⟨h.fI.mono k,h.a6q⟩
def b8U(c:Nat)(x:a0 Int)(k:Nat)(bK to:Int)(R:aJ)(K:jK x R)(hk:k<=x.l.length):
 aI prog 105 [.pointer (some ⟨c,0,none⟩),.int .i64 bK,.int .i64 to].toArray [eT c x k] R
  (λv E G=>∃(r:eL) (b5:Nat),v=r.val/\aAB bK to r/\b5<=x.l.length/\[eT c x b5]=E/\R=G):=by refine bW 42 call105 func105 ?_;apply(IV);intro hP;apply lP∘pS∘hS∘aBP;rintro v E G ⟨k8,eU,rfl,u1,yO,e6,rfl,rfl⟩;apply hS∘aBp;rintro v E G ⟨lH,eE,rfl,q7,u2,hK,rfl,rfl⟩;apply hS∘aBK;rintro v E G ⟨rE,i2,rfl,KW,I4,Ua,l4,rfl,rfl⟩;apply F6∘hS;refine cK (E8 hC K l4 D) ?_;rintro v E G ⟨AW,eV,rfl,OM,ON,m4,rfl,rfl⟩;refine aG aZR ?_;refine aG (mI (hN:=[(0,(Value.int _ _).cells.toList),(1,(Value.int _ _).cells.toList),(2,(Value.int _ _).cells.toList),(3,(Value.int _ _).cells.toList),(4,(Value.bool _).cells.toList),(6,(Value.agg _).cells.toList)]) (cU:=[_,_,_,_,_,_,_,_,_,_]) O rfl rfl rfl rfl) ?_;apply(dA);intro kL;apply G5∘aPg∘wL∘IP∘aPZ;rintro v E G ⟨PD,vS,rfl,Ub,XH,a03,uJ,rfl,rfl⟩;refine⟨a2,gN,?_⟩;apply PA∘wL∘TA∘F7;have aDy:=XH D;apply(A9);refine cK (E8 hC K uJ D) ?_;rintro v E G ⟨tO,BV,rfl,Ag,OO,AP,rfl,rfl⟩;apply eP∘r7∘jW∘aPg∘wL∘IP;refine k2 rfl (nA hC K AP D) rfl rfl ?_;rintro v E G ⟨Ip,JH,rfl,a06,Lv,aDz,MZ,rfl,rfl⟩;refine⟨a2,gN,?_⟩;apply PA∘wL∘TA∘F7;have aDA:=Lv D;apply(eK);refine aG a9c ?_;apply(wA);refine bN [eT c x JH] R (pG rfl (Y1 (row:=[_,_,_,_,_,_,_,_,_,_]) O rfl rfl rfl o0 aE aE)) ?_;exact⟨⟨bK,to,k8,lH,decide (0<rE),false,⟨AW,AW+PD⟩,⟨tO,tO+Ip⟩⟩,JH,rfl,⟨rfl,rfl,⟨u1,yO⟩,⟨q7,u2⟩,rfl,by dsimp only;omega,by dsimp only;omega⟩,MZ,rfl,rfl⟩
structure Ee(l:List h6):Prop where
 len:1<=l.length/\l.length<=4
 ok:A1 l
 a8g:(l.getD 0 default).bY<=3000
def A1.Px{l:List h6}{p:h6}(h:A1 l)(hl:1<=l.length)(hp:-1048576<=p.dB/\p.dB<=1048576/\0<=p.bY/\p.bY<=2199023255552)(hs:(l.getD (l.length-1) default).dB<p.dB/\p.bY<=(l.getD (l.length-1) default).bY):A1 (l++[p]):=by
 refine⟨λi q hq=>?_,λi q r hq M=>?_⟩;·
  rw[Da]at hq;split at hq;·exact h.yY i q hq
  ·
   rw[Je]at hq;split at hq;·cases hq;exact hp
   ·cases hq
 ·
  rw[Da]at hq M;split at M;·rename_i V;rw[if_pos D]at hq;exact h.e7 i q r hq M
  ·
   rename_i V;rw[Je]at M;split at M;·cases M;rw[if_pos D]at hq;(have e:i=l.length-1:=by omega);subst e;rw[getD_some hq]at hs;exact hs
   ·cases M
def Sl{aV:Type}{l m:List aV}{i:Nat}{d:aV}(h:i<l.length):(l++m).getD i d=l.getD i d:=by rw[iW,iW,HU h]
def a0G{aV:Type}{l:List aV}{x d:aV}{n:Nat}(h:n=l.length):(l++[x]).getD n d=x:=by subst h;rw[iW];simp
structure a3B(n:Int)(y:J h6):Prop where
 n:0<=n/\(y.l.length:Int)+n<=4
 len:1<=y.l.length
 aRW:A1 y.l
 a8g:(y.l.getD 0 default).bY<=3000
 xY:-20<=(y.l.getD (y.l.length-1) default).dB/\(y.l.getD (y.l.length-1) default).dB<=40*(y.l.length:Int)/\0<=(y.l.getD (y.l.length-1) default).bY/\(y.l.getD (y.l.length-1) default).bY<=3000
def a3B.next{n:Int}{y:J h6}(h:a3B n y)(hn:0<n){a b:Int}(ha:1<=a/\a<=40)(hb:0<=b/\b<=899){o:gZ}{p:h6}(N:p.dB=(y.l.getD (y.l.length-1) default).dB+a)(V:p.bY=max 0 ((y.l.getD (y.l.length-1) default).bY-b)):a3B (n-1) ⟨o,y.l++[p]⟩:=by
 have hl:=h.len;have aTb:=h.xY;have Bb:=h.n;have dY:(y.l++[p]).length=y.l.length+1:=by simp
 have eY:(y.l++[p]).getD ((y.l++[p]).length-1) default=p:=a0G D;refine⟨by dsimp only;omega,by dsimp only;omega,h.aRW.Px hl D D,?_,?_⟩;·dsimp only;rw[Sl D];exact h.a8g
 ·dsimp only;rw[eY,dY];omega
def b4v(c:Nat)(x:a0 Int)(k:Nat)(R:aJ)(K:jK x R)(hk:k<=x.l.length):
 aI prog 179 [.pointer (some ⟨c,0,none⟩)].toArray [eT c x k] R
  (λv E G=>∃(y:a0 h6) (b5:Nat),v=y.val/\Ee y.l/\b5<=x.l.length/\[eT c x b5]=E/\Vu y::R=G):=by
 refine bW 40 call179 func179 ?_;apply cO∘vG∘hS∘aBP;rintro v E G ⟨k8,eU,rfl,u1,yO,e6,rfl,rfl⟩;apply hS∘aBp;rintro v E G ⟨lH,eE,rfl,q7,u2,hK,rfl,rfl⟩;apply y0∘aAZ;rintro v E G ⟨FL,rfl,rfl,aDS⟩;replace aDS:=aDS.symm;subst aDS;apply z5∘hS∘aBK;rintro v E G ⟨rE,i2,rfl,KW,I4,Ua,l4,rfl,rfl⟩;apply(mM);refine c7 [(0,.pointer _),(3,.slice _ _ _),(4,.int _ _)] bP λeZ=>?_;have a02:=I4 D;refine mJ (Lj (f:=h6.cells) (n:=1) [⟨k8,lH⟩] rfl _) ?_;refine kO ([3,4,5]++b4 14 25) ((⟨λg=>[(3,g.1.2.2.val),(4,.int .i64 g.1.2.1)],λg=>g.1.2.2.L 319 h6.cells++(eT c x g.1.1::[]),λ_=>R,λg=>g.1.2.1.toNat⟩:dV {g:Nat×Int×J h6//g.1<=x.l.length/\g.2.2.ok 2 h6.cells/\a3B g.2.1 g.2.2})) (⟨(i2,rE,⟨.own FL 1 [],[⟨k8,lH⟩]⟩),l4,V4 bI rfl bH,⟨by dsimp only;simp only[pN];omega,by simp,⟨λi q hq=>by(cases i with|zero=>cases hq;dsimp only;omega|succ i=>cases hq),λi q r hq M=>by cases M⟩,by simp;omega,by simp;omega⟩⟩) ?_;rintro⟨⟨hB,n,y⟩,s0,hok,dR⟩ bZ;try dsimp only
 dsimp only at s0 hok dR;apply(ZV);apply(W)<;>intro aO;·have hl:=dR.len;have Bb:=dR.n;have aTb:=dR.xY;have aSZ:=bJ y.l (y.l.length-1) default;apply j7∘hM∘QQ;refine aG (h4 O (y) _ rfl rfl rfl rfl bC (i:=y.l.length-1) cW iC) ?_;refine aG (a30 (row:=[_,_]) O (y) rfl rfl rfl c0 bC bI bC aE aE) ?_;apply(dA);intro eH;apply i3∘b3;refine hF O [] [0,1,2,3,6,7,8,4,5,9,10,11,12,13] [14,15] ([a5.mk eH _ _]) _ cX bE a2 dT ?_;apply Vy∘IP∘IP∘aPS;rintro v E G ⟨AW,eV,rfl,OM,ON,m4,rfl,rfl⟩;refine⟨a2,gN,?_⟩;apply PA∘aPZ;rintro v E G ⟨PD,vS,rfl,Ub,XH,a03,uJ,rfl,rfl⟩;refine⟨a2,gN,?_⟩;apply(NE);refine eO B9 ?_;apply Cn∘aQA;rintro v E G ⟨QZ,rfl,rfl,K2⟩;replace K2:=K2.symm;subst K2;apply(xF);refine o4 (j2 (f:=h6.cells) (p:=y) (a:=⟨(y.l.getD (y.l.length-1) default).dB+AW,max 0 ((y.l.getD (y.l.length-1) default).bY-PD)⟩) O rfl rfl rfl rfl (hok) c0 j8 rfl kH) rfl rfl rfl ?_;rintro v E G ⟨aUA,rfl,a1S,rfl,rfl⟩;apply(fS);refine a4 A0 ?_;apply Cm∘ZU;exact dU ⟨(vS,n-1,_),uJ,a1S,dR.next aO ⟨OM,ON⟩ ⟨Ub,by have:=XH D;omega⟩ rfl rfl⟩
 apply(O9);refine aN3 [] hok bI bH lQ ?_;apply wC∘S4;refine bN [eT c x hB] (Vu y.U::R) vD ?_;exact⟨y.U,hB,rfl,⟨⟨dR.len,by have:=dR.n;dsimp only;omega⟩,dR.aRW,dR.a8g⟩,s0,rfl,rfl⟩
structure Ro(b9:Int)(d:g9):Prop where
 b9:d.b9=b9
 yV:d.yV= -1
 len:2<=d.hH.l.length/\d.hH.l.length<=4
 aB:∀(i:Nat) (v:Int),d.hH.l[i]?=some v->0<=v/\v<=900
 Tw:w0 d.hH.l d.hH.l.length=true
def aOP{l m:List Int}: ∀{k:Nat},k<=l.length->w0 (l++m) k=w0 l k
 |0,_=>rfl
 |k+1,hk=>by
  rw[w0,w0,aOP D,Sl D]
  rcases k with _|k
  ·rfl
  ·rw[Sl D]
structure a3D(n:Int)(l:List Int):Prop where
 n:0<=n/\(l.length:Int)+n<=4/\2<=(l.length:Int)+n
 len:1<=l.length
 aB:∀(i:Nat) (v:Int),l[i]?=some v->0<=v/\v<=900
 Tw:w0 l l.length=true
 xY:260-60*(l.length:Int)<=l.getD (l.length-1) 0
def a3D.next{n:Int}{l:List Int}(h:a3D n l)(hn:0<n){b v:Int}(hb:1<=b/\b<=60)(hv:v=max 0 (l.getD (l.length-1) 0-b)):a3D (n-1) (l++[v]):=by
 have hl:=h.len;have Bb:=h.n;have aTb:=h.xY;have aTd:=h.aB _ _ (bJ l (l.length-1) 0);have dY:(l++[v]).length=l.length+1:=by simp
 refine⟨by rw[dY];omega,by omega,λi w cV=>?_,?_,?_⟩;·
  rw[Da]at cV;split at cV;·exact h.aB i w cV
  ·
   rw[Je]at cV;split at cV;·cases cV;omega
   ·cases cV
 ·rw[dY,w0,aOP (g4 _),h.Tw,a0G rfl,Sl D];simp only[Bool.true_and,Qj,decide_eq_true_eq];omega
 ·rw[dY,a0G D];omega
def b6t(c:Nat)(x:a0 Int)(k:Nat)(b9:Int)(R:aJ)(K:jK x R)(hk:k<=x.l.length):
 aI prog 180 [.pointer (some ⟨c,0,none⟩),.int .i64 b9].toArray [eT c x k] R
  (λv E G=>∃(d:g9) (b5:Nat),v=d.val/\Ro b9 d/\b5<=x.l.length/\[eT c x b5]=E/\d.fI::R=G):=by
 refine bW 36 call180 func180 ?_;apply(IV);intro cT;apply lP∘b1∘hS∘aBP;rintro v E G ⟨k8,eU,rfl,u1,yO,e6,rfl,rfl⟩;apply(zU);rintro v E G ⟨jE,rfl,rfl,T4⟩;replace T4:=T4.symm;subst T4;refine aG aIn ?_;apply(dA);intro eH;apply rQ∘hS∘aBp;rintro v E G ⟨lH,eE,rfl,q7,u2,hK,rfl,rfl⟩;apply(mM);refine c7 [(0,.pointer _),(4,.pointer _),(5,.pointer _),(6,.int _ _)] bP λeZ=>?_;refine mJ (congrArg (List.cons _) (Lj (f:=aL) (n:=1) [k8] rfl _)) ?_;refine kO ([6]++b4 14 21) ((⟨λg=>[(6,.int .i64 g.1.2.1)],λg=>⟨eH,[.int .i64 b9,.int .i64 (-1),g.1.2.2.val],239⟩::(g.1.2.2.L 3 aL++(⟨cT,[.int .i64 0,.int .i64 0,.slice none 0 0],239⟩::eT c x g.1.1::[])),λ_=>R,λg=>g.1.2.1.toNat⟩:dV {g:Nat×Int×J Int//g.1<=x.l.length/\g.2.2.ok 1 aL/\a3D g.2.1 g.2.2.l})) (⟨(eE,lH,⟨.own jE 1 [],[k8]⟩),hK,V4 bI rfl bH,⟨by dsimp only;simp only[pN];omega,by simp,λi q hq=>by(cases i with|zero=>cases hq;omega|succ i=>cases hq),rfl,by simp;omega⟩⟩) ?_;rintro⟨⟨hB,n,y⟩,s0,hok,dR⟩ bZ;try dsimp only
 dsimp only at s0 hok dR;apply(ZV);apply(W)<;>intro aO;·have hl:=dR.len;have Bb:=dR.n;have aSZ:=bJ y.l (y.l.length-1) 0;have aTd:=dR.aB _ _ aSZ;refine dK (aZ (a6 (e3 ?_)));refine hF O [] [0,1,2,3,4,5,6,7,8,9,10,11,12,13,14] [15,16,17] ([a5.mk eH _ _]++(y.L 3 aL++[])) _ cX bE a2 dT ?_;apply QV∘l1;refine eO vZ ?_;apply(NE);refine eO (h4 O (y) _ rfl rfl rfl rfl bC (i:=y.l.length-1) cW iC) ?_;refine eO (qK O (y) rfl rfl rfl c0 bC bI bC aE) ?_;apply DK∘aPS;rintro v E G ⟨AW,eV,rfl,OM,ON,m4,rfl,rfl⟩;refine⟨a2,gN,?_⟩;apply(NE);refine eO B9 ?_;apply(VA);rintro v E G ⟨ML,rfl,rfl,K1⟩;replace K1:=K1.symm;subst K1;apply(xF);refine o4 (j2 (f:=aL) (p:=y) (a:=max 0 (y.l.getD (y.l.length-1) 0-AW)) O rfl rfl rfl rfl (hok) c0 j8 rfl kH) rfl rfl rfl ?_;rintro v E G ⟨aUy,rfl,aFF,rfl,rfl⟩;apply KI∘Cm∘ZU;exact dU ⟨(eV,n-1,_),m4,aFF,dR.next aO ⟨OM,ON⟩ rfl⟩
 apply(O9);refine vF (A:=[_]) (aR:=1) [] bI bH hok lQ ?_;apply HR∘eK;refine aG lR ?_;apply(wA);refine bN [eT c x hB] ((y.U.fI 1 aL [])::R) (pG rfl VM) ?_;exact⟨⟨b9,-1,y.U⟩,hB,rfl,⟨rfl,rfl,by have:=dR.n;dsimp only;omega,dR.aB,dR.Tw⟩,s0,rfl,rfl⟩
def b8c{c:Nat}{x:a0 Int}{k:Nat}{L:aP}{F:List Value->aP}{R:aJ}(c4:zA c (qN x k) 168 L F)(K:jK x R)(hk:k<=x.l.length):
 aI prog 179 [.pointer (some ⟨c,0,none⟩)].toArray L R
  (λv E G=>∃(y:a0 h6) (b5:Nat),v=y.val/\Ee y.l/\b5<=x.l.length/\F (qN x b5)=E/\Vu y::R=G):=
 (aI.TU (xA:=λv gH G=> ∃(y:a0 h6) (b5:Nat),v=y.val/\Ee y.l/\b5<=x.l.length/\gH=qN x b5/\Vu y::R=G) c4 (b4v c x k R K hk)
  (λv E G ⟨y,b5,N,V,eG,gF,iF⟩=>⟨_,gF,y,b5,N,V,eG,rfl,iF⟩)).mono
  (λv E G ⟨gH,bQ,y,b5,N,V,eG,gF,iF⟩=>⟨y,b5,N,V,eG,by rw[<-gF];exact bQ,iF⟩)
def b1J{c:Nat}{x:a0 Int}{k:Nat}{b9:Int}{L:aP}{F:List Value->aP}{R:aJ}(c4:zA c (qN x k) 168 L F)(K:jK x R)(hk:k<=x.l.length):
 aI prog 180 [.pointer (some ⟨c,0,none⟩),.int .i64 b9].toArray L R
  (λv E G=>∃(d:g9) (b5:Nat),v=d.val/\Ro b9 d/\b5<=x.l.length/\F (qN x b5)=E/\d.fI::R=G):=
 (aI.TU (xA:=λv gH G=> ∃(d:g9) (b5:Nat),v=d.val/\Ro b9 d/\b5<=x.l.length/\gH=qN x b5/\d.fI::R=G) c4 (b6t c x k b9 R K hk)
  (λv E G ⟨y,b5,N,V,eG,gF,iF⟩=>⟨_,gF,y,b5,N,V,eG,rfl,iF⟩)).mono
  (λv E G ⟨gH,bQ,y,b5,N,V,eG,gF,iF⟩=>⟨y,b5,N,V,eG,by rw[<-gF];exact bQ,iF⟩)
def aNd{c:Nat}{x:a0 Int}{k:Nat}{bK to:Int}{L:aP}{F:List Value->aP}{R:aJ}(c4:zA c (qN x k) 168 L F)(K:jK x R)(hk:k<=x.l.length):
 aI prog 105 [.pointer (some ⟨c,0,none⟩),.int .i64 bK,.int .i64 to].toArray L R
  (λv E G=>∃(r:eL) (b5:Nat),v=r.val/\aAB bK to r/\b5<=x.l.length/\F (qN x b5)=E/\R=G):=
 (aI.TU (xA:=λv gH G=> ∃(r:eL) (b5:Nat),v=r.val/\aAB bK to r/\b5<=x.l.length/\gH=qN x b5/\R=G) c4 (b8U c x k bK to R K hk)
  (λv E G ⟨y,b5,N,V,eG,gF,iF⟩=>⟨_,gF,y,b5,N,V,eG,rfl,iF⟩)).mono
  (λv E G ⟨gH,bQ,y,b5,N,V,eG,gF,iF⟩=>⟨y,b5,N,V,eG,by rw[<-gF];exact bQ,iF⟩)
structure a3F(n:Nat)(f:hY):Prop where
 b9:0<=f.b9/\f.b9<n
 hJ:Ee f.hJ.l
structure a3C(n:Nat)(d:g9):Prop where
 b9:0<=d.b9/\d.b9<n
 Cg:Ro d.b9 d
structure NX(n:Nat)(m:Int)(a3:List hY)(mH:List Int):Prop where
 m:0<=m/\(a3.length:Int)+m<=2
 len:mH.length=a3.length
 nD:∀f∈a3,a3F n f
 e7:∀s∈mH,0<=s/\s<=2
structure NU(n:Nat)(m:Int)(aX:List g9)(m6:List Int):Prop where
 m:0<=m/\(aX.length:Int)+m<=2
 len:m6.length=aX.length
 uD:∀d∈aX,a3C n d
 e7:∀(i:Nat) (d:g9) (s:Int),aX[i]?=some d->m6[i]?=some s->0<=s/\s<d.hH.l.length
def NX.next{n:Nat}{m:Int}{a3:List hY}{mH:List Int}(h:NX n m a3 mH)(hm:0<m){f:hY}(hf:a3F n f){s:Int}(hs:0<=s/\s<=2):NX n (m-1) (a3++[f]) (mH++[s]):=by
 have:=h.m;refine⟨by simp only[iD,pN];omega,by simp[h.len],λg hg=>?_,λt dS=>?_⟩;·
  rcases List.mem_append.1 hg with hg|hg;·exact h.nD g hg
  ·rw[List.mem_singleton.1 hg];exact hf
 ·
  rcases List.mem_append.1 dS with dS|dS;·exact h.e7 t dS
  ·rw[List.mem_singleton.1 dS];exact hs
def NX.zero{n:Nat}{m:Int}{a3:List hY}{mH:List Int}(h:NX n m a3 mH):NX n 0 a3 mH:=⟨by have:=h.m;omega,h.len,h.nD,h.e7⟩
def NU.zero{n:Nat}{m:Int}{aX:List g9}{m6:List Int}(h:NU n m aX m6):NU n 0 aX m6:=⟨by have:=h.m;omega,h.len,h.uD,h.e7⟩
def NU.next{n:Nat}{m:Int}{aX:List g9}{m6:List Int}(h:NU n m aX m6)(hm:0<m){d:g9}(hd:a3C n d){s:Int}(hs:0<=s/\s<d.hH.l.length):NU n (m-1) (aX++[d]) (m6++[s]):=by
 have:=h.m;refine⟨by simp only[iD,pN];omega,by simp[h.len],λg hg=>?_,λi a0S s' N V=>?_⟩;·
  rcases List.mem_append.1 hg with hg|hg;·exact h.uD g hg
  ·rw[List.mem_singleton.1 hg];exact hd
 ·
  have hl:=h.len;rw[Da]at N V;split at N;·rw[if_pos D]at V;exact h.e7 i a0S s' N V
  ·
   rw[if_neg D]at V;rw[Je]at N V;split at N;·rw[if_pos D]at V;cases N;cases V;exact hs
   ·cases N
def b82(c CZ:Nat)(x:a0 Int)(k n Wc:Nat)(pE:Value)(PE:Option Addr)(R:aJ)(K:jK x R)(hk:k<=x.l.length)(hn:n<=100):
 aI prog 106 [.pointer (some ⟨c,0,none⟩),.pointer (some ⟨CZ,0,none⟩)].toArray [eT c x k,⟨CZ,[pE,.slice PE n Wc,.slice none 0 0,.slice none 0 0],32⟩] R
  (λv E G=>∃(a3:J hY) (aX:J g9) (mH m6:J Int) (b5:Nat) (S:aJ),v=.agg #[mH.val,m6.val]/\(a3.ok 4 hY.cells/\aX.ok 3 g9.cells/\mH.ok 1 aL/\m6.ok 1 aL)/\NX n 0 a3.l mH.l/\NU n 0 aX.l m6.l/\
   (∀f∈a3.l,aH f.fI S)/\(∀d∈aX.l,aH d.fI S)/\b5<=x.l.length/\
   eT c x b5::⟨CZ,[pE,.slice PE n Wc,a3.val,aX.val],32⟩::(a3.L 278 hY.cells++(aX.L 239 g9.cells++(mH.L 3 aL++(m6.L 3 aL++[]))))=E/\S++R=G):=by
 refine bW 88 call106 func106 ?_;apply(IV);intro cT;apply lP∘dA;intro eH;apply(WM);refine aG iQ ?_;apply z3∘g7∘hS;refine cK (nA hC K hk D) ?_;rintro v E G ⟨k8,eU,rfl,u1,yO,Lu,e6,rfl,rfl⟩;apply(mM);refine c7 [(0,.pointer _),(1,.pointer _),(4,.pointer _),(5,.pointer _),(6,.int _ _),(7,.int _ _)] bP λeZ=>?_;refine mC ([7]++b4 18 34) ((⟨λg=>[(7,.int .i64 g.1.2.1)],λg=>⟨eH,[g.1.2.2.2.1.val,.slice none 0 0],80⟩::⟨cT,[.slice none 0 0,.slice none 0 0],80⟩::eT c x g.1.1::⟨CZ,[pE,.slice PE n Wc,g.1.2.2.1.val,.slice none 0 0],32⟩::(g.1.2.2.1.L 278 hY.cells++(g.1.2.2.2.1.L 3 aL++[])),λg=>g.1.2.2.2.2++R,λg=>g.1.2.1.toNat⟩:dV {g:Nat×Int×J hY×J Int×aJ//g.1<=x.l.length/\(∃m,g.2.1<=m/\NX n m g.2.2.1.l g.2.2.2.1.l)/\(g.2.2.1.ok 4 hY.cells/\g.2.2.2.1.ok 1 aL)/\(∀f∈g.2.2.1.l,aH f.fI g.2.2.2.2)})) (⟨(eU,k8,J.nil,J.nil,[]),e6,⟨k8,oE _,⟨⟨u1,by have:=yO D;simp only[EV];omega⟩,rfl,(λ_ h=>by cases h),(λ_ h=>by cases h)⟩⟩,⟨J.g6,J.g6⟩,(λ_ h=>by cases h)⟩) bP aIL fF ?_;rintro⟨⟨hB,m,a3,mH,S⟩,s0,⟨LD,bDi,hR⟩,⟨XX,Va⟩,jN⟩ bZ;try dsimp only
 dsimp only at s0 bDi hR XX Va jN;apply A7∘F6∘c9;apply iZ (aC:=[_,_]) (j:=2) (a7:=20) rfl rfl aE rfl aW rfl;·exact GG
 intro mY;apply(b3);apply(W)<;>intro aO;·
  have US:jK x (S++R):=K.mono λr h=>aM (by simp[h]);have pX:=hR.m;have pK:=hR.len;refine dK (aZ (a6 (e3 (a6 ?_))));refine hF O [26] [0,1,2,3,4,5,6,8,10,12,7,9,11,13,14,15] [16,17,18,19] ([a5.mk CZ _ _]) _ cX bE a2 dT ?_;refine m5 (A2 VH) ?_;apply(DK);refine eO iQ ?_;apply IP∘wM;iterate 3 apply(DK)
  refine k2 rfl (nA hC US s0 D) rfl rfl ?_;rintro v E G ⟨lH,eE,rfl,q7,u2,a00,hK,rfl,rfl⟩;refine⟨a2,gN,?_⟩;refine k2 rfl (WC hC US hK D) rfl rfl ?_;rintro v E G ⟨rE,i2,rfl,l4,rfl,rfl⟩;refine⟨a2,gN,?_⟩;refine k2 rfl (WC hC US l4 D) rfl rfl ?_;rintro v E G ⟨AW,eV,rfl,m4,rfl,rfl⟩;refine⟨a2,gN,?_⟩;refine k2 rfl (b8c hC US m4) rfl rfl ?_;rintro v E G ⟨y,vS,rfl,aN,uJ,rfl,rfl⟩;refine⟨a2,gN,?_⟩;have bFc:jK x (Vu y::(S++R)):=US.mono λr h=>aM (by simp[h]);refine eO (mI (hN:=[(0,(Value.int _ _).cells.toList),(1,(Value.bool _).cells.toList),(2,(Value.bool _).cells.toList),(3,(Value.slice _ _ _).cells.toList)]) (cU:=[_,_,_,_]) O rfl rfl rfl rfl) ?_;refine MG Dg rfl rfl rfl ?_;rintro v E G ⟨aRQ,rfl,rfl,Mr⟩;replace Mr:=Mr.symm;subst Mr;apply(xF);refine o4 (j2 (f:=hY.cells) (p:=a3) (a:=⟨lH,rE,AW,y⟩) O rfl rfl rfl rfl (XX) c0 j8 rfl kH) rfl rfl rfl ?_;rintro v E G ⟨aUD,rfl,a7d,rfl,rfl⟩;apply fS∘Vw∘Sg∘vW;refine hF O [] [0,1,2,3,4] [5,6,7] ([a5.mk eH _ _]) _ cX bE a2 dT ?_;apply(IP);refine k2 rfl (nA hC bFc uJ D) rfl rfl ?_;rintro v E G ⟨tO,BV,rfl,Ag,OO,a04,AP,rfl,rfl⟩;refine⟨a2,gN,?_⟩;apply(VA);rintro v E G ⟨aDh,rfl,rfl,T8⟩;replace T8:=T8.symm;subst T8;apply(xF);refine o4 (j2 (f:=aL) (p:=mH) (a:=tO) O rfl rfl rfl rfl (Va) c0 j8 rfl kH) rfl rfl rfl ?_;rintro v E G ⟨bF7,rfl,a7e,rfl,rfl⟩;apply KI∘Cm∘ZU;have a1Y:=u2 D;have bJ1:=OO D;exact dU ⟨(BV,m-1,_,_,Vu y::S),AP,⟨LD-1,by dsimp only;omega,hR.next D ⟨⟨q7,by dsimp only;omega⟩,aN⟩ ⟨Ag,by omega⟩⟩,⟨a7d,a7e⟩,(λf hf=>by rcases List.mem_append.1 hf with h|h;exact(jN f h).mono (λr M=>aM EZ);rw[List.mem_singleton.1 h];exact aM fX)⟩
 refine lC (lB (tT (lA (aZ (a6 (a6 ?_))))));have aT1:jK x (S++R):=K.mono λr h=>aM (by simp[h]);apply(A9);refine cK (nA hC aT1 s0 D) ?_;rintro v E G ⟨Ip,JH,rfl,a06,Lv,aDz,MZ,rfl,rfl⟩;apply(mM);refine c7 [(0,.pointer _),(1,.pointer _),(4,.pointer _),(5,.pointer _),(6,.int _ _),(8,.int _ _)] bP λnS=>?_;refine mC ([8,9]++b4 54 33) ((⟨λg=>[(8,.int .i64 g.1.2.1)],λg=>⟨eH,[mH.val,g.1.2.2.2.1.val],80⟩::⟨cT,[.slice none 0 0,.slice none 0 0],80⟩::eT c x g.1.1::⟨CZ,[pE,.slice PE n Wc,a3.val,g.1.2.2.1.val],32⟩::(a3.L 278 hY.cells++(g.1.2.2.1.L 239 g9.cells++(mH.L 3 aL++(g.1.2.2.2.1.L 3 aL++[])))),λg=>g.1.2.2.2.2++(S++R),λg=>g.1.2.1.toNat⟩:dV {g:Nat×Int×J g9×J Int×aJ//g.1<=x.l.length/\(∃m,g.2.1<=m/\NU n m g.2.2.1.l g.2.2.2.1.l)/\(g.2.2.1.ok 3 g9.cells/\g.2.2.2.1.ok 1 aL)/\(∀d∈g.2.2.1.l,aH d.fI g.2.2.2.2)})) (⟨(JH,Ip,J.nil,J.nil,[]),MZ,⟨Ip,oE _,⟨⟨a06,by have:=Lv D;simp only[EV];omega⟩,rfl,(λ_ h=>by cases h),(λ_ _ _ h=>by cases h)⟩⟩,⟨J.g6,J.g6⟩,(λ_ h=>by cases h)⟩) bP aIL fF ?_;rintro⟨⟨Pn,O3,aX,m6,e2⟩,RF,⟨bFM,bDk,OP⟩,⟨Bc,aFR⟩,aE8⟩ bZ;try dsimp only
 dsimp only at RF bDk OP Bc aFR aE8;apply A7∘F6∘c9;apply iZ (aC:=[_,_]) (j:=2) (a7:=56) rfl rfl aE rfl aW rfl;·exact GG
 intro mY;apply(b3);apply(W)<;>intro bF;·have rY:jK x (e2++(S++R)):=aT1.mono λr h=>aM (by simp only[Ja]at h|-;exact .inr h);have pX:=OP.m;have pK:=OP.len;apply WO∘G4;refine cK (nA hC rY RF D) ?_;rintro v E G ⟨aVf,Pm,rfl,aDB,a6B,bI4,UE,rfl,rfl⟩;refine cK (b1J hC rY UE) ?_;rintro v E G ⟨d,aUg,rfl,hd,a1E,rfl,rfl⟩;have Bx:jK x (d.fI::(e2++(S++R))):=rY.mono λr h=>aM (PL _ h);apply(dA);intro h8;apply(G5);refine hF O [67] [0,1,2,3,4,5,6] [7,8,9,10] (_) _ cX bE a2 dT ?_;refine m5 (A2 VH) ?_;apply(DK);refine eO iQ ?_;apply(l1);refine eO lR ?_;refine MG Js rfl rfl rfl ?_;rintro v E G ⟨bAm,rfl,rfl,Na⟩;replace Na:=Na.symm;subst Na;apply(xF);refine o4 (j2 (f:=g9.cells) (p:=aX) (a:=d) O rfl rfl rfl rfl (Bc) c0 j8 rfl kH) rfl rfl rfl ?_;rintro v E G ⟨aHd,rfl,a7f,rfl,rfl⟩;apply fS∘Vw∘Sg∘vW;refine hF O [] [0,1,2,3,4,5,6,7] [8,9,10] ([a5.mk h8 _ _,a5.mk eH _ _]) _ cX bE a2 dT ?_;apply IP∘l1;refine eO vZ ?_;refine k2 rfl (nA hC Bx a1E (by have:=hd.len;omega)) rfl rfl ?_;rintro v E G ⟨bGC,Vn,rfl,aR8,aDw,bAP,a1D,rfl,rfl⟩;refine⟨a2,gN,?_⟩;apply(VA);rintro v E G ⟨Fz,rfl,rfl,zL⟩;replace zL:=zL.symm;subst zL;apply(xF);refine o4 (j2 (f:=aL) (p:=m6) (a:=bGC) O rfl rfl rfl rfl (aFR) c0 j8 rfl kH) rfl rfl rfl ?_;rintro v E G ⟨Pq,rfl,Hk,rfl,rfl⟩;apply KI∘Cm∘ZU;have bJ2:=a6B D;have bJZ:=aDw (by have:=hd.len;omega);have OU:=hd.b9;exact dU ⟨(Vn,O3-1,_,_,d.fI::e2),a1D,⟨bFM-1,by dsimp only;omega,OP.next D ⟨⟨by omega,by omega⟩,by rw[OU];exact hd⟩ ⟨aR8,by omega⟩⟩,⟨a7f,Hk⟩,(λf hf=>by rcases List.mem_append.1 hf with h|h;exact(aE8 f h).mono (λr M=>aM EZ);rw[List.mem_singleton.1 h];exact aM fX)⟩
 apply(Si);refine lJ (E:=eT c x Pn::⟨CZ,[pE,.slice PE n Wc,a3.val,aX.val],32⟩::(a3.L 278 hY.cells++(aX.L 239 g9.cells++(mH.L 3 aL++(m6.L 3 aL++[]))))) (G:=(e2++S)++R) mR ?hp ?c2 ?bD;case hp=>exact⟨a3,aX,mH,m6,Pn,e2++S,rfl,⟨XX,Bc,Va,aFR⟩,hR.zero,OP.zero,λf hf=>(jN f hf).mono (λr M=>aM EZ),λd hd=>(aE8 d hd).mono (λr M=>aM EZ),RF,rfl,rfl⟩
 case c2=>exact a2
 case bD=>exact λr M=>aM (by rw[mQ]at M;exact M)
structure Rf(l:List Int)(n:Nat)(m:List Int):Prop where
 len:m.length=n
 val:∀(i:Nat) (v:Int),m[i]?=some v->v= -1\/l[i]?=some v
abbrev ZH(l m:List Int):Prop:=Rf l l.length m
def Rf.next{l m:List Int}{n:Nat}(h:Rf l n m){v:Int}(hv:v= -1\/l[n]?=some v):Rf l (n+1) (m++[v]):=by
 have hl:=h.len;refine⟨by simp[hl],λi w cV=>?_⟩;rw[Da]at cV;split at cV;·exact h.val i w cV
 ·
  rw[Je]at cV;split at cV;·cases cV;(have:i=n:=by omega);rw[this];exact hv
  ·cases cV
def b9d(c:Nat)(x:a0 Int)(k:Nat)(a:bR)(s:cE)(R:aJ)(K:jK x R)(hk:k<=x.l.length)(hs:o2 s R)(N:s.a3.l.length<=100)(V:s.aX.l.length<=100):
 aI prog 108 [.pointer (some ⟨c,0,none⟩),a.val,s.val].toArray [eT c x k] R
  (λv E G=>∃(pM qF:J Int) (b5:Nat),v=.agg #[pM.val,qF.val]/\(pM.ok 1 aL/\qF.ok 1 aL)/\ZH s.a3.l pM.l/\ZH s.aX.l qF.l/\b5<=x.l.length/\eT c x b5::(pM.L 3 aL++(qF.L 3 aL++[]))=E/\R=G):=by
 have Bo:=hs.a3;have X4:=hs.aX;refine bW 53 call108 func108 ?_;apply(c8);intro cT;apply(iU);intro eH;apply(dA);intro hP;apply lP∘dA;intro kL;apply r1∘mM;refine c7 [(0,.pointer _),(5,.pointer _),(6,.pointer _),(7,.pointer _),(8,.int _ _)] bP λeZ=>?_;refine mC ([8,9]++b4 12 20) ((⟨λg=>[(8,.int .i64 ((g.1.2.1:Nat):Int))],λg=>⟨kL,[g.1.2.2.val,.slice none 0 0],80⟩::⟨hP,[.slice none 0 0,.slice none 0 0],80⟩::⟨eH,s.cells,80⟩::⟨cT,a.cells,32⟩::eT c x g.1.1::(g.1.2.2.L 3 aL++[]),λ_=>R,λg=>s.a3.l.length-g.1.2.1⟩:dV {g:Nat×Nat×J Int//g.1<=x.l.length/\g.2.1<=s.a3.l.length/\g.2.2.ok 1 aL/\Rf s.a3.l g.2.1 g.2.2.l})) (⟨(k,0,J.nil),hk,AY _,J.g6,⟨rfl,(λ_ _ h=>by cases h)⟩⟩) bP (by dsimp only;rw[lT];exact oR _) fF ?_;rintro⟨⟨hB,i,pM⟩,s0,aA,hok,hR⟩ bZ;try dsimp only
 dsimp only at s0 aA hok hR;apply(oJ);apply(W)<;>intro aO;·
  have UR:=bJ s.a3.l i 0;have pK:=hR.len;apply CK∘B2∘jI∘g7∘hS;refine cK (WC hC K s0 D) ?_;rintro v E G ⟨k8,eU,rfl,e6,rfl,rfl⟩;apply(b3);apply(W)<;>intro bF;·apply eK∘dE;refine eI (aZ (cR ?_));exact aVA
  refine dK (aZ (cR ?_));exact aVA
 obtain rfl:i=s.a3.l.length:=by omega
 apply(G0);refine c7 [(0,.pointer _),(5,.pointer _),(6,.pointer _),(7,.pointer _),(10,.int _ _)] bP λnS=>?_;refine mC ([10,11]++b4 32 20) ((⟨λg=>[(10,.int .i64 ((g.1.2.1:Nat):Int))],λg=>⟨kL,[pM.val,g.1.2.2.val],80⟩::⟨hP,[.slice none 0 0,.slice none 0 0],80⟩::⟨eH,s.cells,80⟩::⟨cT,a.cells,32⟩::eT c x g.1.1::(pM.L 3 aL++(g.1.2.2.L 3 aL++[])),λ_=>R,λg=>s.aX.l.length-g.1.2.1⟩:dV {g:Nat×Nat×J Int//g.1<=x.l.length/\g.2.1<=s.aX.l.length/\g.2.2.ok 1 aL/\Rf s.aX.l g.2.1 g.2.2.l})) (⟨(hB,0,J.nil),s0,AY _,J.g6,⟨rfl,(λ_ _ h=>by cases h)⟩⟩) bP (by dsimp only;rw[lT];exact oR _) fF ?_;rintro⟨⟨Pn,j,qF⟩,RF,aY,n9,OP⟩ bZ;try dsimp only
 dsimp only at RF aY n9 OP;apply(oJ);apply(W)<;>intro b2;·
  have bEO:=bJ s.aX.l j 0;have pK:=OP.len;apply CK∘B2∘jI∘g7∘hS;refine cK (WC hC K RF D) ?_;rintro v E G ⟨lH,eE,rfl,hK,rfl,rfl⟩;apply(b3);apply(W)<;>intro dZ;·apply eK∘dE;refine eI (aZ (cR ?_));exact aVz
  refine dK (aZ (cR ?_));exact aVz
 obtain rfl:j=s.aX.l.length:=by omega
 apply(Si);refine bN (eT c x Pn::(pM.L 3 aL++(qF.L 3 aL++[]))) R mR ?_;exact⟨pM,qF,Pn,rfl,⟨hok,n9⟩,hR,OP,RF,rfl,rfl⟩
end Go.Proofs.YtchfclmokpbldaaGreat
namespace Go.Proofs.YtchfclmokpbldaaGreat
open Go.Aw Go Go.Proofs.Tryz
def ID(x y:a9):Prop:=y.bG<=x.bG/\x.bO<=y.bO
def ID.refl(x:a9):ID x x:=⟨oE _,oE _⟩
def b3h(q:Int):0<=q*q:=by
 rcases Int.le_total 0 q with h|h;·exact y4 h h
 ·have:=y4 a29 a29;rwa[Int.neg_mul_neg]at this
def a3X{a b q:Int}(h:a<=b):a*q*q<=b*q*q:=by rw[VE,VE];exact a2Q h (b3h q)
def b6p{r rD l O2:a9}(h:ID r rD)(k:ID l O2)(q:Int):ID (W7 r l q) (W7 rD O2 q):=by have N:=a3X (q:=q) h.1;have V:=a3X (q:=q) h.2;have aQ:=k.1;have b7:=k.2;unfold W7 ID;split<;>dsimp only<;>omega
def aOf{l:List Int}: ∀{k i:Nat},i<k->SR l k<=l.getD i 0/\l.getD i 0<=SK l k
 |0,i,h=>absurd h D
 |k+1,i,h=>by
  simp only[SR,SK]
  rcases Ww (Wy h)with cN|cN
  ·have:=aOf (l:=l) cN;omega
  ·subst cN;omega
def aOw(d:g9)(s t:Int):Prop:=t=s\/(t= -1/\-1<=s/\s<d.hH.l.length)
def aKU(s t:Int):Prop:=t=s\/(t= -1/\-1<=s/\s<=2)
def b9O{d:g9}{s t:Int}(h:aOw d s t):ID (v1 d s) (v1 d t):=by
 rcases h with h|⟨N,V,aQ⟩;·rw[h];exact .refl _
 ·
  rw[N];by_cases hs:s= -1;·rw[hs];exact .refl _
  ·have:=aOf (l:=d.hH.l) (k:=d.hH.l.length) (i:=s.toNat) D;unfold v1;rw[if_neg D,if_neg hs,if_neg D,if_pos rfl];exact this
def b5n{f:hY}{s t:Int}(h:aKU s t)(q:Int):ID (o3 f s q) (o3 f t q):=by
 rcases h with h|⟨N,V,aQ⟩;·rw[h];exact .refl _
 ·
  rw[N];have key:∀b:Bool,ID (yJ f.hJ.l b q) (o3 f (-1) q):=λb=>by unfold o3 ID;rw[if_neg bH,if_neg bH,if_pos rfl];cases b<;>dsimp only<;>omega
  rw[o3];split;·exact key _
  ·
   split;·exact key _
   ·
    split;·rename_i h;unfold o3;rw[if_neg bH,if_neg bH,if_pos rfl];exact .refl _
    ·unfold o3 ID;rw[if_neg bH,if_neg bH,if_pos rfl];exact NJ
structure a4J(a:bR)(s t:cE):Prop where
 nD:∀k,k<a.a3.l.length->aKU (s.a3.l.getD k 0) (t.a3.l.getD k 0)
 uD:∀k,k<a.aX.l.length->aOw (a.aX.l.getD k default) (s.aX.l.getD k 0) (t.aX.l.getD k 0)
def aNQ{a:bR}{s t:cE}(h:a4J a s t)(r:Int): ∀k,k<=a.aX.l.length->ID (m8 a s r k) (m8 a t r k)
 |0,_=>.refl _
 |k+1,hk=>by
  have cM:=aNQ h r k D
  have hd:=b9O (h.uD k D)
  unfold ID at*
  simp only[m8]
  split
  ·dsimp only;omega
  ·exact cM
def aJ9{a:bR}{s t:cE}(h:a4J a s t)(r q:Int): ∀k,k<=a.a3.l.length->ID (oP a s r q k) (oP a t r q k)
 |0,_=>b6p (aNQ h r _ (g4 _)) (.refl _) q
 |k+1,hk=>by
  have cM:=aJ9 h r q k D
  have hd:=b5n (f:=a.a3.l.getD k default) (h.nD k D) q
  unfold ID at*
  simp only[oP]
  split
  ·dsimp only;omega
  ·exact cM
def b3Y{a:bR}{s t:cE}(h:a4J a s t)(r q:Int):ID (lU a s r q) (lU a t r q):=aJ9 h r q _ (g4 _)
def A4(aX:List g9)(m6:List Int)(r:Int):Nat->Int
 |0=>0
 |k+1=>if(aX.getD k default).b9=r then A4 aX m6 r k+(v1 (aX.getD k default) (m6.getD k 0)).bG else A4 aX m6 r k
def FQ(a3:List hY)(mH:List Int)(r q:Int):Nat->Int
 |0=>0
 |k+1=>if(a3.getD k default).b9=r then FQ a3 mH r q k+(o3 (a3.getD k default) (mH.getD k 0) q).bG else FQ a3 mH r q k
def aC5{d:g9}{b9:Int}(hd:Ro b9 d){s:Int}(hs:0<=s/\s<d.hH.l.length):(v1 d s).bG=(v1 d s).bO/\0<=(v1 d s).bG/\(v1 d s).bG<=900:=by have hl:=hd.len;have:=hd.aB s.toNat _ (iL 0 D);unfold v1;rw[if_neg D,if_neg D];exact NJ
def aOb{l:List h6}(h:Ee l)(q:Int):0<=(vJ l q).bG/\(vJ l q).bG<=(vJ l q).bO/\(vJ l q).bO<=3000:=by
 cases l with
 |nil=>simp[vJ]
 |cons p aB=>
  have bQ:=h.ok.yY 0 p rfl;have dS:=h.a8g;simp only[List.getD_cons_zero]at dS;unfold vJ;dsimp only;split;·exact NJ
  ·have:=Yt aB p q h.ok D;omega
def a31{l:List h6}(h:Ee l)(nB:Bool)(q:Int):-3000<=(yJ l nB q).bG/\(yJ l nB q).bG<=(yJ l nB q).bO/\(yJ l nB q).bO<=3000:=by have N:=aOb h q;have V:=aOb h (-q);unfold yJ Sd;exact aHS
def aBX{f:hY}(h:Ee f.hJ.l)(s q:Int):-3000<=(o3 f s q).bG/\(o3 f s q).bG<=(o3 f s q).bO/\(o3 f s q).bO<=3000:=by
 have N:=a31 h f.nB q;have V:=a31 h (!f.nB) q;have aQ:=a31 h false q;have b7:=a31 h true q;unfold o3;split;·omega
 ·
  split;·omega
  ·split<;>dsimp only<;>omega
def a52{n:Nat}{m:Int}{aX:List g9}{m6:List Int}(h:NU n m aX m6)(r:Int): ∀k,k<=aX.length->0<=A4 aX m6 r k/\A4 aX m6 r k<=900*(k:Int)
 |0,_=>by simp[A4]
 |k+1,hk=>by
  have cM:=a52 h r k D
  have hl:=h.len
  have hg:=bJ aX k default
  have hb:=aC5 (h.uD _ (gU hg)).Cg (h.e7 k _ _ hg (iL 0 D))
  simp only[A4]
  split<;>omega
def a5N{n:Nat}{m:Int}{a3:List hY}{mH:List Int}(h:NX n m a3 mH)(r q:Int): ∀k,k<=a3.length-> -3000*(k:Int)<=FQ a3 mH r q k/\FQ a3 mH r q k<=3000*(k:Int)
 |0,_=>by simp[FQ]
 |k+1,hk=>by
  have cM:=a5N h r q k D
  have hg:=bJ a3 k default
  have hb:=aBX (h.nD _ (gU hg)).hJ (mH.getD k 0) q
  simp only[FQ]
  split<;>omega
def a3F.ok{n:Nat}{f:hY}(h:a3F n f):NW f:=⟨h.b9.1,h.hJ.len.1,by have:=h.hJ.len;omega,h.hJ.ok⟩
def a3C.ok{n:Nat}{d:g9}(h:a3C n d):Re d:=⟨h.b9.1,by have:=h.Cg.len;omega,λi x K=>by have:=h.Cg.aB i x K;omega,h.Cg.Tw⟩
def Fu(r:eL)(e Ae a0Y d q:Int):Int:=(r.aB.bG+e+Ae)*max q (-q)*q-d-a0Y
def aK1(Ae a0Y d q:Int)(r rD:eL):Prop:=
 ∃e u v:Int,(0<=e/\e<=r.aB.bO-r.aB.bG)/\(0<=u/\u<=29)/\(0<=v/\v<=29)/\rD={r with jO:=⟨Fu r e Ae a0Y d q-u,Fu r e Ae a0Y d q+v⟩}
def aKL{R q:Int}(bD:0<=R/\R<=2000)(hq:-360<=q/\q<=360):(0<=R*max q (-q)/\R*max q (-q)<=720000)/\-259200000<=R*max q (-q)*q/\R*max q (-q)*q<=259200000:=by
 have hm:0<=max q (-q)/\max q (-q)<=360:=by omega
 generalize max q (-q)=m at*;have N:=y4 bD.1 hm.1;have V:=JS bD.2 hm.2 hm.1 D;generalize R*m=z at*;refine⟨by omega,?_⟩;rcases Int.le_total 0 q with h|h;·have aQ:=y4 N h;have b7:=JS (show z<=720000 by omega) hq.2 h D;omega
 ·have aQ:=y4 N a29;have b7:=JS (show z<=720000 by omega) (show -q<=360 by omega) D D;rw[Qe]at aQ b7;omega
def b2b{R q:Int}:R*max q (-q)*q=if q<0 then -(R*q*q)else R*q*q:=by
 split;·rw[show max q (-q)= -q by omega,Qe,Qf]
 ·rw[show max q (-q)=q by omega]
def b8r{a:bR}{s:cE}{n:Nat}{m LD:Int}(h1:NX n m a.a3.l s.a3.l)(hR:NU n LD a.aX.l s.aX.l){i:Nat}{EN:eL}{d q:Int}(M3:EN.aB.bG<=EN.aB.bO)
 (pV:aK1 (A4 a.aX.l s.aX.l i a.aX.l.length) (FQ a.a3.l s.a3.l i q a.a3.l.length) d q EN (a.Y.aD.l.getD i default)):
 (lU a s i q).bG<=d/\d<=(lU a s i q).bO:=by
 obtain⟨e,u,v,X,c4,hv,M⟩:=pV;have DF:(a.Y.aD.l.getD i default).aB=EN.aB:=by rw[M]
 have bDd:(a.Y.aD.l.getD i default).jO=⟨Fu EN e (A4 a.aX.l s.aX.l i a.aX.l.length) (FQ a.a3.l s.a3.l i q a.a3.l.length) d q-u,Fu EN e (A4 a.aX.l s.aX.l i a.aX.l.length) (FQ a.a3.l s.a3.l i q a.a3.l.length) d q+v⟩:=by rw[M]
 have pU:∀k,k<=a.aX.l.length->m8 a s i k=⟨EN.aB.bG+A4 a.aX.l s.aX.l i k,EN.aB.bO+A4 a.aX.l s.aX.l i k⟩:=by
  intro k;induction k with
  |zero=>intro _;simp only[m8,A4,vY,DF,a8x]
  |succ k cM=>
   intro hk;have hg:=bJ a.aX.l k default;have hl:=hR.len;have hb:=aC5 (hR.uD _ (gU hg)).Cg (hR.e7 k _ _ hg (iL 0 D));simp only[m8,A4,cM D];split;·rw[<-hb.1];simp only[Int.add_assoc]
   ·rfl
 have tJ:∀k,k<=a.a3.l.length->(oP a s i q k).bG+FQ a.a3.l s.a3.l i q k<=(oP a s i q 0).bG/\(oP a s i q k).bO+FQ a.a3.l s.a3.l i q k=(oP a s i q 0).bO:=by
  intro k;induction k with
  |zero=>intro _;simp only[FQ];omega
  |succ k cM=>
   intro hk;have cM:=cM D;have hg:=bJ a.a3.l k default;have hb:=aBX (h1.nD _ (gU hg)).hJ (s.a3.l.getD k 0) q;rw[oP.eq_2,FQ.eq_2];split;·exact NJ
   ·exact cM
 have N:=tJ _ (g4 _);have bQ:oP a s i q 0=W7 ⟨EN.aB.bG+A4 a.aX.l s.aX.l i a.aX.l.length,EN.aB.bO+A4 a.aX.l s.aX.l i a.aX.l.length⟩ (a.Y.aD.l.getD i default).jO q:=by rw[oP,pU _ (g4 _),vY]
 rw[bQ,bDd]at N;unfold lU;generalize oP a s i q a.a3.l.length=I at*;generalize FQ a.a3.l s.a3.l i q a.a3.l.length=a0Y at*;generalize A4 a.aX.l s.aX.l i a.aX.l.length=Ae at*;unfold Fu at N;rw[b2b]at N;have eU:=a3X (q:=q) (show EN.aB.bG+Ae<=EN.aB.bG+e+Ae by omega);have eE:=a3X (q:=q) (show EN.aB.bG+e+Ae<=EN.aB.bO+Ae by omega);unfold W7 at N;dsimp only at N;by_cases hq:q<0;·rw[if_pos hq,if_pos hq]at N;dsimp only at N;omega
 ·rw[if_neg hq,if_neg hq]at N;dsimp only at N;omega
attribute [local irreducible] cH c6 dP aI cJ eD e9 e0 e1 e5 eS e8 J.L
structure aAE(jV:Nat)(r:eL):Prop where
 bK:0<=r.bK/\r.bK<jV
 to:0<=r.to/\r.to<jV
 aB:1<=r.aB.bG/\r.aB.bG<=r.aB.bO/\r.aB.bO<=22
abbrev Z1(e7:q2)(r:eL):Int:=e7.bY.l.getD r.bK.toNat 0-e7.bY.l.getD r.to.toNat 0
def aB2(a:bR)(s:cE)(e7:q2)(i:Nat)(r rD:eL):Prop:=
 aK1 (A4 a.aX.l s.aX.l i a.aX.l.length) (FQ a.a3.l s.a3.l i (e7.g8.l.getD i 0) a.a3.l.length) (Z1 e7 r) (e7.g8.l.getD i 0) r rD
structure Dl(a:bR)(s:cE)(e7:q2)(nH:List eL)(i:Nat)(l:List eL):Prop where
 len:l.length=nH.length
 done:∀(j:Nat) (r:eL),j<i->nH[j]?=some r->∃rD,l[j]?=some rD/\aB2 a s e7 j r rD
 DM:∀j,i<=j->l[j]?=nH[j]?
def Dl.next{a:bR}{s:cE}{e7:q2}{nH l:List eL}{i:Nat}(h:Dl a s e7 nH i l){r rD:eL}(M:nH[i]?=some r)(hf:aB2 a s e7 i r rD):Dl a s e7 nH (i+1) (l.set i rD):=by
 have aA:=(List.getElem?_eq_some_iff.1 M).1;refine⟨by simp[h.len],λj q aY hq=>?_,λj aY=>?_⟩;·
  rcases Ww (Wy aY)with cN|cN;·rw[JR D];exact h.done j q cN hq
  ·subst cN;rw[M]at hq;cases hq;exact⟨rD,tQ (by rw[h.len];exact aA),hf⟩
 ·rw[JR D];exact h.DM j D
def b55(c CZ:Nat)(x:a0 Int)(k n:Nat)(pE:Value)(a:bR)(s:cE)(e7:q2)(aD:J eL)(R:aJ)(K:jK x R)(hk:k<=x.l.length)(hok:aD.ok 10 eL.cells)
 (tJ:aH (Q1 a.a3) R) (pU:aH (MN a.aX) R) (hs:o2 s R) (cI:aAJ e7 R) (h1:NX n 0 a.a3.l s.a3.l) (hR:NU n 0 a.aX.l s.aX.l) (hq:aD.l.length=e7.g8.l.length) (rU:aD.l.length<=100)
 (Oq:∀(i:Nat) (q:Int),e7.g8.l[i]?=some q->-360<=q/\q<=360) (Hm:∀(i:Nat) (p:Int),e7.bY.l[i]?=some p->-4000<=p/\p<=4000) (M:∀(i:Nat) (r:eL),aD.l[i]?=some r->aAE e7.bY.l.length r):
 aI prog 107 [.pointer (some ⟨c,0,none⟩),.pointer (some ⟨CZ,0,none⟩),s.val,e7.val].toArray (eT c x k::⟨CZ,[pE,aD.val,a.a3.val,a.aX.val],32⟩::(aD.L 157 eL.cells++[])) R
  (λv E G=>∃(fN:List eL) (b5:Nat),v=.tuple #[]/\Dl a s e7 aD.l aD.l.length fN/\b5<=x.l.length/\eT c x b5::⟨CZ,[pE,aD.val,a.a3.val,a.aX.val],32⟩::((⟨aD.o,fN⟩:J eL).L 157 eL.cells++[])=E/\R=G):=by
 have Bo:=hs.a3;have X4:=hs.aX;have Hr:=cI.bY;have aGu:=cI.g8;have aSi:=h1.m;have T2:=h1.len;have aDH:=hR.m;have Ud:=hR.len;refine bW 166 call107 func107 ?_;apply(c8);intro hP;apply(iU);intro kL;apply lP∘mM;refine c7 [(0,.pointer _),(1,.pointer _),(6,.pointer _),(7,.pointer _),(8,.int _ _)] bP λeZ=>?_;refine kO (b4 8 158) ((⟨λg=>[(8,.int .i64 ((g.1.2.1:Nat):Int))],λg=>⟨kL,e7.cells,82⟩::⟨hP,s.cells,80⟩::eT c x g.1.1::⟨CZ,[pE,(⟨aD.o,g.1.2.2⟩:J eL).val,a.a3.val,a.aX.val],32⟩::((⟨aD.o,g.1.2.2⟩:J eL).L 157 eL.cells++[]),λ_=>R,λg=>aD.l.length-g.1.2.1⟩:dV {g:Nat×Nat×List eL//g.1<=x.l.length/\g.2.1<=aD.l.length/\(⟨aD.o,g.2.2⟩:J eL).ok 10 eL.cells/\Dl a s e7 aD.l g.2.1 g.2.2})) (⟨(k,0,aD.l),hk,AY _,hok,⟨rfl,(λ_ _ h=>absurd h (Nat.not_lt_zero _)),(λ_ _=>rfl)⟩⟩) ?_;rintro⟨⟨hB,i,fN⟩,s0,aA,Bd,dR⟩ bZ;try dsimp only
 dsimp only at s0 aA Bd dR;have UQ:=dR.len;apply A7∘hS;refine aG iQ ?_;apply eP∘Ey;apply(W)<;>intro aO;·
  have M3:=bJ aD.l i default;obtain⟨r,rW⟩:∃r,r=aD.l.getD i default:=⟨_,rfl⟩;rw[<-rW]at M3;have a7o:fN[i]?=some r:=by rw[dR.DM i (g4 _)];exact M3
  have yS:=M i r M3;have zN:=yS.aB;have Ho:=yS.bK;have aGr:=yS.to;obtain⟨q,Bj⟩:∃q,q=e7.g8.l.getD i 0:=⟨_,rfl⟩;have aTF:=bJ e7.g8.l i 0;rw[<-Bj]at aTF;have OY:=Oq _ _ aTF;have qC:=bJ e7.bY.l r.bK.toNat 0;have UM:=bJ e7.bY.l r.to.toNat 0;have bJO:=Hm _ _ qC;have bJY:=Hm _ _ UM;have XY:-8000<=Z1 e7 r/\Z1 e7 r<=8000:=by dsimp only[Z1];omega
  apply(WO);refine aG iQ ?_;apply(FD);refine aG (h4 O ((⟨aD.o,fN⟩:J eL)) _ rfl rfl rfl rfl bC (i:=i) cW iC) ?_;apply U9∘lP∘gE∘B2∘jI∘zG;refine gJ O [0,1,2,3,4,5,6,7,8,9,10,11,12,13,14,15,16,17,18,19,20] ([a5.mk CZ _ _]++((⟨aD.o,fN⟩:J eL).L 157 eL.cells++[])) cX bE a2 ?_;apply IR∘Il∘a2y∘Vv∘IR∘Il∘a2y∘IR∘Il∘a2y∘yZ∘EK;refine q1 rfl (nA hC K s0 D) rfl rfl ?_;rintro v E G ⟨e,eU,rfl,u1,yO,Lu,e6,rfl,rfl⟩;refine⟨a2,gN,?_⟩;apply EK∘qD;refine gS (aZ (a6 (a6 ?_)));have Tz:=yO D;apply(OG);refine zY (b4 8 158) AZ [(8,.int _ _),(9,.pointer _),(10,.int _ _),(11,.int _ _),(12,.int _ _)] bP λnS=>?_;refine gP ([11,12]++b4 57 35) (λg:{g:Nat×Int//g.1<=a.aX.l.length/\g.2=r.aB.bG+e+A4 a.aX.l s.aX.l i g.1}=>[(12,.int .i64 ((g.1.1:Nat):Int)),(11,.int .i64 g.1.2)]) (λg=>a.aX.l.length-g.1.1) (⟨(0,r.aB.bG+e),AY _,(a8x _).symm⟩) ?_;rintro⟨⟨BW,a2z⟩,a1F,a7r⟩ bZ;try dsimp only
  dsimp only at a1F a7r;apply A7∘hS;refine aG iQ ?_;apply(Ey);apply(W)<;>intro bF;·
   have C8:=bJ a.aX.l BW default;have u6:=bJ s.aX.l BW 0;have aET:=a52 hR i BW D;have UO:=aC5 (hR.uD _ (gU C8)).Cg (hR.e7 BW _ _ C8 u6);apply(WO);refine aG iQ ?_;apply gE∘B2∘TE∘mT;apply(W)<;>intro b2;·refine gJ O [0,1,2,3,4,5,6,7,8,9,10,11,12,13,14,15,16] _ cX bE g3 ?_;apply g1∘S0∘WG∘PC∘WG∘lW;refine k6 rfl (aOW (a.aX.l.getD BW default) (s.aX.l.getD BW 0) _ _ (pU.uD C8)) ?_;refine a4 aIu ?_;apply EK∘qD∘z4;exact aVH
   apply(mD);exact aVH
  obtain rfl:BW=a.aX.l.length:=by omega
  have aET:=a52 hR i a.aX.l.length (g4 _);have bJF:=aKL (R:=a2z) (q:=q) D OY;apply(O9);refine gJ O [0,1,2,3,4,5,6,7,8,9,10,11,12,13,14,15,16,17,18,19,20,21,22,23,24,25,26] _ cX bE g3 ?_;iterate 3 apply(g1)
  refine a4 Qw ?_;refine a4 B9 ?_;apply Co∘g1∘Co∘iI∘IR∘a2y;refine a4 (by first|exact j9 O rfl rfl rfl rfl jC (i:=r.bK.toNat) cW D|exact i9 O rfl rfl rfl rfl (i:=r.bK.toNat) cW D) ?_;apply lW∘iI∘IR∘a2y;refine a4 (by first|exact j9 O rfl rfl rfl rfl jC (i:=r.to.toNat) cW D|exact i9 O rfl rfl rfl rfl (i:=r.to.toNat) cW D) ?_;apply Lf∘yZ∘qD∘LI∘mM;refine zY (b4 8 158) AZ [(8,.int _ _),(9,.pointer _),(10,.int _ _),(13,.int _ _),(14,.int _ _)] bP λNH=>?_;refine gP ([13,14]++b4 118 36) (λg:{g:Nat×Int//g.1<=a.a3.l.length/\g.2=a2z*max q (-q)*q-Z1 e7 r-FQ a.a3.l s.a3.l i q g.1}=>[(14,.int .i64 ((g.1.1:Nat):Int)),(13,.int .i64 g.1.2)]) (λg=>a.a3.l.length-g.1.1) (⟨(0,a2z*max q (-q)*q-Z1 e7 r),AY _,(Int.sub_zero _).symm⟩) ?_;rintro⟨⟨O1,X8⟩,UG,Hg⟩ bZ;try dsimp only
  dsimp only at UG Hg;apply A7∘hS;refine aG iQ ?_;apply(Ey);apply(W)<;>intro dZ;·
   have MU:=bJ a.a3.l O1 default;have u6:=bJ s.a3.l O1 0;have FY:=a5N h1 i q O1 D;have Un:=h1.nD _ (gU MU);have ED:=aBX Un.hJ (s.a3.l.getD O1 0) q;have aTO:=h1.e7 _ (gU u6);apply(WO);refine aG iQ ?_;apply gE∘B2∘TE∘mT;apply(W)<;>intro dX;·refine gJ O [0,1,2,3,4,5,6,7,8,9,10,11,12,13,14,15,16,17] _ cX bE g3 ?_;apply g1∘S0∘WG∘Cp∘WG∘lW∘g1;refine k6 rfl (aOe (a.a3.l.getD O1 default) (s.a3.l.getD O1 0) q _ _ (tJ.nD MU) Un.ok D D) ?_;refine a4 aIu ?_;apply yZ∘qD∘z4;exact aVI
   apply(mD);exact aVI
  obtain rfl:O1=a.a3.l.length:=by omega
  have FY:=a5N h1 i q a.a3.l.length (g4 _);refine lC (lB (tT (lA (aZ (cR ?_)))));apply G4∘hS∘aOo;rintro v E G ⟨u,eE,rfl,q7,u2,a00,hK,rfl,rfl⟩;apply kP∘b1∘hS∘aBK;rintro v E G ⟨w,i2,rfl,KW,I4,Ua,l4,rfl,rfl⟩;have a01:=u2 D;apply l8∘y0;refine aG iQ ?_;apply(k7);refine i4 (SV O ((⟨aD.o,fN⟩:J eL)) ({r with jO:=⟨X8-u,X8+w⟩}) rfl rfl rfl rfl c0 bC bI bC (LM rfl) aE aE) ?_;rintro v E G ⟨rfl,rfl⟩;apply(GV);have a02:=I4 D;exact oT ⟨(i2,i+1,fN.set i {r with jO:=⟨X8-u,X8+w⟩}),l4,by dsimp only;omega,J.p4 (p:=⟨aD.o,fN⟩) bI Bd,dR.next M3 ⟨e,u,w,by omega,by omega,by omega,by rw[Fu,<-a7r,<-Bj,<-Hg]⟩⟩ kG bP (by dsimp only;rw[J.aHy];exact a2) fF k1
 obtain rfl:i=aD.l.length:=by omega
 refine lC (lB (tT (lA ?_)));refine Sb (E:=eT c x hB::⟨CZ,[pE,aD.val,a.a3.val,a.aX.val],32⟩::((⟨aD.o,fN⟩:J eL).L 157 eL.cells++[])) (G:=R) (Sx rfl) ?hp ?c2 ?bD;case hp=>exact⟨fN,hB,rfl,dR,s0,rfl,rfl⟩
 case c2=>
  have e:aD.val=(⟨aD.o,fN⟩:J eL).val:=by simp only[J.val,UQ]
  rw[e];exact a2
 case bD=>exact mB _
def b1I{A B:aP}{c CZ:Nat}{x:a0 Int}{k n:Nat}{pE:Value}{aD:J eL}{a3:J hY}{aX:J g9}{mH m6 bY g8:J Int}{R:aJ}(Y:hZ)
 (Hr:y8 A B (aD.L 157 eL.cells++(eT c x k::⟨CZ,[pE,aD.val,a3.val,aX.val],32⟩::[])))
 (gK:sN (a3.L 278 hY.cells) B) (cS:sN (aX.L 239 g9.cells) B) (dG:sN (mH.L 3 aL) B) (cT:sN (m6.L 3 aL) B) (eH:sN (bY.L 3 aL) B) (hP:sN (g8.L 3 aL) B)
 (Ig:a3.ok 4 hY.cells) (a2q:aX.ok 3 g9.cells) (a2r:mH.ok 1 aL) (Ci:m6.ok 1 aL) (a7S:bY.ok 1 aL) (bGc:g8.ok 1 aL) (k8:∀f∈a3.l,aH f.fI R) (lH:∀d∈aX.l,aH d.fI R)
 (K:jK x R) (hk:k<=x.l.length) (hok:aD.ok 10 eL.cells) (h1:NX n 0 a3.l mH.l) (hR:NU n 0 aX.l m6.l) (hq:aD.l.length=g8.l.length) (rU:aD.l.length<=100)
 (Oq:∀(i:Nat) (q:Int),g8.l[i]?=some q->-360<=q/\q<=360) (Hm:∀(i:Nat) (p:Int),bY.l[i]?=some p->-4000<=p/\p<=4000) (M:∀(i:Nat) (r:eL),aD.l[i]?=some r->aAE bY.l.length r):
 aI prog 107 [.pointer (some ⟨c,0,none⟩),.pointer (some ⟨CZ,0,none⟩),.agg #[mH.val,m6.val],.agg #[bY.val,g8.val]].toArray A R
  (λv iM G=>∃(fN:List eL) (b5:Nat),v=.tuple #[]/\Dl ⟨Y,a3.U,aX.U⟩ ⟨mH.U,m6.U⟩ ⟨bY.U,g8.U⟩ aD.l aD.l.length fN/\b5<=x.l.length/\
   B++(eT c x b5::⟨CZ,[pE,aD.val,a3.val,aX.val],32⟩::((⟨aD.o,fN⟩:J eL).L 157 eL.cells++[]))=iM/\R=G):=by
 have h:=b55 c CZ x k n pE ⟨Y,a3.U,aX.U⟩ ⟨mH.U,m6.U⟩ ⟨bY.U,g8.U⟩ aD ([Q1 a3.U,MN aX.U,cZ mH.U,cZ m6.U,cZ bY.U,cZ g8.U]++R) (K.mono λr h=>aM (by simp[h])) hk hok
  (aM fX) (aM fX) ⟨aM fX,aM fX⟩ ⟨aM fX,aM fX⟩ h1 hR hq rU Oq Hm M
 have V:=aI.Hz (S:=[Q1 a3.U,MN aX.U,cZ mH.U,cZ m6.U,cZ bY.U,cZ g8.U]) (Post:=λv E=>∃(fN:List eL) (b5:Nat),v=.tuple #[]/\Dl ⟨Y,a3.U,aX.U⟩ ⟨mH.U,m6.U⟩ ⟨bY.U,g8.U⟩ aD.l aD.l.length fN/\b5<=x.l.length/\
  (eT c x b5::⟨CZ,[pE,aD.val,a3.val,aX.val],32⟩::((⟨aD.o,fN⟩:J eL).L 157 eL.cells++[]))=E) Hr (λw aC bX s hs=>?_)
  ((aI.bGp b22 h).mono λv E G ⟨fN,b5,j5,kK,lV,q5,AC⟩=>⟨⟨fN,b5,j5,kK,lV,q5⟩,AC⟩)
 ·exact V.mono λv iM G ⟨E,e,⟨fN,b5,j5,kK,lV,q5⟩,AC⟩=>⟨fN,b5,j5,kK,lV,by rw[<-q5]at e;exact e,AC⟩
 ·
  simp only[vC,x7,or_false]at hs;rcases hs with rfl|rfl|rfl|rfl|rfl|rfl;·exact HA bX gK Ig bI bH (λs hs=>by obtain⟨y,aN,rfl⟩:=List.mem_map.1 hs;exact k8 y aN)
  ·exact HA bX cS a2q bI bH (λs hs=>by obtain⟨y,aN,rfl⟩:=List.mem_map.1 hs;exact lH y aN)
  ·exact HA bX dG a2r bI bH lQ
  ·exact HA bX cT Ci bI bH lQ
  ·exact HA bX eH a7S bI bH lQ
  ·exact HA bX hP bGc bI bH lQ
def b33{A B:aP}{c:Nat}{x:a0 Int}{k:Nat}{a:bR}{mH m6:J Int}{R:aJ}(Hr:y8 A B [eT c x k])(dG:sN (mH.L 3 aL) B)(cT:sN (m6.L 3 aL) B)(a2r:mH.ok 1 aL)(Ci:m6.ok 1 aL)
 (K:jK x R) (hk:k<=x.l.length) (N:mH.l.length<=100) (V:m6.l.length<=100):
 aI prog 108 [.pointer (some ⟨c,0,none⟩),a.val,.agg #[mH.val,m6.val]].toArray A R
  (λv iM G=>∃(pM qF:J Int) (b5:Nat),v=.agg #[pM.val,qF.val]/\(pM.ok 1 aL/\qF.ok 1 aL)/\ZH mH.l pM.l/\ZH m6.l qF.l/\b5<=x.l.length/\B++(eT c x b5::(pM.L 3 aL++(qF.L 3 aL++[])))=iM/\R=G):=by
 have h:=b9d c x k a ⟨mH.U,m6.U⟩ ([cZ mH.U,cZ m6.U]++R) (K.mono λr h=>aM (by simp[h])) hk ⟨aM fX,aM fX⟩ N V;have V:=aI.Hz (S:=[cZ mH.U,cZ m6.U]) (Post:=λv E=> ∃(pM qF:J Int) (b5:Nat),v= .agg #[pM.val,qF.val]/\(pM.ok 1 aL/\qF.ok 1 aL)/\ZH mH.l pM.l/\ZH m6.l qF.l/\b5<=x.l.length/\eT c x b5::(pM.L 3 aL++(qF.L 3 aL++[]))=E) Hr (λw aC bX s hs=> ?_)
  (h.mono λv E G ⟨pM,qF,b5,j5,kK,lV,q5,AC,a6k,aDd⟩=>⟨⟨pM,qF,b5,j5,kK,lV,q5,AC,a6k⟩,aDd⟩)
 ·exact V.mono λv iM G ⟨E,e,⟨pM,qF,b5,j5,kK,lV,q5,AC,a6k⟩,aDd⟩=>⟨pM,qF,b5,j5,kK,lV,q5,AC,by rw[<-a6k]at e;exact e,aDd⟩
 ·
  simp only[vC,x7,or_false]at hs;rcases hs with rfl|rfl;·exact HA bX dG a2r bI bH lQ
  ·exact HA bX cT Ci bI bH lQ
end Go.Proofs.YtchfclmokpbldaaGreat
namespace Go.Proofs.YtchfclmokpbldaaGreat
open Go.Aw Go Go.Proofs.Tryz
def SY{aV r4:Type}{f:aV->Option r4}{l:List aV}(h:∀x∈l,f x=none):l.findSome? f=none:=List.findSome?_eq_none_iff.2 h
def b9R{n:Nat}{r:eL}(h:a4G n r)(N:1<=r.len/\r.len<=100000)(V:1<=r.n7/\r.n7<=1000):v6 n r=none:=by have a:=h.bK;have b:=h.to;have c:=h.ne;have d:=a44.2 h.aB;have e:=a44.2 h.jO;unfold v6;rw[if_neg D,if_neg (by rw[d,e];simp only[Bool.true_eq_false,or_false];omega)]
def b9A{m:hZ}(N:m.places.l.length<=64)(V:m.aD.l.length<=128)(aQ:∀p∈m.places.l,-10000<=p.Ns/\p.Ns<=10000)(b7:∀r∈m.aD.l,v6 m.places.l.length r=none):q0 m=0:=by rw[q0,if_neg D,SY (λp hp=>by have:=aQ p hp;unfold MJ;exact if_neg D),SY b7];rfl
def b1s{f:hY}(h:NW f):N4 f=0:=by
 have a:=h.b9;have b:=h.aG3;have c:=h.a7J;rw[N4,if_neg D,if_neg D,SY];·rfl
 ·
  intro i aA;have aA:=List.mem_range.1 aA;obtain⟨p,hp⟩:=IA aA;have UM:=h.ok.yY i p hp;unfold I0;rw[hp];dsimp only;rw[if_neg D];by_cases bQ:i=0;·rw[if_pos bQ]
  ·rw[if_neg bQ];obtain⟨q,hq⟩:=mP f.hJ.l (i-1);have cI:=h.ok.e7 (i-1) q p hq (by rw[show i-1+1=i by omega];exact hp);rw[hq];dsimp only;rw[if_neg D]
def b1C{l:List g9}(N:l.length<=16)(V:∀d∈l,Re d/\d.yV= -1):FH l=0:=by
 rw[FH,if_neg D,SY];·rfl
 ·
  intro i aA;obtain⟨d,hd⟩:=IA (List.mem_range.1 aA);obtain⟨a,b⟩:=V d (gU hd);have c:=a.b9;have e:=a.len;rw[a4A hd,if_neg D,if_neg D,SY (λx K=>?_)];·dsimp only;rw[if_neg (by rw[a.Tw];decide),if_neg (λh=>h.1 b)]
  ·obtain⟨j,aY⟩:=List.mem_iff_getElem?.1 K;have:=a.aB j x aY;unfold Ds;exact if_neg D
def b5e{a:bR}(N:q0 a.Y=0)(V:a.a3.l.length<=8)(aQ:∀f∈a.a3.l,NW f/\f.b9<a.Y.aD.l.length)(b7:a.aX.l.length<=16)(eG:∀d∈a.aX.l,(Re d/\d.yV= -1)/\d.b9<a.Y.aD.l.length):hO a=0:=by
 rw[aBA N D (SY (λf hf=>by
  have:=aQ f hf;unfold Eo;rw[if_neg (by rw[b1s this.1];decide),if_neg D])),b1C b7 (λd hd=>(eG d hd).1),if_neg bH,SY (λd hd=>by
  have:=eG d hd;unfold Dq;exact if_neg D)]
 rfl
def aRD{a:bR}{s:cE}(h:YX a s):lL a s=true:=by
 have N:=h.X8;have V:=h.aG2;rw[Ln N V,SY (λx K=>?_),SY (λi aA=>?_)];·rfl
 ·have aA:=List.mem_range.1 aA;obtain⟨y,aN⟩:=IA aA;obtain⟨d,hd⟩:=mP a.aX.l i;have:=h.uD i y d aN hd;rw[a42 aN hd];exact if_neg D
 ·obtain⟨j,aY⟩:=List.mem_iff_getElem?.1 K;have:=h.nD j x aY;unfold Rk;exact if_neg D
structure Rt(sh:Nat)(bS:List kR):Prop where
 aHz:1<=sh/\sh<=2
 len:sh<=bS.length/\bS.length<=sh+4
 val:∀(i:Nat) (p:kR),bS[i]?=some p->(-10000<=p.Ns/\p.Ns<=10000)/\p.r3=decide (i<sh)
structure Zk(sh jV:Nat)(i:Nat)(fV:List Int):Prop where
 len:fV.length=jV
 val:∀(j:Nat) (p:Int),fV[j]?=some p->(-4000<=p/\p<=4000)/\(j<sh\/i<=j->p=0)
def Zk.next{sh jV i:Nat}{fV:List Int}(h:Zk sh jV i fV)(aA:sh<=i){p:Int}(hp:-4000<=p/\p<=4000):Zk sh jV (i+1) (fV.set i p):=by
 refine⟨by simp[h.len],λj q hq=>?_⟩;rw[EU]at hq;split at hq;·
  rename_i a62;split at hq;·cases hq;exact⟨hp,λaY=>by omega⟩
  ·cases hq
 ·have:=h.val j q hq;exact⟨this.1,λaY=>this.2 D⟩
structure ZE(jV:Nat)(r:eL):Prop where
 d:aAE jV r
 ne:r.bK≠r.to
 len:1<=r.len/\r.len<=400
 n7:4<=r.n7/\r.n7<=30
structure Ei(jV:Nat)(fN:List eL)(Z:List Int):Prop where
 len:Z.length=fN.length
 b9:∀(i:Nat) (r:eL),fN[i]?=some r->ZE jV r
 dB:∀(i:Nat) (q:Int),Z[i]?=some q->-360<=q/\q<=360
 dM:∀(i:Nat) (r:eL) (q:Int),fN[i]?=some r->Z[i]?=some q->r.dM=true->q=0
def Ei.nil(jV:Nat):Ei jV [] []:=⟨rfl,(λ_ _ h=>by cases h),(λ_ _ h=>by cases h),(λ_ _ _ h=>by cases h)⟩
def Ei.next{jV:Nat}{fN:List eL}{Z:List Int}(h:Ei jV fN Z){r:eL}{q:Int}(M:ZE jV r)(hq:-360<=q/\q<=360)(hc:r.dM=true->q=0):Ei jV (fN++[r]) (Z++[q]):=by
 have hl:=h.len;have wN:∀{aV:Type} {l:List aV} {x y:aV} {i:Nat},(l++[x])[i]?=some y->l[i]?=some y\/(i=l.length/\y=x):=by
  intro aV l x y i aA;rw[Da]at aA;split at aA;·exact .inl aA
  ·
   rw[Je]at aA;split at aA;·cases aA;exact .inr ⟨by omega,rfl⟩
   ·cases aA
 refine⟨by simp[hl],λi s hs=>?_,λi p hp=>?_,λi s p hs hp i1=>?_⟩;·
  rcases wN hs with hs|⟨_,rfl⟩;·exact h.b9 i s hs
  ·exact M
 ·
  rcases wN hp with hp|⟨_,rfl⟩;·exact h.dB i p hp
  ·exact hq
 ·
  rcases wN hs with hs|⟨e,rfl⟩;·
   rcases wN hp with hp|⟨vM,_⟩;·exact h.dM i s p hs hp i1
   ·have:=(List.getElem?_eq_some_iff.1 hs).1;omega
  ·
   rcases wN hp with hp|⟨_,rfl⟩;·have:=(List.getElem?_eq_some_iff.1 hp).1;omega
   ·exact hc i1
def Z8(kV:List Int)(r:eL)(q:Int):List Int:=
 let zQ:=kV.set r.bK.toNat (kV.getD r.bK.toNat 0+q)
 zQ.set r.to.toNat (zQ.getD r.to.toNat 0-q)
def CU(fN:List eL)(Z:List Int)(jV:Nat):Nat->List Int
 |0=>List.replicate jV 0
 |k+1=>Z8 (CU fN Z jV k) (fN.getD k default) (Z.getD k 0)
def aPG(a:bR)(x:q2): ∀k,KG a x k=CU a.Y.aD.l x.g8.l x.bY.l.length k
 |0=>rfl
 |k+1=>by rw[KG,aPG a x k];rfl
def b7y(kV:List Int)(r:eL)(q:Int):(Z8 kV r q).length=kV.length:=by simp[Z8]
def a5Z(fN:List eL)(Z:List Int)(jV:Nat): ∀k,(CU fN Z jV k).length=jV
 |0=>by simp[CU]
 |k+1=>by rw[CU,b7y,a5Z fN Z jV k]
def aLq{fN m:List eL}{Z LD:List Int}{jV:Nat}(hl:Z.length=fN.length): ∀k,k<=fN.length->CU (fN++m) (Z++LD) jV k=CU fN Z jV k
 |0,_=>rfl
 |k+1,hk=>by rw[CU,CU,aLq hl k D,Sl D,Sl D]
def aBx{fN:List eL}{Z:List Int}{jV:Nat}(hl:Z.length=fN.length)(r:eL)(q:Int):CU (fN++[r]) (Z++[q]) jV (fN++[r]).length=Z8 (CU fN Z jV fN.length) r q:=by rw[iD,pN,CU,aLq hl _ (g4 _),a0G rfl,a0G hl.symm]
def aJW{fN VB:List eL}{Z:List Int}{jV:Nat}: ∀k,(∀i,i<k->(VB.getD i default).bK=(fN.getD i default).bK/\(VB.getD i default).to=(fN.getD i default).to)->CU VB Z jV k=CU fN Z jV k
 |0,_=>rfl
 |k+1,h=>by
  rw[CU,CU,aJW k (λi aA=>h i D)]
  have:=h k D
  unfold Z8
  rw[this.1,this.2]
def a3I{l:List Int}{i j:Nat}{v:Int}(aA:i<l.length):(l.set i v).getD j 0=if i=j then v else l.getD j 0:=by
 rw[iW,iW,EU];by_cases h:i=j;·subst h;simp[aA]
 ·simp[h]
def aCg{kV:List Int}{r:eL}{q:Int}{jV:Nat}(w3:kV.length=jV)(M:ZE jV r)(v:Nat):(Z8 kV r q).getD v 0=kV.getD v 0+(if r.bK=(v:Int)then q else 0)-(if r.to=(v:Int)then q else 0):=by
 have N:=M.d.bK;have V:=M.d.to;have aQ:=M.ne;have iO:¬r.bK.toNat=r.to.toNat:=by omega
 unfold Z8;dsimp only;rw[a3I Qs,a3I D,if_neg iO,a3I D];by_cases yN:r.to.toNat=v;·
  have e:r.to=(v:Int):=by omega
  rw[if_pos yN,if_pos e,if_neg D,yN];omega
 ·
  rw[if_neg yN,if_neg (show¬r.to=(v:Int) by omega)];by_cases jG:r.bK.toNat=v;·rw[if_pos jG,if_pos (show r.bK=(v:Int) by omega),jG];omega
  ·rw[if_neg jG,if_neg (show¬r.bK=(v:Int) by omega)];omega
structure NV(jV:Nat)(m:Int)(fN:List eL)(Z:List Int)(l7:List Int):Prop where
 m:0<=m/\(fN.length:Int)+m<=5
 aD:Ei jV fN Z
 Po:l7=CU fN Z jV fN.length
 YK:∀v,-60*(fN.length:Int)<=l7.getD v 0/\l7.getD v 0<=60*(fN.length:Int)
def NV.len{jV:Nat}{m:Int}{fN:List eL}{Z l7:List Int}(h:NV jV m fN Z l7):l7.length=jV:=by rw[h.Po];exact a5Z _ _ _ _
def NV.zero{jV:Nat}{m:Int}(hm:0<=m/\m<=5):NV jV m [] [] (List.replicate jV 0):=by
 refine⟨by simpa using hm,Ei.nil jV,rfl,λv=>?_⟩;have:(List.replicate jV (0:Int)).getD v 0=0:=by rw[iW,R1];split<;>rfl
 rw[this];simp
def NV.next{jV:Nat}{m:Int}{fN:List eL}{Z l7:List Int}(h:NV jV m fN Z l7)(hm:0<m){r:eL}{q:Int}(M:ZE jV r)(hq:-60<=q/\q<=60)(hc:r.dM=true->q=0):NV jV (m-1) (fN++[r]) (Z++[q]) (Z8 l7 r q):=by have Uv:=h.m;refine⟨by simp only[iD,pN];omega,h.aD.next M D hc,by rw[aBx h.aD.len,h.Po],λv=>?_⟩;have hv:=h.YK v;rw[aCg h.len M v];have:=M.ne;simp only[iD,pN];exact a8s
structure Rx(sh jV i:Nat)(Ic:List Int)(fN:List eL)(Z:List Int):Prop where
 aD:Ei jV fN Z
 len:fN.length+sh<=5+i
 done:∀v,sh<=v->v<i->(CU fN Z jV fN.length).getD v 0=0
 a8d:∀v:Nat,sh<=v->v<i->∃(k:Nat) (r:eL),fN[k]?=some r/\r.dM=false/\((r.bK=(v:Int)/\r.to<(sh:Int))\/(r.to=(v:Int)/\r.bK<(sh:Int)))
 DM:∀v,i<=v->(CU fN Z jV fN.length).getD v 0=Ic.getD v 0
def NV.bGG{jV:Nat}{m:Int}{fN:List eL}{Z l7:List Int}(h:NV jV m fN Z l7)(sh:Nat):Rx sh jV sh l7 fN Z:=
 ⟨h.aD,by have:=h.m;omega,λv N V=>absurd V D,λv N V=>absurd V D,λv _=>by rw[<-h.Po]⟩
def Rx.next{sh jV i:Nat}{Ic:List Int}{fN:List eL}{Z:List Int}(h:Rx sh jV i Ic fN Z)(aA:sh<=i){r:eL}{q:Int}(M:ZE jV r)(hq: -360<=q/\q<=360)(hc:r.dM=false)
 (Nt:(r.bK=(i:Int)/\r.to<(sh:Int)/\q= -(Ic.getD i 0))\/(r.to=(i:Int)/\r.bK<(sh:Int)/\q=Ic.getD i 0)):Rx sh jV (i+1) Ic (fN++[r]) (Z++[q]):=by
 have rU:=h.len;refine⟨h.aD.next M hq (λi1=>by rw[hc]at i1;cases i1),by simp only[iD,pN];omega,λv N V=>?_,λv N V=>?_,λv N=>?_⟩
 rotate_left
 ·
  rcases Ww (Wy V)with cN|cN;·obtain⟨k,rD,eU,eE⟩:=h.a8d v N cN;exact⟨k,rD,by rw[HU (List.getElem?_eq_some_iff.1 eU).1];exact eU,eE⟩
  ·subst cN;exact⟨fN.length,r,by rw[NM (g4 _)];simp,hc,by rcases Nt with h|h;exact .inl ⟨h.1,h.2.1⟩;exact .inr ⟨h.1,h.2.1⟩⟩
 rotate_left
 ·
  rw[aBx h.aD.len,aCg (a5Z _ _ _ _) M v];rcases Ww (Wy V)with cN|cN;·rw[h.done v N cN,if_neg D,if_neg D];rfl
  ·subst cN;rw[h.DM v (g4 _)];have:=M.ne;exact a8s
 ·rw[aBx h.aD.len,aCg (a5Z _ _ _ _) M v,h.DM v D,if_neg D,if_neg D];omega
def aMT{l m:List Int}(h:ZH l m){k:Nat}(hk:k<l.length):m.getD k 0= -1\/m.getD k 0=l.getD k 0:=by
 have:=h.len;have hg:=bJ m k 0;rcases h.val k _ hg with N|N;·exact .inl N
 ·rw[iL (l:=l) 0 hk]at N;exact .inr (y2 N).symm
structure N0(a:bR)(t:cE)(x:q2):Prop where
 pT:hO a=0
 C4:lL a t=true
 Ge:Es a t x=0
 Vo:1<=a.Y.places.l.length/\a.Y.places.l.length<=6
 a7N:a.Y.aD.l.length<=9
 O4:a.a3.l.length<=2
 M8:a.aX.l.length<=2
 YK:∀(i:Nat) (r:eL),a.Y.aD.l[i]?=some r->(-260000000<=r.jO.bG/\r.jO.bO<=260000000)/\r.aB.bO<=22
 hJ:∀f∈a.a3.l,Ee f.hJ.l
 hH:∀d∈a.aX.l,Ro d.b9 d
 bKM:∀p∈x.bY.l,-4000<=p/\p<=4000
 bKS:(a.Y.places.l.getD 0 default).r3=true
 a8d:∀v:Nat,v<a.Y.places.l.length->(a.Y.places.l.getD v default).r3=false->∃k u:Nat,k<a.Y.aD.l.length/\(a.Y.places.l.getD u default).r3=true/\(a.Y.aD.l.getD k default).dM=false/\(((a.Y.aD.l.getD k default).bK=(v:Int)/\(a.Y.aD.l.getD k default).to=(u:Int))\/((a.Y.aD.l.getD k default).bK=(u:Int)/\(a.Y.aD.l.getD k default).to=(v:Int)))
def b65{sh:Nat}{a:bR}{s t:cE}{x:q2}{Cq:List eL}{Ic:List Int}(eB:Rt sh a.Y.places.l)(Ve:Zk sh a.Y.places.l.length a.Y.places.l.length x.bY.l)(kX:Rx sh a.Y.places.l.length a.Y.places.l.length Ic Cq x.g8.l)
 (h1:NX Cq.length 0 a.a3.l s.a3.l) (hR:NU Cq.length 0 a.aX.l s.aX.l) (pV:Dl a s x Cq Cq.length a.Y.aD.l) (aGw:ZH s.a3.l t.a3.l) (aGv:ZH s.aX.l t.aX.l):N0 a t x:=by
 have RK:=eB.aHz
 have l5:=eB.len
 have kD:=pV.len
 have UQ:=kX.len
 have rV:=kX.aD.len
 have aSi:=h1.m
 have aDH:=hR.m
 have aT3:=Ve.len
 -- a road of the air
 have b9:∀(i:Nat) (rD:eL),a.Y.aD.l[i]?=some rD->∃r,Cq[i]?=some r/\ZE a.Y.places.l.length r/\aB2 a s x i r rD:=by
  intro i rD JF
  obtain⟨aA,_⟩:=List.getElem?_eq_some_iff.1 JF
  obtain⟨r,M⟩:=mP Cq i
  obtain⟨lH,V,aQ⟩:=pV.done i r D M
  rw[JF]at V;cases V
  exact⟨r,M,kX.aD.b9 i r M,aQ⟩
 have aU7:∀i:Nat,-4000<=x.bY.l.getD i 0/\x.bY.l.getD i 0<=4000:=λi=>by
  rcases gY i x.bY.l.length with h|h
  ·exact(Ve.val i _ (iL 0 h)).1
  ·rw[iW,sJ h];simp
 have bAM:∀i:Nat,-360<=x.g8.l.getD i 0/\x.g8.l.getD i 0<=360:=λi=>by
  rcases gY i x.g8.l.length with h|h
  ·exact kX.aD.dB i _ (iL 0 h)
  ·rw[iW,sJ h];simp
 have ok:∀(i:Nat) (rD:eL),a.Y.aD.l[i]?=some rD->a4G a.Y.places.l.length rD/\(1<=rD.len/\rD.len<=100000)/\(1<=rD.n7/\rD.n7<=1000)/\(-260000000<=rD.jO.bG/\rD.jO.bO<=260000000)/\rD.aB.bO<=22:=by
  intro i rD JF
  obtain⟨r,M,hg,e,u,v,X,c4,hv,MT⟩:=b9 i rD JF
  have N:=hg.d.aB
  have V:=hg.len
  have aQ:=hg.n7
  have gK:=a52 hR i a.aX.l.length (g4 _)
  have cS:=a5N h1 i (x.g8.l.getD i 0) a.a3.l.length (g4 _)
  have dG:=aKL (R:=r.aB.bG+e+A4 a.aX.l s.aX.l i a.aX.l.length) (q:=x.g8.l.getD i 0) D (bAM i)
  have cT:=aU7 r.bK.toNat
  have eH:=aU7 r.to.toNat
  rw[MT]
  refine⟨⟨hg.d.bK,hg.d.to,hg.ne,⟨N.1,N.2.1,by dsimp only;omega⟩,?_⟩,⟨V.1,by dsimp only;omega⟩,⟨by dsimp only;omega,by dsimp only;omega⟩,?_,N.2.2⟩
  ·unfold Fu Z1
   dsimp only
   omega
  ·unfold Fu Z1
   dsimp only
   omega
 have K8:q0 a.Y=0:=b9A D D (λp hp=>by
  obtain⟨i,aA⟩:=List.mem_iff_getElem?.1 hp
  exact(eB.val i p aA).1) (λr M=>by
  obtain⟨i,aA⟩:=List.mem_iff_getElem?.1 M
  obtain⟨N,V,aQ,_,_⟩:=ok i r aA
  exact b9R N V aQ)
 have Uj:hO a=0:=b5e K8 D (λf hf=>⟨(h1.nD f hf).ok,by have:=(h1.nD f hf).b9;omega⟩) D (λd hd=>⟨⟨(hR.uD d hd).ok,(hR.uD d hd).Cg.yV⟩,by have:=(hR.uD d hd).b9;omega⟩)
 have T2:=h1.len
 have Ud:=hR.len
 have aTT:=aGw.len
 have a16:=aGv.len
 have bFK:a4J a s t:=by
  refine⟨λk hk=>?_,λk hk=>?_⟩
  ·have N:=h1.e7 _ (gU (iL (l:=s.a3.l) (k:=k) 0 D))
   rcases aMT aGw (k:=k) D with h|h
   ·exact .inr ⟨h,by omega,by omega⟩
   ·exact .inl h
  ·have N:=hR.e7 k _ _ (iL (l:=a.aX.l) (k:=k) default hk) (iL (l:=s.aX.l) (k:=k) 0 D)
   rcases aMT aGv (k:=k) D with h|h
   ·exact .inr ⟨h,by omega,by omega⟩
   ·exact .inl h
 have FY:lL a t=true:=aRD ⟨by omega,by omega,λi y aN=>by
  obtain⟨aA,_⟩:=List.getElem?_eq_some_iff.1 aN
  have N:=h1.e7 _ (gU (bJ s.a3.l i 0))
  rcases aGw.val i y aN with h|h
  ·omega
  ·rw[iL (l:=s.a3.l) 0 (show i<s.a3.l.length by omega)]at h
   rw[<-y2 h];omega,λi y d aN hd=>by
  obtain⟨aA,_⟩:=List.getElem?_eq_some_iff.1 aN
  have N:=hR.e7 i d _ hd (bJ s.aX.l i 0)
  have V:=(hR.uD d (gU hd)).Cg.len
  rcases aGv.val i y aN with h|h
  ·omega
  ·rw[iL (l:=s.aX.l) 0 (show i<s.aX.l.length by omega)]at h
   rw[<-y2 h];omega⟩
 have bDt:KG a x x.g8.l.length=CU Cq x.g8.l a.Y.places.l.length Cq.length:=by
  rw[aPG,aT3,rV]
  refine aJW _ (λi aA=>?_)
  obtain⟨r,M,_,e,u,v,_,_,_,MT⟩:=b9 i _ (bJ a.Y.aD.l i default)
  rw[getD_some M,MT]
  exact⟨rfl,rfl⟩
 refine⟨Uj,FY,?_,by omega,by omega,by omega,by omega,λi r M=>(ok i r M).2.2.2,λf hf=>(h1.nD f hf).hJ,λd hd=>(hR.uD d hd).Cg,λp hp=>by obtain⟨i,aA⟩:=List.mem_iff_getElem?.1 hp;exact(Ve.val i p aA).1,?_,λv hv hs=>?_⟩
 rotate_left
 ·have hg:=iL (l:=a.Y.places.l) (k:=0) default D
  rw[(eB.val 0 _ hg).2]
  exact decide_eq_true D
 ·have hg:=iL (l:=a.Y.places.l) (k:=v) default hv
  have xU:=(eB.val v _ hg).2
  rw[hs]at xU
  obtain⟨k,r,eU,eE,i2⟩:=kX.a8d v (by have:=of_decide_eq_false xU.symm;omega) hv
  have aS9:=(List.getElem?_eq_some_iff.1 eU).1
  obtain⟨lH,V,_,e,u,w,_,_,_,MT⟩:=b9 k _ (bJ a.Y.aD.l k default)
  rw[eU]at V
  cases V
  have UP:=(kX.aD.b9 k r eU).d
  have Ho:=UP.bK
  have aGr:=UP.to
  have J3:∀u:Nat,u<sh->(a.Y.places.l.getD u default).r3=true:=λu c4=>by
   rw[(eB.val u _ YS).2];exact decide_eq_true c4
  rcases i2 with⟨dY,eY⟩|⟨dY,eY⟩
  ·exact⟨k,r.to.toNat,by omega,J3 _ D,by rw[MT];exact eE,.inl ⟨by rw[MT];exact dY,by rw[MT];show r.to=_;omega⟩⟩
  ·exact⟨k,r.bK.toNat,by omega,J3 _ D,by rw[MT];exact eE,.inr ⟨by rw[MT];show r.bK=_;omega,by rw[MT];exact dY⟩⟩
 refine b9G Uj FY D (SY (λp hp=>?_)) (SY (λq hq=>?_)) (λi aA=>?_) (λv hv=>?_)
 ·obtain⟨j,aY⟩:=List.mem_iff_getElem?.1 hp
  have:=(Ve.val j p aY).1
  exact if_neg D
 ·obtain⟨j,aY⟩:=List.mem_iff_getElem?.1 hq
  have:=kX.aD.dB j q aY
  exact if_neg D
 ·have hg:=iL (l:=a.Y.aD.l) (k:=i) default D
  obtain⟨r,M,aE7,a6Y⟩:=b9 i _ hg
  have jN:=b8r h1 hR (aE7.d.aB.2.1) a6Y
  have EA:=b3Y bFK (i:Int) (x.g8.l.getD i 0)
  have i1:=kX.aD.dM i r _ M (bJ x.g8.l i 0)
  have dY:(a.Y.aD.l.getD i default).bK=r.bK/\(a.Y.aD.l.getD i default).to=r.to/\(a.Y.aD.l.getD i default).dM=r.dM:=by
   obtain⟨e,u,v,_,_,_,MT⟩:=a6Y
   rw[MT];exact⟨rfl,rfl,rfl⟩
  unfold SD
  dsimp only
  rw[dY.1,dY.2.1,dY.2.2]
  refine if_neg ?_
  have N:=EA.1
  have V:=EA.2
  dsimp only[Z1]at jN
  rintro(⟨aQ,b7⟩|⟨_,b7⟩)
  ·exact b7 (i1 aQ)
  ·omega
 ·rw[aT3]at hv
  obtain⟨p,hp⟩:=IA (l:=a.Y.places.l) (k:=v) hv
  have N:=(eB.val v p hp).2
  have V:=Ve.val v _ (bJ x.bY.l v 0)
  unfold TT
  rw[bDt,getD_some hp,N]
  refine if_neg ?_
  rintro(⟨aQ,b7⟩|⟨aQ,b7⟩)
  ·exact b7 (V.2 (.inl (by simpa using aQ)))
  ·exact b7 (kX.done v (by simpa using aQ) D)
attribute [local irreducible] cH c6 dP aI cJ eD e9 e0 e1 e5 eS e8 J.L
structure E9 where
 places:J kR
 aD:J eL
 a3:J hY
 aX:J g9
 pM:J Int
 qF:J Int
 bY:J Int
 g8:J Int
abbrev E9.a(m:E9):bR:=⟨⟨m.places.U,m.aD.U⟩,m.a3.U,m.aX.U⟩
abbrev E9.t(m:E9):cE:=⟨m.pM.U,m.qF.U⟩
abbrev E9.x(m:E9):q2:=⟨m.bY.U,m.g8.U⟩
abbrev E9.L(m:E9)(Tq:a5):aP:=
 m.bY.L 3 aL++(m.places.L 159 kR.cells++(m.g8.L 3 aL++(m.a3.L 278 hY.cells++(m.aX.L 239 g9.cells++(m.aD.L 157 eL.cells++(Tq::(m.pM.L 3 aL++(m.qF.L 3 aL++[]))))))))
structure E9.Zj(m:E9):Prop where
 places:m.places.ok 2 kR.cells
 aD:m.aD.ok 10 eL.cells
 a3:m.a3.ok 4 hY.cells
 aX:m.aX.ok 3 g9.cells
 pM:m.pM.ok 1 aL
 qF:m.qF.ok 1 aL
 bY:m.bY.ok 1 aL
 g8:m.g8.ok 1 aL
def Rt.Px{sh:Nat}{bS:List kR}(h:Rt sh bS)(hl:bS.length<sh+4){z:Int}(eC:0<=z/\z<=99):Rt sh (bS++[⟨-z,false⟩]):=by
 have:=h.len;refine⟨h.aHz,by simp only[iD,pN];omega,λi p hp=>?_⟩;rw[Da]at hp;split at hp;·exact h.val i p hp
 ·
  rw[Je]at hp;split at hp;·cases hp;refine⟨by dsimp only;omega,?_⟩;dsimp only;symm;rw[decide_eq_false_iff_not];omega
  ·cases hp
def b5I{n f j:Int}(hf:0<=f/\f<n)(aY:0<=j/\j<n-1):0<=(f+1+j).tmod n/\(f+1+j).tmod n<n/\f≠(f+1+j).tmod n:=by
 rw[aIk D];have N:=Int.emod_nonneg (f+1+j) (show n≠0 by omega);have V:=Int.emod_lt_of_pos (f+1+j) (show 0<n by omega);refine⟨N,V,?_⟩;rcases JT (f+1+j) n with h|h;·rw[aIb D h];omega
 ·
  have:(f+1+j)%n=f+1+j-n:=by(have e:f+1+j=(f+1+j-n)+n:=by omega);rw[e,Int.add_emod_right,aIb D D];omega
  omega
def b7k(c:Nat)(x:a0 Int)(k:Nat)(R:aJ)(K:jK x R)(hk:k<=x.l.length):
 aI prog 39 [.pointer (some ⟨c,0,none⟩)].toArray [eT c x k] R
  (λv E G=>∃(m:E9) (b5:Nat) (S:aJ),v=.tuple #[m.a.val,m.t.val,m.x.val]/\m.Zj/\N0 m.a m.t m.x/\(∀f∈m.a3.l,aH f.fI S)/\(∀d∈m.aX.l,aH d.fI S)/\b5<=x.l.length/\m.L (eT c x b5)=E/\S++R=G):=by
 refine bW 189 call39 func39 ?_;apply(IV);intro cS;apply(dA);intro dG;apply(dA);intro cT;apply(lP);refine aG a82 ?_;apply(aAZ);rintro v E G ⟨yL,rfl,rfl,l3⟩;replace l3:=l3.symm;subst l3;apply(aBE);refine aG aIB ?_;apply(dA);intro eH;apply i3∘y1;refine b5h (YM (l₁:=[_,_,_,_,_]) (l₂:=[_])) ?_;refine mJ (congrArg (List.cons _) (congrArg (List.cons _) (Lj (f:=kR.cells) (n:=1) [⟨0,true⟩] rfl _))) ?_;apply(A9);refine cK (WC hC K hk D) ?_;rintro v E G ⟨k8,eU,rfl,e6,rfl,rfl⟩;apply(b3);refine v2 (b4 26 8) ((⟨λg=>[],λg=>eT c x eU::⟨eH,[g.1.1.val,.slice none 0 0,.slice none 0 0,.slice none 0 0],32⟩::(g.1.1.L 159 kR.cells++(⟨cT,[.slice none 0 0,.slice none 0 0],82⟩::⟨dG,[.slice none 0 0,.slice none 0 0],80⟩::⟨cS,[.slice none 0 0,.slice none 0 0,.slice none 0 0,.slice none 0 0],32⟩::[])),λ_=>R,λ_=>0⟩:dV {g:J kR×Unit//g.1.ok 2 kR.cells/\g.1.l.length<=2/\Rt g.1.l.length g.1.l})) ?_ ?_;·
  skip
  apply(W)<;>intro aO;·apply eK∘FE;refine aG (mI (hN:=[(1,(Value.bool _).cells.toList),(0,(Value.int _ _).cells.toList)]) (cU:=[_,_]) O rfl rfl rfl rfl) ?_;apply(aAZ);rintro v E G ⟨bAf,rfl,rfl,Ml⟩;replace Ml:=Ml.symm;subst Ml;refine gO (j2 (f:=kR.cells) (p:=⟨.own yL 1 [],[⟨0,true⟩]⟩) (a:=⟨10,true⟩) O rfl rfl rfl rfl (V4 bI rfl bH) c0 j8 rfl kH) rfl ?_;rintro v E G ⟨aG7,rfl,aFE,rfl,rfl⟩;apply eP∘uY∘zT;exact nZ ⟨(⟨aG7,_⟩,()),aFE,by simp,⟨by simp,by simp,λi p hp=>by(cases i with|zero=>cases hp;exact⟨by decide,rfl⟩|succ i=>(cases i with|zero=>cases hp;exact⟨by decide,rfl⟩|succ i=>cases hp))⟩⟩
  refine dK ?_;exact nZ ⟨(⟨.own yL 1 [],[⟨0,true⟩]⟩,()),V4 bI rfl bH,by simp,⟨by simp,by simp,λi p hp=>by(cases i with|zero=>cases hp;exact⟨by decide,rfl⟩|succ i=>cases hp)⟩⟩
 rintro⟨⟨U5,_⟩,aTo,a1J,aSm⟩ bZ;try dsimp only
 dsimp only at aTo a1J aSm;apply cO∘z3∘g7∘hS∘aOo;rintro v E G ⟨lH,eE,rfl,q7,u2,a00,hK,rfl,rfl⟩;apply(mM);refine c7 [(0,.pointer _),(2,.pointer _),(3,.pointer _),(4,.pointer _),(5,.pointer _),(6,.int _ _),(7,.int _ _)] bP λeZ=>?_;have a01:=u2 D;refine kO ([7]++b4 40 15) ((⟨λg=>[(7,.int .i64 g.1.2.1)],λg=>eT c x g.1.1::⟨eH,[g.1.2.2.val,.slice none 0 0,.slice none 0 0,.slice none 0 0],32⟩::(g.1.2.2.L 159 kR.cells++(⟨cT,[.slice none 0 0,.slice none 0 0],82⟩::⟨dG,[.slice none 0 0,.slice none 0 0],80⟩::⟨cS,[.slice none 0 0,.slice none 0 0,.slice none 0 0,.slice none 0 0],32⟩::[])),λ_=>R,λg=>g.1.2.1.toNat⟩:dV {g:Nat×Int×J kR//g.1<=x.l.length/\g.2.2.ok 2 kR.cells/\Rt U5.l.length g.2.2.l/\0<=g.2.1/\(g.2.2.l.length:Int)+g.2.1<=(U5.l.length:Int)+4})) (⟨(eE,lH,U5),hK,aTo,aSm,q7,by dsimp only;omega⟩) ?_;rintro⟨⟨hB,m,bS⟩,s0,hok,i0,bDj,AQ⟩ bZ;try dsimp only
 dsimp only at s0 hok i0 bDj AQ;refine a6 (a6 ?_);have a01:=u2 D;apply p8∘BA;apply(W)<;>intro bF;·refine dK (aZ (a6 (e3 ?_)));refine hF O [] [0,1,2,3,4,5,6,7] [8,9,10,11] ([a5.mk eH _ _]) _ cX bE a2 dT ?_;apply wL∘IP;refine k2 rfl (nA hC K s0 D) rfl rfl ?_;rintro v E G ⟨rE,i2,rfl,KW,I4,Ua,l4,rfl,rfl⟩;refine⟨a2,gN,?_⟩;have a02:=I4 D;refine eO Qw ?_;refine eO aZR ?_;apply(aQA);rintro v E G ⟨a0M,rfl,rfl,Mu⟩;replace Mu:=Mu.symm;subst Mu;apply(xF);refine o4 (j2 (f:=kR.cells) (p:=bS) (a:=⟨-rE,false⟩) O rfl rfl rfl rfl (hok) c0 j8 rfl kH) rfl rfl rfl ?_;rintro v E G ⟨a7T,rfl,aFJ,rfl,rfl⟩;apply fS∘kT∘Sg∘Cm∘ZU;exact dU ⟨(i2,m-1,⟨a7T,_⟩),l4,aFJ,i0.Px D D,by dsimp only;omega,by dsimp only;simp only[iD,pN];omega⟩
 apply(O9);have ED:=i0.aHz;have q9:=i0.len;apply eK∘z3∘pQ∘EL;rintro v E G ⟨xM,rfl,rfl,My⟩;replace My:=My.symm;subst My;apply aBE∘dA;intro h8;apply rQ∘b1∘mM;refine c7 [(0,.pointer _),(2,.pointer _),(3,.pointer _),(4,.pointer _),(5,.pointer _),(6,.int _ _),(8,.int _ _),(9,.pointer _),(10,.int _ _)] bP λnS=>?_;refine mJ (congrArg (List.cons _) (XA (f:=aL) (x:=(0:Int)) rfl _)) ?_;refine mC ([10]++b4 63 11) ((⟨λg=>[(10,.int .i64 ((g.1.2.1:Nat):Int))],λg=>⟨h8,[(⟨.own xM bS.l.length [],g.1.2.2⟩:J Int).val,.slice none 0 0],82⟩::((⟨.own xM bS.l.length [],g.1.2.2⟩:J Int).L 3 aL++(eT c x g.1.1::⟨eH,[bS.val,.slice none 0 0,.slice none 0 0,.slice none 0 0],32⟩::(bS.L 159 kR.cells++(⟨cT,[.slice none 0 0,.slice none 0 0],82⟩::⟨dG,[.slice none 0 0,.slice none 0 0],80⟩::⟨cS,[.slice none 0 0,.slice none 0 0,.slice none 0 0,.slice none 0 0],32⟩::[])))),λ_=>R,λg=>bS.l.length-g.1.2.1⟩:dV {g:Nat×Nat×List Int//g.1<=x.l.length/\(U5.l.length<=g.2.1/\g.2.1<=bS.l.length)/\(⟨.own xM bS.l.length [],g.2.2⟩:J Int).ok 1 aL/\Zk U5.l.length bS.l.length g.2.1 g.2.2})) (⟨(hB,U5.l.length,List.replicate bS.l.length 0),s0,⟨g4 _,by dsimp only;omega⟩,Sy bI Qn,⟨by simp,λj p hp=>by rw[R1]at hp;split at hp;cases hp;exact⟨by omega,λ_=>rfl⟩;cases hp⟩⟩) bP (by dsimp only;rw[aA8];exact oR _) fF ?_;rintro⟨⟨Pn,i,fV⟩,RF,⟨BR,K7⟩,a7h,KY⟩ bZ;try dsimp only
 dsimp only at RF BR K7 a7h KY;apply(TF);apply(W)<;>intro b2;·have aF5:=KY.len;have bJW:=bJ fV i 0;refine dK (aZ (a6 (e3 ?_)));refine hF O [] [0,1,2,3,4,5] [6] ([a5.mk h8 _ _]) _ cX bE a2 (by(repeat(first|apply List.Sublist.cons (a:=a5.mk bIE _ _)|apply List.Sublist.cons_cons));exact oR _) ?_;apply CN∘DK;refine k2 rfl (E8 hC K RF D) rfl rfl ?_;rintro v E G ⟨AW,eV,rfl,OM,ON,m4,rfl,rfl⟩;refine⟨a2,gN,?_⟩;refine eO (h4 O ((⟨.own xM bS.l.length [],fV⟩:J Int)) _ rfl rfl rfl rfl bC (i:=i) cW iC) ?_;apply(x1);refine GO (jL O ((⟨.own xM bS.l.length [],fV⟩:J Int)) (AW) rfl rfl rfl rfl c0 bC bI bC bH aE aE) rfl rfl ?_;rintro v E G ⟨rfl,rfl⟩;apply fS∘z4;exact oT ⟨(eV,i+1,fV.set i AW),m4,⟨by dsimp only;omega,by dsimp only;omega⟩,J.p4 (p:=(⟨.own xM bS.l.length [],fV⟩:J Int)) bI a7h,KY.next BR ⟨OM,ON⟩⟩ kG bP (by dsimp only;rw[J.aHy];exact a2) fF k1
 obtain rfl:i=bS.l.length:=by omega
 apply oD∘b1∘EL;rintro v E G ⟨FN,rfl,rfl,aEh⟩;replace aEh:=aEh.symm;subst aEh;apply(KJ);refine mJ (XA (f:=aL) (x:=(0:Int)) rfl _) ?_;have aF5:=KY.len;apply p8∘BA;refine v2 ([12,13,14,15]++b4 78 58) ((⟨λg=>[],λg=>(⟨.own FN bS.l.length [],g.1.2.2.2⟩:J Int).L 3 aL++(⟨h8,[(⟨.own xM bS.l.length [],fV⟩:J Int).val,g.1.2.2.1.val],82⟩::((⟨.own xM bS.l.length [],fV⟩:J Int).L 3 aL++(eT c x g.1.1::⟨eH,[bS.val,g.1.2.1.val,.slice none 0 0,.slice none 0 0],32⟩::(bS.L 159 kR.cells++(⟨cT,[.slice none 0 0,.slice none 0 0],82⟩::⟨dG,[.slice none 0 0,.slice none 0 0],80⟩::⟨cS,[.slice none 0 0,.slice none 0 0,.slice none 0 0,.slice none 0 0],32⟩::(g.1.2.1.L 157 eL.cells++(g.1.2.2.1.L 3 aL++[]))))))),λ_=>R,λ_=>0⟩:dV {g:Nat×J eL×J Int×List Int//g.1<=x.l.length/\(g.2.1.ok 10 eL.cells/\g.2.2.1.ok 1 aL/\(⟨.own FN bS.l.length [],g.2.2.2⟩:J Int).ok 1 aL)/\∃m,NV bS.l.length m g.2.1.l g.2.2.1.l g.2.2.2})) ?_ ?_;·
  skip
  apply(W)<;>intro dZ;·
   apply cO∘hS;refine cK (nA hC K RF D) ?_;rintro v E G ⟨PD,vS,rfl,Ub,XH,a03,uJ,rfl,rfl⟩;apply(mM);refine zY ([12,13,14,15]++b4 78 58) AZ [(12,.int _ _)] bP λNH=>?_;have aDy:=XH D;refine mC ([12,13,14,15]++b4 80 56) ((⟨λg=>[(12,.int .i64 g.1.2.1)],λg=>(⟨.own FN bS.l.length [],g.1.2.2.2.2⟩:J Int).L 3 aL++(⟨h8,[(⟨.own xM bS.l.length [],fV⟩:J Int).val,g.1.2.2.2.1.val],82⟩::((⟨.own xM bS.l.length [],fV⟩:J Int).L 3 aL++(eT c x g.1.1::⟨eH,[bS.val,g.1.2.2.1.val,.slice none 0 0,.slice none 0 0],32⟩::(bS.L 159 kR.cells++(⟨cT,[.slice none 0 0,.slice none 0 0],82⟩::⟨dG,[.slice none 0 0,.slice none 0 0],80⟩::⟨cS,[.slice none 0 0,.slice none 0 0,.slice none 0 0,.slice none 0 0],32⟩::(g.1.2.2.1.L 157 eL.cells++(g.1.2.2.2.1.L 3 aL++[]))))))),λ_=>R,λg=>g.1.2.1.toNat⟩:dV {g:Nat×Int×J eL×J Int×List Int//g.1<=x.l.length/\(g.2.2.1.ok 10 eL.cells/\g.2.2.2.1.ok 1 aL/\(⟨.own FN bS.l.length [],g.2.2.2.2⟩:J Int).ok 1 aL)/\NV bS.l.length g.2.1 g.2.2.1.l g.2.2.2.1.l g.2.2.2.2})) (⟨(vS,PD,J.nil,J.nil,List.replicate bS.l.length 0),uJ,⟨J.g6,J.g6,Sy bI Qn⟩,NV.zero k1⟩) bP aIL fF ?_;rintro⟨⟨bFC,aG4,fN,Z,l7⟩,aFh,⟨Bd,XX,a1U⟩,hR⟩ bZ;(try dsimp only);dsimp only at aFh Bd XX a1U hR;apply(ZV);apply(W)<;>intro dX;·
    have aDH:=hR.m;have Ud:=hR.len;have bJd:=hR.aD.len;apply j7∘G4;refine cK (nA hC K aFh D) ?_;rintro v E G ⟨tO,BV,rfl,Ag,OO,a04,AP,rfl,rfl⟩;apply(zG);have a05:=OO D;apply A9∘b1∘z2∘hS∘S2;refine cK (nA hC K AP D) ?_;rintro v E G ⟨Ip,JH,rfl,a06,Lv,aDz,MZ,rfl,rfl⟩;have aDA:=Lv D;apply b7g∘Im;refine cK (aNd hC K MZ) ?_;rintro v E G ⟨EO,Pm,rfl,yS,UE,rfl,rfl⟩;apply(dA);intro sA;apply rP∘hS;refine cK (WC hC K UE D) ?_;rintro v E G ⟨xN,aUg,rfl,a1E,rfl,rfl⟩;apply(eP);refine Sn (v:=Value.bool _) O rfl rfl rfl rfl s6 Xv Xn aE ?_;apply(WM);refine cK (E8 hC K a1E D) ?_;rintro v E G ⟨aVf,Vn,rfl,aDB,a6B,a1D,rfl,rfl⟩;apply KL∘b3;refine v2 [15] ((⟨λg=>[(15,.int .i64 g.1)],λg=>⟨sA,eL.cells {EO with dM:=xN},157⟩::((⟨.own FN bS.l.length [],l7⟩:J Int).L 3 aL++(⟨h8,[(⟨.own xM bS.l.length [],fV⟩:J Int).val,Z.val],82⟩::((⟨.own xM bS.l.length [],fV⟩:J Int).L 3 aL++(eT c x Vn::⟨eH,[bS.val,fN.val,.slice none 0 0,.slice none 0 0],32⟩::(bS.L 159 kR.cells++(⟨cT,[.slice none 0 0,.slice none 0 0],82⟩::⟨dG,[.slice none 0 0,.slice none 0 0],80⟩::⟨cS,[.slice none 0 0,.slice none 0 0,.slice none 0 0,.slice none 0 0],32⟩::(fN.L 157 eL.cells++(Z.L 3 aL++[])))))))),λ_=>R,λ_=>0⟩:dV {q:Int//(-60<=q/\q<=60)/\(xN=true->q=0)})) ?_ ?_;·
     skip
     apply(W)<;>intro h3;·apply eK∘WD;exact nZ ⟨0,by omega,λ_=>rfl⟩
     refine dK ?_;exact nZ ⟨aVf,⟨aDB,a6B⟩,λh=>absurd h (by first|exact h3|(rw[h3];decide))⟩
    rintro⟨q,hq,bEv⟩ bZ;(try dsimp only);obtain⟨jP,zN⟩:∃jP:eL,jP={EO with dM:=xN}:=⟨_,rfl⟩;rw[<-zN];have a7v:=b5I (n:=(bS.l.length:Int)) ⟨Ag,a05⟩ ⟨a06,aDA⟩;(have w4:jP.bK=tO:=by rw[zN];exact yS.bK);(have vO:jP.to=(tO+1+Ip).tmod bS.l.length:=by rw[zN];exact yS.to);have nW:ZE bS.l.length jP:=⟨⟨by omega,by omega,by rw[zN];exact yS.aB⟩,by omega,by rw[zN];exact yS.len,by rw[zN];exact yS.n7⟩;(have i1:jP.dM=true->q=0:=by rw[zN];exact bEv);have Pc:=hR.YK jP.bK.toNat;have DA:=bJ l7 jP.bK.toNat 0;have jM:=iL (l:=l7.set jP.bK.toNat (l7.getD jP.bK.toNat 0+q)) (k:=jP.to.toNat) 0 Qs;(have EF:-360<=(l7.set jP.bK.toNat (l7.getD jP.bK.toNat 0+q)).getD jP.to.toNat 0/\(l7.set jP.bK.toNat (l7.getD jP.bK.toNat 0+q)).getD jP.to.toNat 0<=360:=by rw[a3I D];have:=hR.YK jP.to.toNat;split<;>omega);refine a6 ?_;refine v2 (b4 106 14) ((⟨λ_=>[],λg=>⟨sA,jP.cells,157⟩::((⟨.own FN bS.l.length [],l7⟩:J Int).L 3 aL++(⟨h8,[(⟨.own xM bS.l.length [],fV⟩:J Int).val,(⟨g.1.2,Z.l++[q]⟩:J Int).val],82⟩::((⟨.own xM bS.l.length [],fV⟩:J Int).L 3 aL++(eT c x Vn::⟨eH,[bS.val,(⟨g.1.1,fN.l++[jP]⟩:J eL).val,.slice none 0 0,.slice none 0 0],32⟩::(bS.L 159 kR.cells++(⟨cT,[.slice none 0 0,.slice none 0 0],82⟩::⟨dG,[.slice none 0 0,.slice none 0 0],80⟩::⟨cS,[.slice none 0 0,.slice none 0 0,.slice none 0 0,.slice none 0 0],32⟩::((⟨g.1.1,fN.l++[jP]⟩:J eL).L 157 eL.cells++((⟨g.1.2,Z.l++[q]⟩:J Int).L 3 aL++[])))))))),λ_=>R,λ_=>0⟩:dV {g:gZ×gZ//(⟨g.1,fN.l++[jP]⟩:J eL).ok 10 eL.cells/\(⟨g.2,Z.l++[q]⟩:J Int).ok 1 aL})) ?_ ?_;·
     skip
     refine Dt O [] [0,1,2,3,6,7,8,4,5,9,10,11,12] [13,14,15] ([a5.mk sA _ _,a5.mk h8 _ _,a5.mk eH _ _]) [] 13 cX bE rfl rfl a2 λI6=>?_;refine kN 0 I6 dT rfl sM ?_;refine kN 1 I6 dT rfl sM ?_;refine kN 2 I6 dT rfl E1 ?_;refine kN 3 I6 dT rfl a9c ?_;refine kN 6 I6 dT rfl sM ?_;refine kN 7 I6 dT rfl E1 ?_;refine kN 8 I6 dT rfl zV ?_;refine kI [4,9] I6 dT bE ?_;refine o1 ?_ ?_;·
      skip
      apply(a8b);rintro v E G ⟨bAc,rfl,rfl,Me⟩;replace Me:=Me.symm;subst Me;apply(fS);refine kI [5,9] I6 dT bE ?_;refine o1 ?_ ?_;·
       skip
       apply(aPN);rintro v E G ⟨a7R,rfl,a1N,rfl,rfl⟩;apply(fS);refine kI [9] I6 dT bE ?_;apply kU∘In;rintro v E G ⟨aRM,rfl,rfl,T5⟩;replace T5:=T5.symm;subst T5;exact b0E
      apply kU∘In;rintro v E G ⟨aRM,rfl,rfl,T5⟩;replace T5:=T5.symm;subst T5;exact aYA
     apply kU∘In;rintro v E G ⟨aRM,rfl,rfl,T5⟩;replace T5:=T5.symm;subst T5;apply(fS);refine kI [4] I6 dT bE ?_;apply kU∘a8b;rintro v E G ⟨bAc,rfl,rfl,Me⟩;replace Me:=Me.symm;subst Me;exact aYA
    rintro⟨⟨a7R,aG6⟩,a1N,a7c⟩ bZ;(try dsimp only);dsimp only at a1N a7c;apply cO∘BB∘aRx;refine aG aYx ?_;apply z2∘aRx;refine i4 (jL O ((⟨.own FN bS.l.length [],l7⟩:J Int)) (l7.getD jP.bK.toNat 0+q) rfl rfl rfl rfl c0 bC bI bC bH aE aE) ?_;rintro v E G ⟨rfl,rfl⟩;apply(b3);have bD3:=J.p4 (f:=aL) (aR:=1) (p:=(⟨.own FN bS.l.length [],l7⟩:J Int)) (i:=jP.bK.toNat) (x:=l7.getD jP.bK.toNat 0+q) bI a1U;apply wC∘fH∘aOU;refine aG (qK O ((⟨.own FN bS.l.length [],l7.set jP.bK.toNat (l7.getD jP.bK.toNat 0+q)⟩:J Int)) rfl rfl rfl c0 bC bI bC aE) ?_;apply S2∘aOU;refine i4 (jL O ((⟨.own FN bS.l.length [],l7.set jP.bK.toNat (l7.getD jP.bK.toNat 0+q)⟩:J Int)) ((l7.set jP.bK.toNat (l7.getD jP.bK.toNat 0+q)).getD jP.to.toNat 0-q) rfl rfl rfl rfl c0 bC bI bC bH aE aE) ?_;rintro v E G ⟨rfl,rfl⟩;apply(ZZ);exact dU ⟨(Vn,aG4-1,⟨a7R,_⟩,⟨aG6,_⟩,Z8 l7 jP q),a1D,⟨a1N,a7c,J.p4 (p:=(⟨.own FN bS.l.length [],l7.set jP.bK.toNat (l7.getD jP.bK.toNat 0+q)⟩:J Int)) bI bD3⟩,hR.next D nW hq i1⟩
   refine lC (lB (tT (lA ?_)));exact nZ ⟨(bFC,fN,Z,l7),aFh,⟨Bd,XX,a1U⟩,aG4,hR⟩
  refine dK ?_;exact VV ⟨(Pn,J.nil,J.nil,List.replicate bS.l.length 0),RF,⟨J.g6,J.g6,Sy bI Qn⟩,0,NV.zero D⟩ kG bP (by dsimp only;rw[lT,lT];exact a2) fF
 rintro⟨⟨bFD,fN,Z,l7⟩,aS8,⟨Bd,XX,a1U⟩,aG4,hR⟩ bZ;try dsimp only
 dsimp only at aS8 Bd XX a1U hR;apply A7∘mM;refine c7 [(0,.pointer _),(2,.pointer _),(3,.pointer _),(4,.pointer _),(5,.pointer _),(6,.int _ _),(8,.int _ _),(9,.pointer _),(11,.slice _ _ _),(16,.int _ _)] bP λWh=>?_;have Ud:=hR.len;have aDH:=hR.m;refine kO ([16,17,18]++b4 137 40) ((⟨λg=>[(16,.int .i64 ((g.1.2.1:Nat):Int))],λg=>(⟨.own FN bS.l.length [],l7⟩:J Int).L 3 aL++(⟨h8,[(⟨.own xM bS.l.length [],fV⟩:J Int).val,g.1.2.2.2.val],82⟩::((⟨.own xM bS.l.length [],fV⟩:J Int).L 3 aL++(eT c x g.1.1::⟨eH,[bS.val,g.1.2.2.1.val,.slice none 0 0,.slice none 0 0],32⟩::(bS.L 159 kR.cells++(⟨cT,[.slice none 0 0,.slice none 0 0],82⟩::⟨dG,[.slice none 0 0,.slice none 0 0],80⟩::⟨cS,[.slice none 0 0,.slice none 0 0,.slice none 0 0,.slice none 0 0],32⟩::(g.1.2.2.1.L 157 eL.cells++(g.1.2.2.2.L 3 aL++[]))))))),λ_=>R,λg=>bS.l.length-g.1.2.1⟩:dV {g:Nat×Nat×J eL×J Int//g.1<=x.l.length/\(U5.l.length<=g.2.1/\g.2.1<=bS.l.length)/\(g.2.2.1.ok 10 eL.cells/\g.2.2.2.ok 1 aL)/\Rx U5.l.length bS.l.length g.2.1 l7 g.2.2.1.l g.2.2.2.l})) (⟨(bFD,U5.l.length,fN,Z),aS8,⟨g4 _,by dsimp only;omega⟩,⟨Bd,XX⟩,hR.bGG _⟩) ?_;rintro⟨⟨bFE,j,fN,Z⟩,aFi,⟨a64,OW⟩,⟨a7i,a7g⟩,dW⟩ bZ;try dsimp only
 dsimp only at aFi a64 OW a7i a7g dW;apply(TF);apply(W)<;>intro hW;·
  have bBv:=dW.len;have aSs:=dW.aD.len;have bJM:=bJ l7 j 0;have DD:=hR.YK j;refine dK (aZ (a6 (e3 (a6 ?_))));refine gJ O [0,1,2,3,6,7,8,9,10,4,5,11,12,13] (((⟨.own FN bS.l.length [],l7⟩:J Int).L 3 aL++[])) cX bE a2 ?_;apply Vv∘g1∘Vv∘g1;refine a4 oG ?_;apply(g1);refine a4 (h4 O ((⟨.own FN bS.l.length [],l7⟩:J Int)) _ rfl rfl ((show _=Value.slice _ _ _ from rfl).trans (v4 Ud)) rfl bC (i:=j) cW iC) ?_;refine a4 aYx ?_;refine a4 Qw ?_;refine q1 rfl (nA hC K aFi D) rfl rfl ?_;rintro v E G ⟨bKO,aUd,rfl,bI5,bAR,bI6,aFa,rfl,rfl⟩;refine⟨a2,gN,?_⟩;have bI7:=bAR D;refine q1 rfl (aNd hC K aFa) rfl rfl ?_;rintro v E G ⟨EO,aGZ,rfl,yS,a68,rfl,rfl⟩;refine⟨a2,gN,?_⟩;apply(p2);intro I3;apply wX∘LI∘hS;refine cK (WC hC K a68 D) ?_;rintro v E G ⟨b,aUe,rfl,bCX,rfl,rfl⟩;have w4:=yS.bK;have vO:=yS.to;have a6G:ZE bS.l.length EO:=⟨⟨by omega,by omega,yS.aB⟩,by omega,yS.len,yS.n7⟩;apply(b3);refine v2 ([18]++b4 155 8) ((⟨λg=>[(18,.int .i64 g.1.2)],λg=>⟨I3,g.1.1.cells,157⟩::((⟨.own FN bS.l.length [],l7⟩:J Int).L 3 aL++(⟨h8,[(⟨.own xM bS.l.length [],fV⟩:J Int).val,Z.val],82⟩::((⟨.own xM bS.l.length [],fV⟩:J Int).L 3 aL++(eT c x aUe::⟨eH,[bS.val,fN.val,.slice none 0 0,.slice none 0 0],32⟩::(bS.L 159 kR.cells++(⟨cT,[.slice none 0 0,.slice none 0 0],82⟩::⟨dG,[.slice none 0 0,.slice none 0 0],80⟩::⟨cS,[.slice none 0 0,.slice none 0 0,.slice none 0 0,.slice none 0 0],32⟩::(fN.L 157 eL.cells++(Z.L 3 aL++[])))))))),λ_=>R,λ_=>0⟩:dV {g:eL×Int//ZE bS.l.length g.1/\(-360<=g.2/\g.2<=360)/\g.1.dM=false/\((g.1.bK=(j:Int)/\g.1.to<(U5.l.length:Int)/\g.2= -(l7.getD j 0))\/(g.1.to=(j:Int)/\g.1.bK<(U5.l.length:Int)/\g.2=l7.getD j 0))})) ?_ ?_;·
   skip
   apply(W)<;>intro oO;·apply QW∘gE∘x3∘r7∘r7∘WD;exact nZ ⟨({EO with bK:=EO.to,to:=EO.bK},- -(l7.getD j 0)),⟨⟨a6G.d.to,a6G.d.bK,yS.aB⟩,(λh=>a6G.ne h.symm),yS.len,yS.n7⟩,by dsimp only;omega,yS.dM,.inr ⟨w4,by dsimp only;omega,by dsimp only;omega⟩⟩
   refine dK ?_;exact nZ ⟨(EO,-(l7.getD j 0)),a6G,by dsimp only;omega,yS.dM,.inl ⟨w4,by dsimp only;omega,rfl⟩⟩
  rintro⟨⟨jP,q⟩,nW,hq,i1,Nt⟩ bZ;try dsimp only
  dsimp only at nW hq i1 Nt;refine Dt O [] [0,1,2,3,6,7,8,4,5,9,10,11,12] [13,14,15] ([a5.mk I3 _ _,a5.mk h8 _ _,a5.mk eH _ _]) [] 13 cX bE rfl rfl a2 λI7=>?_;refine kN 0 I7 dT rfl sM ?_;refine kN 1 I7 dT rfl sM ?_;refine kN 2 I7 dT rfl E1 ?_;refine kN 3 I7 dT rfl a9c ?_;refine kN 6 I7 dT rfl sM ?_;refine kN 7 I7 dT rfl E1 ?_;refine kN 8 I7 dT rfl zV ?_;refine kI [4,9] I7 dT bE ?_;refine o1 ?_ ?_;·
   skip
   apply(a8b);rintro v E G ⟨bAe,rfl,rfl,Mh⟩;replace Mh:=Mh.symm;subst Mh;apply(fS);refine kI [5,9] I7 dT bE ?_;refine o1 ?_ ?_;·
    skip
    apply(aNS);rintro v E G ⟨aUv,rfl,aTr,rfl,rfl⟩;apply(fS);refine kI [9] I7 dT bE ?_;apply kU∘In;rintro v E G ⟨aRN,rfl,rfl,T6⟩;replace T6:=T6.symm;subst T6;exact b0r
   apply kU∘In;rintro v E G ⟨aRN,rfl,rfl,T6⟩;replace T6:=T6.symm;subst T6;exact aYF
  apply kU∘In;rintro v E G ⟨aRN,rfl,rfl,T6⟩;replace T6:=T6.symm;subst T6;apply(fS);refine kI [4] I7 dT bE ?_;apply kU∘a8b;rintro v E G ⟨bAe,rfl,rfl,Mh⟩;replace Mh:=Mh.symm;subst Mh;exact aYF
 obtain rfl:j=bS.l.length:=by omega
 have bBv:=dW.len;have aSs:=dW.aD.len;have aF5:=KY.len;apply oD∘hS;refine cK (aI.Cs (.wE (.tE (.wE (.MM (.MM (.wE (.tE (.tE (.tE (.wE (.wE .nil))))))))))) (b82 c eH x bFE fN.l.length fN.o.cap bS.val fN.o.oM R K aFi D)) ?_;rintro v E G ⟨L4,rfl,a3,aX,mH,m6,bKA,S,rfl,⟨aTi,aTj,aTk,aTl⟩,a6F,a6E,a61,a60,bCY,rfl,rfl⟩;simp only[mQ,oF,m0];have US:jK x (S++R):=K.mono λr h=>aM (by simp[h]);have aSi:=a6F.m;have bJc:=a6E.m;have T2:=a6F.len;have bJb:=a6E.len;apply(dA);intro KQ;apply rP∘hS∘oC∘oC;refine cK (b1I (n:=fN.l.length) (bY:=(⟨.own xM bS.l.length [],fV⟩:J Int)) ⟨bS.U,fN.U⟩ (.tE (.wE (.tE (.wE (.wE (.tE (.tE (.tE (.aRK (.wE (.MM (.MM (.wE (.wE (.wE (.wE .nil)))))))))))))))) x8 x8 x8 x8 x8 x8 aTi aTj aTk aTl a7h a7g (λf hf=>(a61 f hf).mono λr M=>aM EZ) (λd hd=>(a60 d hd).mono λr M=>aM EZ) US bCY a7i a6F a6E aSs.symm D dW.aD.dB (λi p hp=>(KY.val i p hp).1) (λi r M=>by dsimp only;rw[aF5];exact(dW.aD.b9 i r M).d)) ?_;rintro v E G ⟨VB,bKB,rfl,a1a,bCZ,rfl,rfl⟩;simp only[mQ,oF,m0];have bEI:fN.val=(⟨fN.o,VB⟩:J eL).val:=by simp only[J.val,a1a.len]
 apply(jW);rw[bEI];refine hF O [188] [0,1,2,3,5,4] [6,7,8] ([a5.mk KQ _ _,a5.mk h8 _ _,a5.mk eH _ _]) _ cX bE a2 b0T ?_;apply a2x∘DK∘a2x;refine eO R9 ?_;refine m5 R9 ?_;refine k2 rfl (b33 (a:=⟨⟨bS.U,(⟨fN.o,VB⟩:J eL).U⟩,a3.U,aX.U⟩) (.tE (.wE (.tE (.wE (.wE (.tE (.tE (.tE (.wE (.wE (.wE (.wE (.wE (.MM (.tE (.wE .nil)))))))))))))))) x8 x8 aTk aTl US bCZ D D) rfl rfl ?_;rintro v E G ⟨pM,qF,aUf,rfl,⟨aTT,a16⟩,Au,bCo,bC0,rfl,rfl⟩;simp only[mQ,oF,m0];refine⟨a2,gN,?_⟩;apply(x1);iterate 3 apply(sE)
 refine gS (aZ (iT ?_));refine bN (E9.L ⟨bS,⟨fN.o,VB⟩,a3,aX,pM,qF,(⟨.own xM bS.l.length [],fV⟩:J Int),Z⟩ (eT c x aUf)) (S++R) (a0d rfl aIQ Df Df) ?_;have Ak:=b65 (a:=E9.a ⟨bS,⟨fN.o,VB⟩,a3,aX,pM,qF,(⟨.own xM bS.l.length [],fV⟩:J Int),Z⟩) (s:=⟨mH.U,m6.U⟩) (t:=E9.t ⟨bS,⟨fN.o,VB⟩,a3,aX,pM,qF,(⟨.own xM bS.l.length [],fV⟩:J Int),Z⟩) (x:=E9.x ⟨bS,⟨fN.o,VB⟩,a3,aX,pM,qF,(⟨.own xM bS.l.length [],fV⟩:J Int),Z⟩) i0 KY dW a6F a6E ⟨a1a.len,a1a.done,a1a.DM⟩ Au bCo;exact⟨⟨bS,⟨fN.o,VB⟩,a3,aX,pM,qF,(⟨.own xM bS.l.length [],fV⟩:J Int),Z⟩,aUf,S,rfl,⟨hok,J.oZ bI a7i a1a.len,aTi,aTj,aTT,a16,a7h,a7g⟩,Ak,a61,a60,bC0,rfl,rfl⟩
abbrev ZO(y:a0 Int):a0 Int:=⟨y.a,y.cap,y.l.take 300⟩
def aOa(y:a0 Int)(L:aP)(R:aJ)(aN:jK y R):
 aI prog 14 [y.val].toArray L R (λv E G=>∃c,v=.pointer (some ⟨c,0,none⟩)/\jK (ZO y) G/\eT c (ZO y) 0::L=E/\hA (ZO y)::R=G):=by have oA:=aN.fI;refine J2 call14 oA λbKi=>?_;refine bW 10 call14 func14 ?_;apply cO∘U9∘jW;refine a0t 300 oA ?_;apply wC∘nO;refine aG NR ?_;refine aG (a0w O rfl rfl rfl rfl (n:=(y.l.take 300).length) (by rw[Cx];omega) (by rw[Cx];omega)) ?_;apply aBE∘iU;intro h8;apply U9∘F5;refine bN (eT h8 (ZO y) 0::L) (hA (ZO y)::R) (pG rfl (Dp VH)) ?_;exact⟨h8,rfl,⟨aM fX,λi b hb=>by rw[Cw]at hb;split at hb;exact aN.a6q i b hb;cases hb⟩,rfl,rfl⟩
def b2O{c:Nat}{x:a0 Int}{k:Nat}{L B:aP}{R:aJ}(c4:y8 L B [eT c x k])(K:jK x R)(hk:k<=x.l.length):
 aI prog 39 [.pointer (some ⟨c,0,none⟩)].toArray L R
  (λv E G=>∃(m:E9) (b5:Nat) (S:aJ),v=.tuple #[m.a.val,m.t.val,m.x.val]/\m.Zj/\N0 m.a m.t m.x/\(∀f∈m.a3.l,aH f.fI S)/\(∀d∈m.aX.l,aH d.fI S)/\b5<=x.l.length/\B++m.L (eT c x b5)=E/\S++R=G):=
 (aI.Cs c4 (b7k c x k R K hk)).mono λv iM G ⟨E,e,m,b5,S,N,V,aQ,b7,eG,gF,iF,KX⟩=>⟨m,b5,S,N,V,aQ,b7,eG,gF,by rw[iF];exact e,KX⟩
def Kx:a4K prog 90:=
 b2x (I:=3) bE bE bE bE bE
def IY{a:bR}{R G:aJ}(h:nT a R)(k:∀r∈R,aH r G):nT a G:=⟨h.places.mono k,h.aD.mono k,h.a3.mono k,h.aX.mono k⟩
def PV{s:cE}{R G:aJ}(h:o2 s R)(k:∀r∈R,aH r G):o2 s G:=⟨h.a3.mono k,h.aX.mono k⟩
end Go.Proofs.YtchfclmokpbldaaGreat
namespace Go.Proofs.YtchfclmokpbldaaGreat
open Go.Aw Go Go.Proofs.Tryz
section
open Go.ChangeShapes Go.WideShapes Go.ChangeAt Go.RowKit
def b8X:ownKnob prog.godebug=none:=by kernel_rfl
def b4B:laidOutB prog=true:=by kernel_rfl
abbrev Rp(jX:World):Nat->Prop:=λb=>b<jX.heap.size
def b3b{jX:World}{R:aJ}(h:∀r∈R,tW jX (Rp jX) r):tS [] (Rp jX) R jX:=
 ⟨Qh,(λe X=>by cases X),(λe X=>by cases X),(λ_ h=>h),h⟩
def b9s{jX CH:World}{aC:Nat->Prop}{E:aP}{G:aJ}(h:dL ⟨jX,zP [],aC⟩ E G CH):Below jX.heap.size jX CH:=
 ⟨h.JI.os,h.JI.tape,h.JI.output,h.JI.size,λk hk=>h.JI.block k hk (λ⟨e,X,_⟩=>by cases X)⟩
def b1z{n:Int}(h:(Lit.int .u8 n).wf=true):0<=n/\n<=255:=by simp only[Lit.wf,oS,decide_eq_true_eq]at h;exact h
def b8Z{jX:World}{a:Addr}{v:Value}(h:jX.cell? a=some v):a.block<jX.heap.size:=by
 rcases gY a.block jX.heap.size with cN|cN;·exact cN
 ·unfold World.cell? at h;rw[LL cN]at h;simp at h
def QC(P:Program)(w:World)(t:TypeId)(cs:List Value):Prop:=∃(H:Type) (enc:TypeId×Value->H) (h0:Nat) (x:DataW H×List MemPlace),DataW.trod enc P w 0 (λ_=>true) true h0 t cs=some x
def Eg(P:Program)(t:TypeId){aV:Type}(f:aV->List Value)(eQ:aV->aJ)(ok:aV->Prop):Prop:=
 ∀(w:World) (cs:List Value),QC P w t cs->∃a:aV,cs=f a/\ok a/\∀s∈eQ a,tW w (Rp w) s
def b5g{P:Program}{t:TypeId}{k:IntKind}(dS:P.underlying t=some (.int k)):Eg P t (λn=>[.int k n]) (λ_=>[]) (λn=>(Lit.int k n).wf=true):=by rintro w cs ⟨H,enc,h0,x,K⟩;obtain⟨n,rfl,_,cV⟩:=DataW.trod_int dS K;exact⟨n,rfl,cV,λ_ h=>by cases h⟩
def b2a{P:Program}{t e:TypeId}{aR:Nat}{aV:Type}{f:aV->List Value}{eQ:aV->aJ}{ok:aV->Prop}(dS:P.underlying t=some (.slice e))(hc:P.cellsOf e=aR)(cV:0<aR)(hf:∀a,(f a).length=aR)(X:Eg P e f eQ ok):
 Eg P t (λx:a0 aV=>[x.val]) (λx=>[x.fI aR f (x.l.flatMap eQ)]) (λx=>∀a∈x.l,ok a):=by
 rintro w cs ⟨H,enc,h0,x,K⟩;rcases DataW.trod_slice dS K with⟨rfl,_⟩|⟨a,len,cap,elems,aB,n,_,rfl,_,_,hl,hm,rU,bCw,_,_⟩;·exact⟨⟨none,0,[]⟩,rfl,(λ_ h=>by cases h),λs hs=>by rw[List.mem_singleton.1 hs];exact aLG⟩
 ·
  have each:∀k,k<=len->∃l:List aV,l.length=k/\(∀(i:Nat) (y:aV),l[i]?=some y->w.cells? 0 (a.add (i*aR)) aR=some (f y))/\(∀y∈l,ok y)/\∀s∈l.flatMap eQ,tW w (Rp w) s:=by
   intro k;induction k with
   |zero=>exact λ_=>⟨[],rfl,(λi y h=>by simp at h),(λ_ h=>by cases h),λ_ h=>by simp at h⟩
   |succ k cM=>
    intro hk;obtain⟨l,N,V,aQ,b7⟩:=cM D;have hb:=bCw k D;rw[ET D,hc,a2J]at hb;obtain⟨cs,rS,aN⟩:=hb;obtain⟨y,rfl,hok,l6⟩:=X w cs ⟨H,enc,n,_,aN⟩;refine⟨l++[y],by simp[N],λi z aA=>?_,λz eC=>?_,λs hs=>?_⟩;·
     rcases gY i l.length with jH|aE4;·rw[HU jH]at aA;exact V i z aA
     ·rw[NM aE4]at aA;obtain⟨eG,gF⟩:=List.getElem?_eq_some_iff.1 aA;simp at eG;(obtain rfl:i=k:=by omega);simp at gF;rw[<-gF];exact rS
    ·
     rcases List.mem_append.1 eC with h|h;·exact aQ z h
     ·rw[List.mem_singleton.1 h];exact hok
    ·
     rw[aH3]at hs;rcases List.mem_append.1 hs with h|h;·exact b7 s h
     ·exact l6 s Xu
  obtain⟨l,N,V,aQ,b7⟩:=each len (g4 _);refine⟨⟨some a,cap,l⟩,by rw[<-N],aQ,λs hs=>?_⟩;rw[List.mem_singleton.1 hs];refine .mk fX (by rw[N];exact hl) (by simp only[maxLen]at hm;show cap<_;omega) (λr M=>by obtain⟨y,_,rfl⟩:=List.mem_map.1 M;exact hf y) ?_ b7;rcases a8y len with bQ|bQ;·
   left;cases l with
   |nil=>rfl
   |cons y l=>simp at N;omega
  ·right;(have cell:∀(i j:Nat) (y:aV),l[i]?=some y->j<aR->w.cell? ((a.add (i*aR)).add j)=(f y)[j]?:=λi j y aA aY=>by obtain⟨_,iF,KX⟩:=World.cells?_some (V i y aA);exact KX j D);obtain⟨VC,a2g⟩:=mP l 0;obtain⟨a2F,a7w⟩:=IA (l:=f VC) (k:=0) (by rw[hf];omega);have aO:=cell 0 0 VC a2g cV;rw[a7w]at aO;obtain⟨b,off,spot⟩:=a;(have bER:spot=none:=by simpa[Addr.add]using World.cell?_spot aO);subst bER;refine⟨b,off,rfl,b8Z (a:=⟨b,off,none⟩) (v:=a2F) (by simpa[Addr.add]using aO),λi j aA aY=>?_⟩;obtain⟨y,aN⟩:=IA (l:=l) (k:=i) aA;have:=cell i j y aN aY;rw[Et,Et]at this;rw[this,pF,aN];rfl
def Eg.conv{P:Program}{t:TypeId}{aV:Type}{f:aV->List Value}{eQ aVk:aV->aJ}{ok O6:aV->Prop}(h:Eg P t f eQ ok)(hs:∀a,aVk a=eQ a)(ho:∀a,ok a->O6 a):Eg P t f aVk O6:=λw cs M=>by
 obtain⟨a,N,V,aQ⟩:=h w cs M
 exact⟨a,N,ho a V,by rw[hs a];exact aQ⟩
def b2m{aV:Type}(l:List aV):l.flatMap (λ_=>([]:aJ))=[]:=by induction l<;>simp_all
def b26:Eg prog 5 (λn:Int=>[.int .u8 n]) (λ_=>[]) (λn=>(Lit.int .u8 n).wf=true):=b5g underlying5
def b1P:Eg prog 22 (λx:a0 Int=>[x.val]) (λx=>[hA x]) (λx=>∀n∈x.l,(Lit.int .u8 n).wf=true):=
 (b2a (aR:=1) underlying22 bE bH bI b26).conv (λx=>by rw[b2m];rfl) (λ_ h=>h)
end
def jF(b:Bool):List Value:=[.bool b]
def BI(b:Bool):(jF b).length=1:=rfl
abbrev a9U(x:a0 Bool):fG:=x.fI 1 jF []
def IC(m:hZ)(u v:Nat):Prop:=∃r∈m.aD.l,r.dM=false/\((r.bK=(u:Int)/\r.to=(v:Int))\/(r.bK=(v:Int)/\r.to=(u:Int)))
inductive uR(m:hZ)(u:Nat):Nat->Prop
 |refl:uR m u u
 |tail {v w:Nat} (h:uR m u v) (k:IC m v w):uR m u w
def IC.symm{m:hZ}{u v:Nat}(h:IC m u v):IC m v u:=by
 obtain⟨r,M,hc,N|N⟩:=h;·exact⟨r,M,hc,.inr N⟩
 ·exact⟨r,M,hc,.inl N⟩
def uR.trans{m:hZ}{u v w:Nat}(h:uR m u v)(k:uR m v w):uR m u w:=by
 induction k with
 |refl=>exact h
 |tail _ s cM=>exact cM.tail s
def uR.symm{m:hZ}{u v:Nat}(h:uR m u v):uR m v u:=by
 induction h with
 |refl=>exact .refl
 |tail _ s cM=>exact(uR.refl.tail s.symm).trans cM
def uR.dM{m:hZ}{P:Nat->Prop}(i0:∀u v,P u->IC m u v->P v){u v:Nat}(h:uR m u v)(c4:P u):P v:=by
 induction h with
 |refl=>exact c4
 |tail _ s cM=>exact i0 _ _ cM s
def IC.lt{m:hZ}(hm:QB m){u v:Nat}(h:IC m u v):u<m.places.l.length/\v<m.places.l.length:=by obtain⟨r,M,_,N⟩:=h;obtain⟨i,aA⟩:=List.mem_iff_getElem?.1 M;have kX:=hm.b9 i r aA;have V:=kX.bK;have aQ:=kX.to;rcases N with N|N<;>omega
structure Dm(m:hZ)(seen l:List Bool):Prop where
 len:l.length=seen.length
 M6:∀i:Nat,i<seen.length->(l.getD i false=true↔∃j:Nat,j<seen.length/\seen.getD j false=true/\uR m j i)
def Dm.Iu{m:hZ}{seen l O2:List Bool}(h:Dm m seen l)(cN:Dm m seen O2):l=O2:=by have dY:=h.len;have eY:=cN.len;refine List.ext_getElem D λi N V=>?_;have j5:=h.M6 i D;have kK:=cN.M6 i D;rw[<-kK]at j5;have u1:=iL (l:=l) (k:=i) false N;have q7:=iL (l:=O2) (k:=i) false V;rw[ET N]at u1;rw[ET V]at q7;rw[y2 u1,y2 q7];cases e:l.getD i false<;>cases vM:O2.getD i false<;>simp_all
def J3(m:hZ):List Bool:=m.places.l.map kR.r3
abbrev lS(m:hZ)(l:List Bool):Prop:=Dm m (J3 m) l
structure VR(m:hZ)(seen l:List Bool):Prop where
 len:l.length=seen.length
 sub:∀i:Nat,seen.getD i false=true->l.getD i false=true
 a6r:∀i:Nat,l.getD i false=true->∃j:Nat,j<seen.length/\seen.getD j false=true/\uR m j i
def Yf{l:List Bool}{k i:Nat}{v:Bool}(hk:k<l.length):(l.set k v).getD i false=if i=k then v else l.getD i false:=by exact aHE
def b7l{l:List Bool}{i:Nat}(h:l.getD i false=true):i<l.length:=by
 rcases gY i l.length with cN|cN;·exact cN
 ·rw[iW,sJ cN]at h;cases h
def VR.Cc{m:hZ}{seen:List Bool}:VR m seen seen:=⟨rfl,λ_ h=>h,λi h=>⟨i,b7l h,h,.refl⟩⟩
def VR.next{m:hZ}{seen l:List Bool}(h:VR m seen l){u v:Nat}(hs:IC m u v)(c4:u<l.length)(hv:v<l.length)(iO:l.getD u false≠l.getD v false):VR m seen ((l.set u true).set v true):=by
 have dY:∀i,((l.set u true).set v true).getD i false=if i=v then true else if i=u then true else l.getD i false:=λi=>by rw[Yf (by simpa using hv),Yf c4]
 refine⟨by simp[h.len],λi aA=>?_,λi aA=>?_⟩;·
  rw[dY];split;·rfl
  ·
   split;·rfl
   ·exact h.sub i aA
 ·
  rw[dY]at aA;have bAu:∃j:Nat,j<seen.length/\seen.getD j false=true/\uR m j u/\uR m j v:=by
   cases e:l.getD u false with
   |true=>obtain⟨j,yT,w7,EG⟩:=h.a6r u e;exact⟨j,yT,w7,EG,EG.tail hs⟩
   |false=>
    have eY:l.getD v false=true:=by
     cases nV:l.getD v false with
     |true=>rfl
     |false=>rw[e,nV]at iO;exact absurd rfl iO
    obtain⟨j,yT,w7,EG⟩:=h.a6r v eY;exact⟨j,yT,w7,EG.tail hs.symm,EG⟩
  obtain⟨j,yT,w7,EG,Cd⟩:=bAu;by_cases aS3:i=v;·rw[aS3];exact⟨j,yT,w7,Cd⟩
  ·
   rw[if_neg aS3]at aA;by_cases aS2:i=u;·rw[aS2];exact⟨j,yT,w7,EG⟩
   ·rw[if_neg aS2]at aA;exact h.a6r i aA
def VR.done{m:hZ}{seen l:List Bool}(h:VR m seen l)(M:∀r∈m.aD.l,r.dM=false->l.getD r.bK.toNat false=l.getD r.to.toNat false):Dm m seen l:=by
 refine⟨h.len,λi aA=>⟨h.a6r i,λ⟨j,yT,w7,EG⟩=>?_⟩⟩;refine uR.dM (P:=λx=>l.getD x false=true) (λu v c4 hs=>?_) EG (h.sub j w7);obtain⟨r,RI,hc,N|N⟩:=hs;·have:=M r RI hc;rw[N.1,N.2,vY,vY]at this;rw[<-this];exact c4
 ·have:=M r RI hc;rw[N.1,N.2,vY,vY]at this;rw[this];exact c4
def KF(l:List Bool):Nat:=l.countP (λb=>!b)
def aJ0{l:List Bool}{i:Nat}(aA:i<l.length)(h:l.getD i false=false):KF (l.set i true)+1=KF l:=by
 unfold KF;have hg:l[i]=false:=by have:=iL (l:=l) (k:=i) false aA;rw[ET aA,h]at this;exact y2 this
 rw[List.countP_set aA,hg];have:0<List.countP (λb=>!b) l:=List.countP_pos_iff.2 ⟨l[i],aIf aA,by rw[hg];rfl⟩;simp;omega
def aPC{l:List Bool}{i:Nat}(aA:i<l.length):KF (l.set i true)<=KF l:=by
 unfold KF;rw[List.countP_set aA];cases hg:l[i]with
 |true=>simp
 |false=>simp
def b18{l:List Bool}{u v:Nat}(c4:u<l.length)(hv:v<l.length)(iO:l.getD u false≠l.getD v false):KF ((l.set u true).set v true)<KF l:=by
 cases e:l.getD u false with
 |false=>have N:=aJ0 c4 e;have V:=aPC (l:=l.set u true) (i:=v) (by simpa using hv);omega
 |true=>
  have eY:l.getD v false=false:=by
   cases nV:l.getD v false with
   |false=>rfl
   |true=>rw[e,nV]at iO;exact absurd rfl iO
  have bE2:v≠u:=λh=>by rw[h,e]at eY;cases eY
  have N:=aPC (l:=l) (i:=u) c4;have V:=aJ0 (l:=l.set u true) (i:=v) (by simpa using hv) (by rw[Yf c4,if_neg bE2];exact eY);omega
structure b7f where
 b9:Int
 bK:Int
 to:Int
 deriving DecidableEq,Inhabited
section
variable{m:hZ}{l:List b7f}{w:Int}{seen cU:List Bool}
end
end Go.Proofs.YtchfclmokpbldaaGreat
/-
  Fits: FlowS, FlowM, FitsF, Copy, Mades, Wide, in one text. By an AI agent; no person has read it.
-/
namespace Go.Proofs.YtchfclmokpbldaaGreat
open Go.Aw Go Go.Proofs.Tryz
structure b4C(f:Int->a9)(p z:Int):Prop where
 vK:-1048577<=z/\z<=1048576
 le:∀x,-1048577<x->x<=z->(f x).bO<=p
 gt:∀x,z<x->x<=1048576->p<(f x).bO
structure b1k(f:Int->a9)(p z:Int):Prop where
 vK:-1048576<=z/\z<=1048577
 lt:∀x,-1048576<=x->x<z->(f x).bG<p
 ge:∀x,z<=x->x<1048577->p<=(f x).bG
def aCZ{a:bR}{s:cE}(ha:rH a){r:Int}(M:0<=r/\r<a.Y.aD.l.length)(p:Int):b4C (lU a s r) p (tB (lU a s r) p):=by obtain⟨j5,kK,lV,q5⟩:=aBg (fV:=p) (b7A (s:=s) ha M) _ (-1048577) 1048576 rfl D D D;exact⟨⟨j5,kK⟩,lV,q5⟩
def aBv{a:bR}{s:cE}(ha:rH a){r:Int}(M:0<=r/\r<a.Y.aD.l.length)(p:Int):b1k (lU a s r) p (s8 (lU a s r) p):=by obtain⟨j5,kK,lV,q5⟩:=aAV (fV:=p) (b5V (s:=s) ha M) _ (-1048576) 1048577 rfl D D D;exact⟨⟨j5,kK⟩,lV,q5⟩
def b8Q{a:bR}{s:cE}(ha:rH a){r:Int}(M:0<=r/\r<a.Y.aD.l.length){p O7:Int}(hp:p<=O7):tB (lU a s r) p<=tB (lU a s r) O7:=by
 have N:=aCZ (s:=s) ha M p;have V:=aCZ (s:=s) ha M O7;generalize tB (lU a s r) p=l at*;generalize tB (lU a s r) O7=h at*;rcases JT h l with jH|HJ;·have gK:=N.vK;have cS:=V.vK;have eU:=V.gt l jH D;have eE:=N.le l D (oE _);omega
 ·exact HJ
def b4o{a:bR}{s:cE}(ha:rH a){r:Int}(M:0<=r/\r<a.Y.aD.l.length){p O7:Int}(hp:p<=O7):s8 (lU a s r) p<=s8 (lU a s r) O7:=by
 have N:=aBv (s:=s) ha M p;have V:=aBv (s:=s) ha M O7;generalize s8 (lU a s r) p=l at*;generalize s8 (lU a s r) O7=h at*;rcases JT h l with jH|HJ;·have gK:=N.vK;have cS:=V.vK;have eU:=N.lt h D jH;have eE:=V.ge h (oE _) D;omega
 ·exact HJ
structure b1j(a:bR)(s:cE)(x:q2):Prop where
 aU5:x.bY.l.length=a.Y.places.l.length
 bIY:x.g8.l.length=a.Y.aD.l.length
 bY:∀p∈x.bY.l,-70368744177664<=p/\p<=70368744177664
 dB:∀q∈x.g8.l,-1048576<=q/\q<=1048576
 b9:∀i,i<a.Y.aD.l.length->SD a s x i=none
 a2u:∀i,i<a.Y.places.l.length->TT a x (KG a x x.g8.l.length) i=none
def aA4{a:bR}{s:cE}{x:q2}(bQ:hO a=0)(N:lL a s=true)(h:Es a s x=0):b1j a s x:=by
 by_cases hl:x.bY.l.length≠a.Y.places.l.length\/x.g8.l.length≠a.Y.aD.l.length;·rw[Es,if_neg (by simp[bQ]),if_neg (by simp[N]),if_pos hl]at h;cases h
 ·
  rw[aAA bQ N hl]at h;have hp:x.bY.l.findSome? rK=none:=by
   cases e:x.bY.l.findSome? rK with
   |none=>rfl
   |some v=>rw[e]at h;obtain⟨p,_,hp⟩:=PI e;unfold rK at hp;exact a2D
  rw[hp]at h;dsimp only at h;have hq:x.g8.l.findSome? Dx=none:=by
   cases e:x.g8.l.findSome? Dx with
   |none=>rfl
   |some v=>rw[e]at h;obtain⟨p,_,hp⟩:=PI e;unfold Dx at hp;exact a2D
  rw[hq]at h;dsimp only at h;have M:(List.range x.g8.l.length).findSome? (SD a s x)=none:=by
   cases e:(List.range x.g8.l.length).findSome? (SD a s x)with
   |none=>rfl
   |some v=>rw[e]at h;obtain⟨p,_,hp⟩:=PI e;unfold SD at hp;dsimp only at hp;exact a2D
  rw[M]at h;dsimp only at h;have hk:(List.range x.bY.l.length).findSome? (TT a x (KG a x x.g8.l.length))=none:=by
   cases e:(List.range x.bY.l.length).findSome? (TT a x (KG a x x.g8.l.length))with
   |none=>rfl
   |some v=>rw[e]at h;obtain⟨p,_,hp⟩:=PI e;unfold TT at hp;exact a2D
  refine⟨by omega,by omega,λp hm=>?_,λq hm=>?_,λi aA=>?_,λi aA=>?_⟩;·have:=List.findSome?_eq_none_iff.1 hp p hm;unfold rK at this;exact Qa
  ·have:=List.findSome?_eq_none_iff.1 hq q hm;unfold Dx at this;exact Qa
  ·exact List.findSome?_eq_none_iff.1 M i (List.mem_range.2 D)
  ·exact List.findSome?_eq_none_iff.1 hk i (List.mem_range.2 D)
end Go.Proofs.YtchfclmokpbldaaGreat
namespace Go.Aw
open Go
def aKZ{P:Program}(w:World)(t ty e:TypeId)(i:TypeInfo)(dS:P.underlying t=some (.slice e))(aA:P.info? e=some i)(j6:Option Addr)(c:Nat):
 (Builtin.append_ #[t,t] ty #[.slice none 0 0,.slice j6 0 c]).run P w=.ok (.slice none 0 0) w:=by
 cases j6 with
 |none=>simp[Builtin.append_,run_underlying dS,sizeOf,typeInfo,aA,Builtin.lenOf,run_firstCells_none,Builtin.firstCells]
 |some a=>have hf:=run_firstCells_some (P:=P) w i.size 0 a 0 c [] fX fX;simp[Builtin.append_,run_underlying dS,sizeOf,typeInfo,aA,Builtin.lenOf,hf]
section
variable{P:Program}{bA:Operand->Value}{L:aP}{R:aJ}{dst:Option Tmp}{ty:TypeId}{pos:String}{after:Array Edge}{guard:Option (Nat×Bool)}(O:pP P){T:TypeId}{x y:Operand}
def b4s{jD:TypeId}{a b:Bool}{sC iA gK lY}(dN:hT O.g2 T=some ⟨.bool,sC,iA,gK,lY⟩)(K:bA x=.bool a)(aN:bA y=.bool b):cJ P ⟨dst,.binOp .neq T x y jD,ty,pos,after,guard⟩ bA L R (.bool (decide (¬a=b))):=λ_ _ _=>by
 have hb:=λw=>run_equal_bool (P:=P) w T a b (b8D (O.ok _ _ dN) rfl)
 simp[execOp,K,aN,eqGuard,binOp,hb]
 cases a<;>cases b<;>rfl
def tV{aV:Type}{e n Z g5 z eE fL qR nC iX}{f:aV->List Value}{xs:a0 aV}{eQ:aJ}(dN:hT O.g2 T=some ⟨.slice e,n,Z,g5,z⟩)(c1:hT O.g2 e=some ⟨eE,fL,qR,nC,iX⟩)(zM:iX.length=fL)(bQ:0<fL)
 (K:bA x=.slice none 0 0) (aN:bA y=xs.val) (bD:aH (xs.fI fL f eQ) R) (N:∀a,(f a).all (·.oneCell')=true) (MR:xs.l.length*(nC+1)<=140737488355328):
 eD P ⟨dst,.call ⟨.builtin .append,#[x,y],#[T,T]⟩,ty,pos,after,guard⟩ bA L R (λv E G=>∃o:gZ,v=(⟨o,xs.l⟩:J aV).val/\(⟨o,xs.l⟩:J aV).ok fL f/\(⟨o,xs.l⟩:J aV).L e f++L=E/\R=G):=by
 intro c w cI a next Q hB
 obtain⟨j6,cap,l⟩:=xs;cases l with
 |nil=>
  have c4:=QX (O.ok _ _ dN) rfl;obtain⟨jB,u,qJ,UV,Pl,Cb,Vm⟩:=MA (O.ok _ _ c1);have dY:execOp bA ⟨dst,.call ⟨.builtin .append,#[x,y],#[T,T]⟩,ty,pos,after,guard⟩=(do pure (.value (<-Builtin.append_ #[T,T] ty #[bA x,bA y]))):=by exact a8o
  have M:=aKZ w T ty e jB c4 UV j6 cap;refine TQ (w':=w) (v:=.slice none 0 0) ?_ (hB _ _ _ w ⟨.nil,rfl,⟨rfl,rfl⟩,rfl,rfl⟩ cI);rw[dY,K,aN];simp only[a0.val,EV,y5,M,wO,NL]
 |cons x6 l=>
  have cV:∀r∈(x6::l).map f,r.length=fL:=by
   have rA:=cI;obtain⟨⟨aC,bX,_⟩,_,_⟩:=rA;obtain⟨r,M,l6⟩:=bD;have HK:=(bX.p3 r M).sub l6;cases HK with
   |mk _ _ _ cV _ _=>exact cV
  have vN:((x6::l).map f).flatten=(x6::l).flatMap f:=a5l _;have fW:((x6::l).map f).flatten.length=(x6::l).length*fL:=by
   have:∀rows:List (List Value),(∀r∈rows,r.length=fL)->rows.flatten.length=rows.length*fL:=by
    intro rows;induction rows with
    |nil=>intro _;simp
    |cons r rows cM=>intro h;rw[aIc,iD,cM λr M=>h r EZ,h r fX,sK,PK];omega
   rw[this _ cV,uQ]
  have hs:=aMd (L:=L) bD bQ (λc w cI=>by
   obtain⟨⟨aC,bX,_⟩,_,_⟩:=cI;obtain⟨r,M,l6⟩:=bD;have HK:=(bX.p3 r M).sub l6;cases HK with
   |mk _ _ _ _ hm _=>
    rcases hm with h|⟨b,off,ha,_⟩;·simp at h
    ·exact⟨b,off,ha⟩) fW ⟨c,w,cI⟩
  have yQ:(x6::l).length*nC<=140737488355328:=GB (a8v _ (Nat.le_succ _)) MR;have AJ:(x6::l).length<=140737488355328:=GB (a8M _ (a8R _)) MR;have RJ:Fm L R (bA y) (x6::l).length fL ((x6::l).map f).flatten:=by rw[aN];exact hs
  have sB:(((x6::l).map f).flatten).all (·.oneCell')=true:=by rw[List.all_eq_true];intro v hv;obtain⟨r,M,hv⟩:=List.mem_flatten.1 hv;obtain⟨a,_,rfl⟩:=List.mem_map.1 M;exact List.all_eq_true.1 (N a) v hv
  have:=a43 (dst:=dst) (ty:=ty) (pos:=pos) (after:=after) (guard:=guard) (s:=.nil) (xs:=[]) (len:=0) (L:=L) (f:=λz6=>z6++L) O dN c1 zM K ⟨rfl,rfl⟩ J4.mW RJ fX sB D (by rw[PJ];exact yQ);refine this c w cI a next Q ?_
  rintro v E G w' ⟨g,a0O,spare,rfl,FZ,rfl,rfl⟩ rA;rw[m0,vN,PJ]at FZ;refine hB _ _ _ w' ⟨.own g a0O spare,?_,FZ,?_,rfl⟩ rA;·rw[PJ];rfl
  ·rw[m0,vN];rfl
end
def lD.bFI{ws:List Nat}{k0 t:Nat->Value}{d:Nat}{v:Value}(hd:AA d ws=true)(h:lD ws k0 t):lD ws (Aw.j1 k0 d v) t:=λk hk=>by
 rw[h k hk]
 exact((lD.j1 hd (lD.refl (ws:=ws) (t:=k0))) k hk).symm
def aI.cast{P:Program}{f:FuncId}{args aRL:Array Value}{L:aP}{R:aJ}{Post:oY}(h:aI P f args L R Post)(e:args=aRL):aI P f aRL L R Post:=e▸h
def Sc{P:Program}{bA:Operand->Value}{L:aP}{R:aJ}{dst:Option Tmp}{ty:TypeId}{pos:String}{after:Array Edge}{guard:Option (Nat×Bool)}{aDi:Operand}{xs:List Operand}{rG:Array TypeId}{f:FuncId}{cap:Array Value}{args:List Value}{Post:oY}
 (hc:bA aDi=.func (.func f) #[] cap) (ha:xs.map bA++cap.toList=args) (h:aI P f args.toArray L R Post):eD P ⟨dst,.call ⟨.value aDi,xs.toArray,rG⟩,ty,pos,after,guard⟩ bA L R Post:=by
 intro x w hs a next Q k
 have aEB:#[]++xs.toArray.map bA++cap=args.toArray:=by rw[<-ha];simp
 have Bm:(execOp bA ⟨dst,.call ⟨.value aDi,xs.toArray,rG⟩,ty,pos,after,guard⟩).run P w=.ok (.enter f args.toArray) w:=by have N:=h.1 args.toArray w;simp only[execOp,resolve,hc,Deferred.ofValue];simp only[Array.empty_append]at aEB;simp only[invoke,y5,NL,wO,Array.empty_append,aEB];exact N
 exact aWy
def a4R{P:Program}{bA:Operand->Value}{L:aP}{R:aJ}{dst:Option Tmp}{ty:TypeId}{pos:String}{after:Array Edge}{guard:Option (Nat×Bool)}{fn:Fn}{cs:List Operand}{vs:List Value}(hv:cs.map bA=vs):
 cJ P ⟨dst,.makeFunc fn #[] cs.toArray,ty,pos,after,guard⟩ bA L R (.func fn #[] vs.toArray):=λ_ w _=>by
 subst hv
 simp[execOp,Instr.makeFunc]
section
variable{P:Program}{n:Nat}{all:Array Oper}{op:Op}{ty:TypeId}{pos:String}{after:Array Edge}{aB:List Oper}{t:Nat->Value}{L:aP}{R:aJ}{Q:gA}{d:Tmp}{v:Value}{g:Option (Nat×Bool)}
def a9T{ops:List Oper}{E:aP}(h:L=E)(k:c6 P n all ops t E R Q):c6 P n all ops t L R Q:=h▸k
def b67(hv:cJ P ⟨some d,op,ty,pos,after,g⟩ (h9 t) L R v)(cV:oH all t g=true)(hd:Nat.blt d n=true)(h:c6 P n all aB (j1 t d v) L R Q):c6 P n all (⟨some d,op,ty,pos,after,g⟩::aB) t L R Q:=aPs hv cV hd h
def kM(hv:cJ P ⟨some d,op,ty,pos,after,g⟩ (h9 t) L R v)(h:c6 P n all aB (j1 t d v) L R Q)(cV:oH all t g=true:=by exact rfl)(hd:Nat.blt d n=true:=by exact rfl):c6 P n all (⟨some d,op,ty,pos,after,g⟩::aB) t L R Q:=b67 (hv:=hv) (cV:=cV) (hd:=hd) (h:=h)
def Y0{Post:oY}(hg:eD P ⟨some d,op,ty,pos,after,g⟩ (h9 t) L R Post)(cV:oH all t g=true)(hd:Nat.blt d n=true)(h:∀v E G,Post v E G->c6 P n all aB (j1 t d v) E G Q):c6 P n all (⟨some d,op,ty,pos,after,g⟩::aB) t L R Q:=a3P hg cV hd h
def Lp{f:FuncId}{xs:List Operand}{rG:Array TypeId}{args:List Value}{Post:oY}(ha:xs.map (h9 t)=args)(h:aI P f args.toArray L R Post)(cV:oH all t g=true)(hd:Nat.blt d n=true)
 (k:∀v E G,Post v E G->c6 P n all aB (j1 t d v) E G Q):c6 P n all (⟨some d,.call ⟨.value (.func f),xs.toArray,rG⟩,ty,pos,after,g⟩::aB) t L R Q:=
 Y0 (a0A a9b rfl h) cV hd k
def SE(cV:oH all t g=false)(hd:Nat.blt d n=true)(h:c6 P n all aB (j1 t d undef) L R Q):c6 P n all (⟨some d,op,ty,pos,after,g⟩::aB) t L R Q:=b5R cV hd h
end
end Go.Aw
namespace Go.Proofs.YtchfclmokpbldaaGreat
open Go.Aw Go Go.Proofs.Tryz
attribute [local irreducible] cH c6 dP aI cJ eD e9 e0 e1 e5 eS e8 J.L
end Go.Proofs.YtchfclmokpbldaaGreat
