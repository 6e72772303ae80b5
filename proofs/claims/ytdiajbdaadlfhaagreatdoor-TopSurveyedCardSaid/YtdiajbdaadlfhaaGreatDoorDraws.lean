-- By an AI agent; no person has read it.
import Derived.Test.YtdiajbdaadlfhaaGreatDoorFlows
import Derived.Test.YtdiajbdaadlfhaaGreatDoorOwn
set_option linter.all false
set_option maxHeartbeats 4000000
variable{A B:Prop}
def Za(h:A->B:=by exact fE (jF M rfl rfl rfl rfl (i:=(a.a8.l.getD k default).aS.toNat) c7 D) rfl rfl rfl rfl):=h
def a7j(h:A->B:=by exact fE (jF M rfl rfl rfl rfl (i:=k) c7 D) rfl rfl rfl rfl):=h
def a6J(h:A->B:=by exact dN rfl (OW lZ K Y D) rfl):=h
def a7a(h:A->B:=by exact dN rfl (OW lZ K g6 D) rfl):=h
def a6B(h:A->B:=by exact dN rfl (AP lZ K j4 D) rfl):=h
def a7q(h:A->B:=by exact g2 a4z rfl):=h
def a6D(h:A->B:=by exact aA (l7 (hB:=[(0,(Value.slice _ _ _).cells.toList)]) (c9:=[_,_]) M rfl rfl rfl rfl) rfl):=h
def aIG(h:A->B:=by exact m9 rfl (jZ (f:=cR.cells) (p:=fM) (a:=jL) M rfl rfl rfl rfl (WG) cL j8 rfl kG) rfl rfl):=h
def aWV(h:A->B:=by exact m9 rfl (jZ (f:=aR) (p:=fl) (a:=q) M rfl rfl rfl rfl (S2) cL j8 rfl kG) rfl rfl):=h
def aYO(h:A->B:=by exact eU 11 FK b9 aQ rfl rfl rfl rfl rfl kT):=h
def aUM(h:A->B:=by exact eU 12 FK b9 aQ rfl rfl rfl rfl rfl kT):=h
def aJx(h:A->B:=by exact m9 rfl (jZ (f:=cR.cells) (p:=fM) (a:=jL) M rfl rfl rfl rfl (a2H) cL j8 rfl kG) rfl rfl):=h
def aYh(h:A->B:=by exact m9 rfl (jZ (f:=aR) (p:=fl) (a:=q) M rfl rfl rfl rfl (a2F) cL j8 rfl kG) rfl rfl):=h
def aUZ(h:A->B:=by exact eU 11 FL b9 aQ rfl rfl rfl rfl rfl kT):=h
def aUS(h:A->B:=by exact eU 12 FL b9 aQ rfl rfl rfl rfl rfl kT):=h
def aKc(h:A->B:=by exact jV M [] [0,1,2,3,4,5,6,7,8,9,10] [11] (_) _ mixed aQ bC (by(repeat(first|apply List.Sublist.cons (a:=bQ.mk vI _ _)|apply List.Sublist.cons_cons));exact oU _)):=h
def aEE(h:A->B:=by exact jV M [] [0,1,2,3,4,5,6,7,8,9,10] [11] (_) _ mixed aQ bC (by(repeat(first|apply List.Sublist.cons (a:=bQ.mk wL _ _)|apply List.Sublist.cons_cons));exact oU _)):=h
def aH0(h:A->B:=by exact jV M [] [0,1,2,3,4,5,6,7] [8] ([bQ.mk lT _ _]) _ mixed aQ bC (by(repeat(first|apply List.Sublist.cons (a:=bQ.mk lT _ _)|apply List.Sublist.cons_cons));exact oU _)):=h
def aIL(h:A->B:=by exact mW rfl (AP lZ K zO D) rfl rfl):=h
def aFq(h:A->B:=by exact mW rfl (OW lZ K r8 D) rfl rfl):=h
def aFO(h:A->B:=by exact RH a4z rfl rfl rfl):=h
def aRm(h:A->B:=by exact g2 (jZ (f:=aR) (p:=oT) (a:=_) M rfl rfl rfl rfl (bM) cL j8 rfl kG) rfl):=h
def aUj(h:A->B:=by exact g2 (jZ (f:=aR) (p:=pM) (a:=_) M rfl rfl rfl rfl (HE) cL j8 rfl kG) rfl):=h
def aGY(h:A->B:=by exact dN rfl (AP lZ K g6 D) rfl):=h
def aDn(h:A->B:=by exact aA (iV M ((⟨.own B1 bL.l.length [],kX⟩:J Int)) _ rfl rfl ((show _=Value.slice _ _ _ from rfl).trans (u7 Kf)) rfl bS (i:=jL.bK.toNat) c7 iY) rfl):=h
def aFb(h:A->B:=by exact aA (iV M ((⟨.own B1 bL.l.length [],kX.set jL.bK.toNat (kX.getD jL.bK.toNat 0+q)⟩:J Int)) _ rfl rfl ((show _=Value.slice _ _ _ from rfl).trans (u7 (by rw[w3];exact Kf))) rfl bS (i:=jL.to.toNat) c7 iY) rfl):=h
namespace Go.Proofs.YtdiajbdaadlfhaaGreatDoor
open Go.Aw Go Go.Proofs.Tryz
def FE(a:bT)(s:cG):Nat->List bG
 |0=>List.replicate a.aE.Z.l.length ⟨0,0⟩
 |k+1=>
  let d:=a.a8.l.getD k default
  let x:=q7 d (s.a8.l.getD k 0)
  let y:=(FE a s k).getD d.aS.toNat default
  (FE a s k).set d.aS.toNat ⟨y.bJ+x.bJ,y.bN+x.bN⟩
def Zb(a:bT)(s:cG): ∀k,(FE a s k).length=a.aE.Z.l.length
 |0=>by simp[FE]
 |k+1=>by simp only[FE,w3];exact Zb a s k
def a5z{a:bT}{s:cG}(bX:sG a){r:Nat}(O:r<a.aE.Z.l.length):∀k,k<=a.a8.l.length->∃x:bG,(FE a s k)[r]?=some x/\
 (p3 a s r k).bJ=(a.aE.Z.l.getD r default).aC.bJ+x.bJ/\(p3 a s r k).bN=(a.aE.Z.l.getD r default).aC.bN+x.bN
 |0,_=>⟨⟨0,0⟩,by simp[FE,O],by simp[p3],by simp[p3]⟩
 |k+1,Y=>by
  obtain⟨x,G,U,aO⟩:=a5z (s:=s) bX O k D
  have a7:=bX.tN k _ (bR default (show k<a.a8.l.length by omega))
  have aLV:=a7.1.aS
  simp only[FE,p3]
  by_cases V:(a.a8.l.getD k default).aS=(r:Int)
  ·rw[if_pos V]
   have uR:(a.a8.l.getD k default).aS.toNat=r:=by omega
   rw[uR]
   have bE:(FE a s k).getD r default=x:=by rw[lN,G];rfl
   refine⟨_,I8 (by rw[Zb];exact O),?_,?_⟩<;>rw[bE]<;>dsimp only<;>omega
  ·rw[if_neg V]
   have uR:¬(a.a8.l.getD k default).aS.toNat=r:=by omega
   exact⟨x,by rw[P7 uR];exact G,U,aO⟩
def oN(a:bT):Nat->List Nat
 |0=>[]
 |k+1=>if(a.aE.Z.l.getD k default).dZ=true then oN a k else oN a k++[k]
def GR(a:bT)(v:Nat):Nat->List Int
 |0=>[]
 |k+1=>
  if(a.aE.Z.l.getD k default).dZ=true then GR a v k
  else if(a.aE.Z.l.getD k default).bK=(v:Int)\/(a.aE.Z.l.getD k default).to=(v:Int)then GR a v k++[((oN a k).length:Int)]
  else GR a v k
def a6k(a:bT): ∀k,(oN a k).length<=k
 |0=>by simp[oN]
 |k+1=>by
  have:=a6k a k
  simp only[oN]
  split
  ·omega
  ·simp;omega
def Qb(a:bT)(v:Nat): ∀k,(GR a v k).length<=k
 |0=>by simp[GR]
 |k+1=>by
  have:=Qb a v k
  simp only[GR]
  split
  ·omega
  ·split
   ·simp;omega
   ·omega
structure rL where
 lE:bP k7
 l9:bP (bP Int)
abbrev rL.val(n:rL):Value:=.agg #[n.lE.val,n.l9.val]
def rL.cells(n:rL):List Value:=[n.lE.val,n.l9.val]
def a6r(x:bP Int):List Value:=[x.val]
abbrev p0(x:bP k7):eT:=x.eJ 12 k7.cells (x.l.map k7.eJ)
abbrev pH(x:bP (bP Int)):eT:=x.eJ 1 a6r (x.l.map dW)
structure JQ(a:bT)(s:cG)(n:rL):Prop where
 W4:n.lE.l.map k7.o9=(oN a a.aE.Z.l.length).map λ(i:Nat)=>(i:Int)
 PW:∀p∈n.lE.l,Hg a s p.o9 p
 a1B:n.l9.l.length=a.aE.places.l.length
 l9:∀(v:Nat) (x:bP Int),n.l9.l[v]?=some x->x.l=GR a v a.aE.Z.l.length
structure Q2(a:bT)(s:cG)(k:Nat)(F:List (J AH)):Prop where
 len:F.length=a.aE.Z.l.length
 ok:∀(r:Nat) (p:J AH),F[r]?=some p->p.ok 5 AH.cells/\p.l=G0 a s r k
def Q2.zero(a:bT)(s:cG):Q2 a s 0 (List.replicate a.aE.Z.l.length J.nil):=by exact aBI
def Q2.F5{a:bT}{s:cG}{k:Nat}{F:List (J AH)}(h:Q2 a s k F)(aF:s.bD.l.getD k 0=0):Q2 a s (k+1) F:=by refine⟨h.len,λr p aG=>?_⟩;rw[G0,if_neg (λh=>h.1 aF)];exact h.ok r p aG
def Q2.next{a:bT}{s:cG}{k:Nat}{F:List (J AH)}(h:Q2 a s k F)(aF: ¬s.bD.l.getD k 0=0){i:Nat}(aB:(i:Int)=(a.bD.l.getD k default).aS){p:J AH}(aG:F[i]? =some p){o:gT}
 (cM:(⟨o,p.l++[⟨a.bD.l.getD k default,s.bD.l.getD k 0⟩]⟩:J AH).ok 5 AH.cells):Q2 a s (k+1) (F.set i ⟨o,p.l++[⟨a.bD.l.getD k default,s.bD.l.getD k 0⟩]⟩):=by
 refine⟨by simp[h.len],λr q bZ=>?_⟩;rw[I9]at bZ;split at bZ;·
  rename_i a2O;subst a2O;split at bZ;·cases bZ;refine⟨cM,?_⟩;dsimp only;rw[G0,if_pos ⟨aF,aB.symm⟩,(h.ok i p aG).2]
  ·cases bZ
 ·rename_i a2O;rw[G0,if_neg (λh=>a2O D)];exact h.ok r q bZ
structure Q1(a:bT)(k:Nat)(aD:List (J Int)):Prop where
 len:aD.length=a.aE.places.l.length
 ok:∀(v:Nat) (p:J Int),aD[v]?=some p->p.ok 1 aR/\p.l=GR a v k
def Q1.zero(a:bT):Q1 a 0 (List.replicate a.aE.places.l.length J.nil):=by exact aBI
def Q1.F5{a:bT}{k:Nat}{aD:List (J Int)}(h:Q1 a k aD)(bU:(a.aE.Z.l.getD k default).dZ=true):Q1 a (k+1) aD:=by refine⟨h.len,λv p aG=>?_⟩;rw[GR,if_pos bU];exact h.ok v p aG
def Q1.next{a:bT}{k:Nat}{aD:List (J Int)}(h:Q1 a k aD)(bU: ¬(a.aE.Z.l.getD k default).dZ=true){i j:Nat}(aB:(i:Int)=(a.aE.Z.l.getD k default).bK)(a6:(j:Int)=(a.aE.Z.l.getD k default).to)(jC:i≠j)
 {p q:J Int} (aG:aD[i]?=some p) (bZ:aD[j]?=some q) {o o':gT} {n:Int} (bA:n=((oN a k).length:Int)) (cM:(⟨o,p.l++[n]⟩:J Int).ok 1 aR) (Ex:(⟨o',q.l++[n]⟩:J Int).ok 1 aR):
 Q1 a (k+1) ((aD.set i ⟨o,p.l++[n]⟩).set j ⟨o',q.l++[n]⟩):=by
 refine⟨by simp[h.len],λv x K=>?_⟩;rw[GR,if_neg bU];rw[I9]at K;split at K;·
  rename_i cS;subst cS;split at K;·cases K;refine⟨Ex,?_⟩;dsimp only;rw[if_pos (.inr a6.symm),(h.ok j q bZ).2,bA]
  ·cases K
 ·
  rename_i cS;rw[I9]at K;split at K;·
   rename_i zT;subst zT;split at K;·cases K;refine⟨cM,?_⟩;dsimp only;rw[if_pos (.inl aB.symm),(h.ok i p aG).2,bA]
   ·cases K
  ·rename_i zT;rw[if_neg D];exact h.ok v x K
structure LK(a:bT)(s:cG)(S:aP)(k:Nat)(P:J k7):Prop where
 ok:P.ok 12 k7.cells
 W4:P.l.map k7.o9=(oN a k).map λ(i:Nat)=>(i:Int)
 PW:∀p∈P.l,Hg a s p.o9 p/\aN p.eJ S
def LK.length{a:bT}{s:cG}{S:aP}{k:Nat}{P:J k7}(h:LK a s S k P):P.l.length=(oN a k).length:=by have:=congrArg List.length h.W4;simpa using this
def LK.zero(a:bT)(s:cG)(S:aP):LK a s S 0 J.nil:=⟨J.iJ,rfl,λ_ h=>by cases h⟩
def LK.F5{a:bT}{s:cG}{S:aP}{k:Nat}{P:J k7}(h:LK a s S k P)(bU:(a.aE.Z.l.getD k default).dZ=true):LK a s S (k+1) P:=
 ⟨h.ok,by rw[oN,if_pos bU];exact h.W4,h.PW⟩
def LK.next{a:bT}{s:cG}{S:aP}{k:Nat}{P:J k7}(h:LK a s S k P)(bU:¬(a.aE.Z.l.getD k default).dZ=true){p:k7}(aG:Hg a s k p)(aF:aN p.eJ S){o:gT}(cM:(⟨o,P.l++[p]⟩:J k7).ok 12 k7.cells):
 LK a s S (k+1) ⟨o,P.l++[p]⟩:=by
 refine⟨cM,?_,λq bZ=>?_⟩;·rw[oN,if_neg bU];simp[h.W4,aG.o9]
 ·
  rcases List.mem_append.1 bZ with bZ|bZ;·exact h.PW q bZ
  ·rw[List.mem_singleton.1 bZ];refine⟨?_,aF⟩;rw[aG.o9];exact aG
def a45{aY:Type}{T:TypeId}{f:aY->List Value}(n:Nat):(List.replicate n (J.nil:J aY)).flatMap (J.L T f)=[]:=by
 induction n with
 |zero=>rfl
 |succ n cA=>rw[a4b,vZ,cA];rfl
def a62{aY:Type}(n:Nat):y1 [.slice none 0 0] n=(List.replicate n (J.nil:J aY)).flatMap DC:=a5d (f:=DC) (x:=J.nil) rfl n
def aRU(n:Nat):y1 [.int .i64 0,.int .i64 0] n=(List.replicate n (⟨0,0⟩:bG)).flatMap bG.cells:=a5d (f:=bG.cells) (x:=⟨0,0⟩) rfl n
end Go.Proofs.YtdiajbdaadlfhaaGreatDoor
namespace Go.Proofs.YtdiajbdaadlfhaaGreatDoor
open Go.Aw Go Go.Proofs.Tryz
set_option maxRecDepth 20000
attribute [local irreducible] cO dG dP aM cI dR fA e2 e5 fB eQ e9 J.L
def a7N(a:bT)(s:cG)(L:aW)(R:aP)(a1:qF a R)(aF:u3 s R)(bX:sG a)(aH:Xz a s):
 aM prog 69 [a.val,s.val].toArray L R (λv E R'=>∃n:rL,v=n.val/\JQ a s n/\L=E/\p0 n.lE::pH n.l9::R=R'):=by
 have WD:=a1.Z;have wS:=a1.places;have V6:=a1.bD;have MU:=a1.a8;have a2T:=aF.bD;have a2S:=aF.a8;have xT:=bX.Fr;have S0:=bX.W2;have Tx:=aH.WZ;have b9n:=aH.aNk;have HD:=bX.aE.Z;have n2:=bX.aE.places;refine cX 181 call69 func69 rfl rfl rfl ?_;apply(fC);intro eN;apply(nW);intro e4;apply(dO);intro dU;apply iG∘xG∘D1;rintro v E R' ⟨vI,rfl,rfl,G4⟩;replace G4:=G4.symm;subst G4;apply tH∘xG∘D1;rintro v E R' ⟨OZ,rfl,rfl,O9⟩;replace O9:=O9.symm;subst O9;apply r2∘pE;refine e3 [(2,.pointer _),(3,.pointer _),(4,.pointer _),(5,.slice _ _ _),(6,.slice _ _ _),(27,.slice _ _ _),(28,.int _ _),(29,.int _ _)] cB λg9=>?_;refine oM ([7,8,9]++dJ 29 35) ((⟨λg=>[(29,.int .i64 ((g.1:Nat):Int))],λg=>⟨OZ,y1 [.slice none 0 0] a.aE.Z.l.length,177⟩::⟨vI,(FE a s g.1).flatMap bG.cells,51⟩::⟨dU,[.slice none 0 0,.slice none 0 0],175⟩::⟨e4,s.cells,35⟩::⟨eN,a.cells,32⟩::L,λ_=>R,λg=>a.a8.l.length-g.1⟩:e0 {k:Nat//k<=a.a8.l.length})) (⟨0,by omega⟩) cB (by dsimp only;rw[FE,<-aRU];exact oU _) eX ?_;rintro⟨k,Y⟩ c1;try dsimp only
 apply(gU);refine aJ ?_ ?_<;>intro bI;·
  have a7:=bR (l:=a.a8.l) (k:=k) default D;have wT:=bR (l:=s.a8.l) (k:=k) 0 D;have HA:=bX.tN _ _ a7;have KH:=HA.1.aS;have S4:=Zb a s k;obtain⟨y,bB,TA,WV⟩:=a5z (s:=s) bX (r:=(a.a8.l.getD k default).aS.toNat) D k D;have b5k:=Oa (s:=s) bX (r:=(((a.a8.l.getD k default).aS.toNat:Nat):Int)) D k D;have Z7:=aJI HA.1 (s.a8.l.getD k 0);have FU:=(bX.aE.aS _ _ (bR (l:=a.aE.Z.l) (k:=(a.a8.l.getD k default).aS.toNat) default D)).aC;have aAV:(FE a s k).getD (a.a8.l.getD k default).aS.toNat default=y:=getD_some bB;apply nC∘A6∘Ar∘dO;intro mF;apply eA∘J4;refine jR M [0,1,2,3,4,5,6,7,8] _ mixed aQ iP ?_;refine b7 qW rfl rfl rfl ?_;apply uH∘Vo∘s0;refine xZ rfl (aRv (a.a8.l.getD k default) (s.a8.l.getD k 0) _ _ (MU.tN a7)) ?_;apply(uZ);intro jB;apply uY∘KU∘aKc∘OL∘Za∘F2∘TM∘lS∘NE∘Za∘F2∘zY;refine UA (v:=Value.int _ _) rfl rfl rfl rfl qV Gy (by exact Ce (vY:=⟨y.bJ+(q7 (a.a8.l.getD k default) (s.a8.l.getD k 0)).bJ,y.bN⟩) bH aX bS aK) aK bC ?_;apply(A9);obtain⟨K1,aAU⟩:∃K1:bG,K1=⟨y.bJ+(q7 (a.a8.l.getD k default) (s.a8.l.getD k 0)).bJ,y.bN⟩:=⟨_,rfl⟩;have Uw:((FE a s k).set (a.a8.l.getD k default).aS.toNat ⟨y.bJ+(q7 (a.a8.l.getD k default) (s.a8.l.getD k 0)).bJ,y.bN⟩)[(a.a8.l.getD k default).aS.toNat]?=some K1:=by rw[aAU];exact I8 D
  have bAk:K1.bN=y.bN:=by rw[aAU]
  apply aKc∘OL∘Za∘F2∘TM∘lS∘NE∘Za∘F2∘zY;refine UA (v:=Value.int _ _) rfl rfl rfl rfl qV Gy (by exact Ce (vY:=⟨K1.bJ,K1.bN+(q7 (a.a8.l.getD k default) (s.a8.l.getD k 0)).bN⟩) bH aX bS aK) aK bC ?_;apply KV∘m0;subst aAU;exact lP ⟨k+1,by omega⟩ hM cB (by dsimp only;rw[P6,FE];(try dsimp only);rw[aAV];exact bC) eX kM
 obtain rfl:k=a.a8.l.length:=by omega
 apply D2∘pE;refine e3 [(2,.pointer _),(3,.pointer _),(4,.pointer _),(5,.slice _ _ _),(6,.slice _ _ _),(65,.slice _ _ _),(66,.int _ _),(67,.int _ _)] cB λs4=>?_;refine oM ([10,11]++dJ 67 30) ((⟨λg=>[(67,.int .i64 ((g.1.1:Nat):Int))],λg=>⟨OZ,g.1.2.flatMap DC,177⟩::⟨vI,(FE a s a.a8.l.length).flatMap bG.cells,51⟩::⟨dU,[.slice none 0 0,.slice none 0 0],175⟩::⟨e4,s.cells,35⟩::⟨eN,a.cells,32⟩::(g.1.2.flatMap (J.L 246 AH.cells)++L),λ_=>R,λg=>a.bD.l.length-g.1.1⟩:e0 {g:Nat×List (J AH)//g.1<=a.bD.l.length/\Q2 a s g.1 g.2})) (⟨(0,List.replicate a.aE.Z.l.length J.nil),by omega,Q2.zero a s⟩) cB (by dsimp only;rw[a45,<-a62];exact oU _) eX ?_;rintro⟨⟨k,F⟩,Y,hR⟩ c1;try dsimp only
 dsimp only at Y hR;apply(gU);refine aJ ?_ ?_<;>intro cK;·
  have a7:=bR (l:=a.bD.l) (k:=k) default D;have wT:=bR (l:=s.bD.l) (k:=k) 0 D;have HA:=bX.nF _ _ a7;have KH:=HA.1.aS;have Kg:=hR.len;have iF:(a.bD.l.getD k default).aS.toNat<F.length:=by omega
  obtain⟨p,aG⟩:=lQ iF;have iN:=hR.ok _ _ aG;have dC:=a6x (a:=a) (s:=s) (r:=(((a.bD.l.getD k default).aS.toNat:Nat):Int)) k;rw[<-iN.2]at dC;apply nC∘A6∘RW;intro GY;apply eA∘p6∘h1∘A6∘kY∘pG;refine aJ ?_ ?_<;>intro dE;·refine jV M [78,79,80] [0,1,2,3,4,5,6,7,8,9,10,11,12,13,14,15] [16,17,18] ([bQ.mk GY _ _,bQ.mk OZ _ _,bQ.mk e4 _ _]) _ mixed aQ bC (by(repeat(first|apply List.Sublist.cons (a:=bQ.mk OZ _ _)|apply List.Sublist.cons_cons));exact oU _) ?_;refine p4 qX rfl rfl rfl rfl ?_;apply LV∘OL;refine fE aQx rfl rfl rfl rfl ?_;apply TM∘aBv∘BR∘aBr∘D3;refine fE (l7 (hB:=[(0,(Value.agg _).cells.toList),(1,(Value.int _ _).cells.toList)]) (c9:=[_,_,_,_,_]) M rfl rfl rfl rfl) rfl rfl rfl rfl ?_;refine RH aPS rfl rfl rfl ?_;rintro v E R' ⟨b8e,rfl,rfl,a9f⟩;replace a9f:=a9f.symm;subst a9f;apply(DA);refine pP (jZ (f:=AH.cells) (a:=⟨a.bD.l.getD k default,s.bD.l.getD k 0⟩) M rfl rfl rfl rfl (iN.1) cL j8 rfl kG) rfl rfl rfl ?_;rintro v E R' ⟨a3g,rfl,aAf,rfl,rfl⟩;apply(fI);refine b7 aQx rfl rfl rfl ?_;refine UA (v:=Value.slice _ _ _) rfl rfl rfl rfl qV Gy (by exact Ce (vY:=⟨a3g,p.l++[⟨a.bD.l.getD k default,s.bD.l.getD k 0⟩]⟩) bH aX bS aK) aK bC ?_;apply KV∘m0;exact aOM
  apply(k9);exact aOM
 obtain rfl:k=a.bD.l.length:=by omega
 apply oS∘xG∘D1;rintro v E R' ⟨Di,rfl,rfl,a8E⟩;replace a8E:=a8E.symm;subst a8E;refine aA (l7 (hB:=[(1,(Value.slice _ _ _).cells.toList)]) (c9:=[_,_]) M rfl rfl rfl rfl) rfl ?_;apply(dO);intro rM;apply uI∘gF∘pE;refine e3 [(4,.pointer _),(5,.slice _ _ _),(6,.slice _ _ _),(12,.pointer _),(105,.slice _ _ _),(106,.int _ _),(107,.int _ _)] cB λGg=>?_;have mem:∀p∈F,∃r:Nat,F[r]?=some p:=λp aG=>List.mem_iff_getElem?.1 aG;refine aSQ (A:=[_,_,_,_,_,_,_]) (aI:=5) (λb=>b.nF.eJ) bH aX (λp aG=>?b6j) (λp aG x K=>?b6H) λS fL=>?_;case b6j=>obtain⟨r,O⟩:=mem p aG;exact(hR.ok r p O).1
 case b6H=>obtain⟨r,O⟩:=mem p aG;rw[(hR.ok r p O).2]at K;obtain⟨i,aB⟩:=a0V _ (gS _) x K;exact V6.nF aB
 apply(DX);have b3i:aN (F4 a.aE.Z) (S++R):=WD.mono λr h=>aU (by simp[h]);refine oM ([13,14,15]++dJ 107 73) ((⟨λg=>[(107,.int .i64 ((g.1.1:Nat):Int))],λg=>⟨rM,[g.1.2.1.val,.slice (some ⟨Di,0,none⟩) a.aE.places.l.length a.aE.places.l.length],175⟩::⟨Di,g.1.2.2.flatMap DC,33⟩::⟨OZ,F.flatMap DC,177⟩::⟨vI,(FE a s a.a8.l.length).flatMap bG.cells,51⟩::⟨dU,[.slice none 0 0,.slice none 0 0],175⟩::⟨e4,s.cells,35⟩::⟨eN,a.cells,32⟩::(g.1.2.1.L 179 k7.cells++(g.1.2.2.flatMap (J.L 3 aR)++L)),λ_=>S++R,λg=>a.aE.Z.l.length-g.1.1⟩:e0 {g:Nat×J k7×List (J Int)//g.1<=a.aE.Z.l.length/\LK a s S g.1 g.2.1/\Q1 a g.1 g.2.2})) (⟨(0,J.nil,List.replicate a.aE.places.l.length J.nil),by dsimp only;omega,LK.zero a s S,Q1.zero a⟩) cB (by dsimp only;rw[pC,a45,<-a62];exact oU _) eX ?_;rintro⟨⟨k,P,aD⟩,Y,kR,mH⟩ c1;try dsimp only
 dsimp only at Y kR mH;apply(gU);refine aJ ?_ ?_<;>intro gZ;·
  have O:=bR (l:=a.aE.Z.l) (k:=k) default D;have mI:=bX.aE.aS _ _ O;have Up:=mI.bK;have Lh:=mI.to;have b4B:=mI.ne;have FU:=mI.aC;have Dn:=mH.len;have Kg:=hR.len;have b8F:=kR.length;have b9z:=a6k a k;have b2V:k<F.length:=by omega
  obtain⟨aKL,V7⟩:=lQ b2V;have b2A:=hR.ok _ _ V7;have V9:(a.aE.Z.l.getD k default).bK.toNat<aD.length:=by omega
  have j3:(a.aE.Z.l.getD k default).to.toNat<aD.length:=by omega
  obtain⟨p,aG⟩:=lQ V9;obtain⟨q,bZ⟩:=lQ j3;have iN:=mH.ok _ _ aG;have g7:=mH.ok _ _ bZ;have dC:=Qb a (a.aE.Z.l.getD k default).bK.toNat k;have eZ:=Qb a (a.aE.Z.l.getD k default).to.toNat k;rw[<-iN.2]at dC;rw[<-g7.2]at eZ;have jC:(a.aE.Z.l.getD k default).bK.toNat≠(a.aE.Z.l.getD k default).to.toNat:=by omega
  obtain⟨y,bB,TA,WV⟩:=a5z (s:=s) bX (r:=k) D a.a8.l.length D;have b5k:=Oa (s:=s) bX (r:=((k:Nat):Int)) D a.a8.l.length D;have S4:=Zb a s a.a8.l.length;apply nC∘A6∘Lx∘dO;intro wL;apply eA∘RU∘dD;refine aJ ?_ ?_<;>intro fW;·refine oZ (oX (oW (bY (dM ?_))));apply(m0);exact aOV
  apply gI∘jM∘E9;refine jV M [117,118,119,120] [0,1,2,3,4,5,6,7,8,9,10,11] [12,13,14] ([bQ.mk wL _ _,bQ.mk rM _ _,bQ.mk Di _ _]) _ mixed aQ bC aP8 ?_;apply LV∘LV∘lS∘lS;refine fE aQm rfl rfl rfl rfl ?_;apply TM∘DY∘XC;rintro v E R' ⟨b7V,rfl,rfl,a8M⟩;replace a8M:=a8M.symm;subst a8M;apply(DA);refine pP (jZ (f:=aR) (a:=(P.l.length:Int)) M rfl rfl rfl rfl (iN.1) cL j8 rfl kG) rfl rfl rfl ?_;rintro v E R' ⟨aNs,rfl,b3u,rfl,rfl⟩;apply(fI);refine b7 aQm rfl rfl rfl ?_;refine UA (v:=Value.slice _ _ _) rfl rfl rfl rfl qV Gy (by exact Ce (vY:=⟨aNs,p.l++[(P.l.length:Int)]⟩) bH aX bS aK) aK bC ?_;apply(KU);have b4s:(aD.set (a.aE.Z.l.getD k default).bK.toNat ⟨aNs,p.l++[(P.l.length:Int)]⟩)[(a.aE.Z.l.getD k default).to.toNat]?=some q:=by rw[P7 jC];exact bZ
  refine jV M [131,132,133,134] [0,1,2,3,4,5,6,7,8,9,10,11] [12,13,14] ([bQ.mk wL _ _,bQ.mk rM _ _,bQ.mk Di _ _]) _ mixed aQ bC aP8 ?_;apply LV∘LV∘lS∘lS;refine fE aQo rfl rfl rfl rfl ?_;apply TM∘DY∘XC;rintro v E R' ⟨b7W,rfl,rfl,a8O⟩;replace a8O:=a8O.symm;subst a8O;apply(DA);refine pP (jZ (f:=aR) (a:=(P.l.length:Int)) M rfl rfl rfl rfl (g7.1) cL j8 rfl kG) rfl rfl rfl ?_;rintro v E R' ⟨b53,rfl,b3v,rfl,rfl⟩;apply(fI);refine b7 aQo rfl rfl rfl ?_;refine UA (v:=Value.slice _ _ _) rfl rfl rfl rfl qV Gy (by exact Ce (vY:=⟨b53,q.l++[(P.l.length:Int)]⟩) bH aX bS aK) aK bC ?_;apply KU∘aEE∘wZ∘lS∘RY∘a7j∘F2∘TM∘NE∘wZ∘LR∘XA∘KU∘aEE∘wZ∘lS∘RY∘a7j∘F2∘TM∘NE∘wZ∘LR∘XA∘A9;refine jV M [] [0,1,2,3,4,5,6,7,8,9] [10,11,12] ([bQ.mk wL _ _,bQ.mk rM _ _,bQ.mk OZ _ _]) _ mixed aQ bC b9 ?_;apply(lS);refine fE Bi rfl rfl rfl rfl ?_;apply DY∘RY∘a7j∘TM;refine fE (l7 (hB:=[(0,(Value.agg _).cells.toList),(1,(Value.int _ _).cells.toList),(2,(Value.slice _ _ _).cells.toList)]) (c9:=[_,_,_,_,_,_,_,_,_,_,_,_]) M rfl rfl rfl rfl) rfl rfl rfl rfl ?_;refine RH (CS (hB:=[(0,(Value.agg _).cells.toList)]) (c9:=[_,_,_,_,_,_,_,_,_,_,_,_]) M rfl rfl rfl rfl rfl rfl rfl) rfl rfl rfl ?_;rintro v E R' ⟨b7Z,rfl,rfl,a8S⟩;replace a8S:=a8S.symm;subst a8S;apply(DA);refine pP (jZ (f:=k7.cells) (a:=⟨{a.aE.Z.l.getD k default with aC:=⟨(a.aE.Z.l.getD k default).aC.bJ+y.bJ,(a.aE.Z.l.getD k default).aC.bN+y.bN⟩},(k:Int),aKL.W⟩) M rfl rfl rfl rfl (kR.ok) cL j8 rfl kG) rfl rfl rfl ?_;rintro v E R' ⟨bAJ,rfl,b3y,rfl,rfl⟩;apply fI∘U0∘m0;exact aOV
 obtain rfl:k=a.aE.Z.l.length:=by omega
 apply(ND);have Dn:=mH.len;refine rY (A:=[_,_,_,_,_,_,_]) (aI:=12) (P.l.map k7.eJ) bH aX kR.ok (λx K=>?b6I) ?_;case b6I=>obtain⟨p,aG,rfl⟩:=List.mem_map.1 K;exact(kR.PW p aG).2.mono λr h=>aU (by simp[h])
 apply(DX);refine aH1 (A:=[_,_,_,_,_,_,_]) (aI:=1) bH aX (λp aG=>?aBn) λeF DM=>?_;case aBn=>obtain⟨r,O⟩:=List.mem_iff_getElem?.1 aG;exact(mH.ok r p O).1
 apply(DX);refine Oy (A:=[_]) (aI:=1) (len:=(aD.map J.W).length) (cap:=a.aE.places.l.length) (rows:=(aD.map J.W).map a6r) (eE:=(aD.map J.W).map dW) eY EB D (λr O=>?pN) aX ?a8h (λx K=>?aBD) ?_;case pN=>obtain⟨y,_,rfl⟩:=List.mem_map.1 O;rfl
 case a8h=>rw[Qo,List.flatMap_map,yV (by rw[C0 (aI:=1) (λ_=>rfl)];simp)];rfl
 case aBD=>exact aPU
 apply DX∘e1∘LP;refine kN (E:=L) (R':=p0 P.W::pH ⟨some ⟨Di,0,none⟩,a.aE.places.l.length,aD.map J.W⟩::R) mM ?aG ?b3 ?b8;case aG=>
  refine⟨⟨P.W,⟨some ⟨Di,0,none⟩,a.aE.places.l.length,aD.map J.W⟩⟩,?_,⟨kR.W4,λp aG=>(kR.PW p aG).1,by simp[Dn],λv x K=>?_⟩,rfl,rfl⟩;·simp only[rL.val,bP.val,pU,Dn];rfl
  ·dsimp only at K;exact aP4
 case b3=>exact bC
 case b8=>exact λr O=>aU (by simp only[nX,D7]at O|-;rcases O with h|h|h<;>simp[h])
def Yr{a:bT}{i:Nat}: ∀{k:Nat},i∈oN a k↔i<k/\(a.aE.Z.l.getD i default).dZ=false
 |0=>by simp[oN]
 |k+1=>by
  have cA:=Yr (a:=a) (i:=i) (k:=k)
  simp only[oN]
  by_cases bU:(a.aE.Z.l.getD k default).dZ=true
  ·rw[if_pos bU,cA]
   constructor
   ·rintro⟨G,U⟩;exact⟨by omega,U⟩
   ·rintro⟨G,U⟩
    refine⟨?_,U⟩
    rcases Mu (Mx G)with h|h
    ·exact h
    ·subst h;rw[bU]at U;cases U
  ·rw[if_neg bU,D7,cA,XU]
   constructor
   ·rintro(⟨G,U⟩|rfl)
    ·exact⟨by omega,U⟩
    ·exact⟨by omega,by simpa using bU⟩
   ·rintro⟨G,U⟩
    rcases Mu (Mx G)with h|h
    ·exact .inl ⟨h,U⟩
    ·exact .inr h
def JQ.find{a:bT}{s:cG}{n:rL}(h:JQ a s n){r:Int}(O:0<=r/\r<a.aE.Z.l.length)(bU:(a.aE.Z.l.getD r.toNat default).dZ=false):∃(j:Nat) (p:k7),n.lE.l[j]?=some p/\p.o9=r:=by
 have G:r.toNat∈oN a a.aE.Z.l.length:=Yr.2 ⟨by omega,bU⟩;have U:r∈n.lE.l.map k7.o9:=by rw[h.W4];exact List.mem_map.2 ⟨_,G,by omega⟩
 obtain⟨p,aG,V⟩:=List.mem_map.1 U;obtain⟨j,a6⟩:=List.mem_iff_getElem?.1 aG;exact⟨j,p,a6,V⟩
def JQ.open{a:bT}{s:cG}{n:rL}(h:JQ a s n){p:k7}(aG:p∈n.lE.l):(0<=p.o9/\p.o9<a.aE.Z.l.length)/\(a.aE.Z.l.getD p.o9.toNat default).dZ=false:=by have U:p.o9∈n.lE.l.map k7.o9:=List.mem_map.2 ⟨p,aG,rfl⟩;rw[h.W4]at U;obtain⟨i,aB,V⟩:=List.mem_map.1 U;obtain⟨aO,bW⟩:=Yr.1 aB;rw[<-V];exact⟨by omega,by simpa using bW⟩
def JQ.length{a:bT}{s:cG}{n:rL}(h:JQ a s n):n.lE.l.length<=a.aE.Z.l.length:=by have:=congrArg List.length h.W4;simp only[pU]at this;have:=a6k a a.aE.Z.l.length;omega
def aN.PW{x:bP k7}{R:aP}(h:aN (p0 x) R){i:Nat}{p:k7}(aB:x.l[i]?=some p):aN p.eJ R:=
 h.sub (.SG (List.mem_map.2 ⟨p,hS aB,rfl⟩) .lK)
def aUq{a:bT}{s:cG}{x:tE}(bV:h4 a=0)(G:mP a s=true)(U: ¬(x.b5.l.length≠a.aE.places.l.length\/x.iC.l.length≠a.aE.Z.l.length))(aO:x.b5.l.findSome? uF=none)(bW:x.iC.l.findSome? a7t=none)
 (dV:∀i,i<x.iC.l.length->Rl a s x i=none) (gY:∀v,v<x.b5.l.length->Qq a x (LW a x x.iC.l.length) v=none):a0y a s x=0:=by have dH:(List.range x.iC.l.length).findSome? (Rl a s x)=none:=List.findSome?_eq_none_iff.2 λi aB=>dV i (List.mem_range.1 aB);have eH:(List.range x.b5.l.length).findSome? (Qq a x (LW a x x.iC.l.length))=none:=List.findSome?_eq_none_iff.2 λi aB=>gY i (List.mem_range.1 aB);rw[aXy bV G U,aO,bW,dH,eH];rfl
def aUh{l:List Int}(h:l.findSome? uF=none):∀(i:Nat) (p:Int),l[i]?=some p->-70368744177664<=p/\p<=70368744177664:=λi p aG=>by
 have:=List.findSome?_eq_none_iff.1 h p (hS aG)
 unfold uF at this
 split at this
 ·cases this
 ·omega
structure Zg(bK to:Int)(r:cR):Prop where
 bK:r.bK=bK
 to:r.to=to
 len:1<=r.len/\r.len<=400
 h6:4<=r.h6/\r.h6<=30
 dZ:r.dZ=false
 aC:1<=r.aC.bJ/\r.aC.bJ<=r.aC.bN/\r.aC.bN<=22
 fQ:-300<=r.fQ.bJ/\r.fQ.bJ<=r.fQ.bN/\r.fQ.bN<=320
def nL.mono{x:bP Int}{R R':aP}(h:nL x R)(k:∀r∈R,aN r R'):nL x R':=⟨h.eJ.mono k,h.a1D⟩
def aSU(c:Nat)(x:bP Int)(k:Nat)(bK to:Int)(R:aP)(K:nL x R)(Y:k<=x.l.length):
 aM prog 21 [.pointer (some ⟨c,0,none⟩),.int .i64 bK,.int .i64 to].toArray [hI c x k] R
  (λv E R'=>∃(r:cR) (c3:Nat),v=r.val/\Zg bK to r/\c3<=x.l.length/\[hI c x c3]=E/\R=R'):=by refine cX 42 call21 func21 rfl rfl rfl ?_;apply(J8);intro jN;apply iG∘wF∘iS∘a6J;rintro v E R' ⟨s1,g8,rfl,g1,KE,g6,rfl,rfl⟩;apply iS∘a7a;rintro v E R' ⟨oF,eK,rfl,oA,tO,j4,rfl,rfl⟩;apply iS∘a6B;rintro v E R' ⟨CM,mJ,rfl,g3,VT,a1Q,wR,rfl,rfl⟩;apply yO∘iS;refine dN rfl (OW lZ K wR D) rfl ?_;rintro v E R' ⟨P2,h8,rfl,g4,VU,zO,rfl,rfl⟩;refine aA aQf rfl ?_;refine aA (l7 (hB:=[(0,(Value.int _ _).cells.toList),(1,(Value.int _ _).cells.toList),(2,(Value.int _ _).cells.toList),(3,(Value.int _ _).cells.toList),(4,(Value.bool _).cells.toList),(6,(Value.agg _).cells.toList)]) (c9:=[_,_,_,_,_,_,_,_,_,_]) M rfl rfl rfl rfl) rfl ?_;apply(dO);intro lT;apply J4∘aH0∘wZ∘OD∘aIL;rintro v E R' ⟨Vs,Fj,rfl,a8r,Su,aKR,Et,rfl,rfl⟩;refine⟨bC,hC,?_⟩;apply NE∘wZ∘LR∘XA∘KU;have b0v:=Su D;apply(IE);refine dN rfl (OW lZ K Et D) rfl ?_;rintro v E R' ⟨Ge,Vc,rfl,a1R,a1S,Ts,rfl,rfl⟩;apply gF∘r1∘j6∘aH0∘wZ∘OD;refine mW rfl (AP lZ K Ts D) rfl rfl ?_;rintro v E R' ⟨Mb,Fk,rfl,a1T,Sv,aKS,Tt,rfl,rfl⟩;refine⟨bC,hC,?_⟩;apply NE∘wZ∘LR∘XA∘KU;have aKT:=Sv D;apply(e1);refine aA Bi rfl ?_;apply(y5);refine cF [hI c x Fk] R (qI rfl (UB (row:=[_,_,_,_,_,_,_,_,_,_]) M rfl rfl rfl mC aK aK)) ?_;exact⟨⟨bK,to,s1,oF,decide (0<CM),false,⟨P2,P2+Vs⟩,⟨Ge,Ge+Mb⟩⟩,Fk,rfl,⟨rfl,rfl,⟨g1,KE⟩,⟨oA,tO⟩,rfl,by dsimp only;omega,by dsimp only;omega⟩,Tt,rfl,rfl⟩
structure YP(l:List hU):Prop where
 len:1<=l.length/\l.length<=4
 ok:x4 l
 a3z:(l.getD 0 default).b5<=3000
def x4.aBC{l:List hU}{p:hU}(h:x4 l)(aZ:1<=l.length)(aG:-1048576<=p.c8/\p.c8<=1048576/\0<=p.b5/\p.b5<=2199023255552)(aF:(l.getD (l.length-1) default).c8<p.c8/\p.b5<=(l.getD (l.length-1) default).b5):x4 (l++[p]):=by
 refine⟨λi q bZ=>?_,λi q r bZ O=>?_⟩;·
  rw[Gl]at bZ;split at bZ;·exact h.vV i q bZ
  ·
   rw[Gu]at bZ;split at bZ;·cases bZ;exact aG
   ·cases bZ
 ·
  rw[Gl]at bZ O;split at O;·rename_i U;rw[if_pos D]at bZ;exact h.eM i q r bZ O
  ·
   rename_i U;rw[Gu]at O;split at O;·cases O;rw[if_pos D]at bZ;(have e:i=l.length-1:=by omega);subst e;rw[getD_some bZ]at aF;exact aF
   ·cases O
def Hw{aY:Type}{l m:List aY}{i:Nat}{d:aY}(h:i<l.length):(l++m).getD i d=l.getD i d:=by rw[lN,lN,K4 h]
def Rj{aY:Type}{l:List aY}{x d:aY}{n:Nat}(h:n=l.length):(l++[x]).getD n d=x:=by subst h;rw[lN];simp
structure Xt(n:Int)(y:J hU):Prop where
 n:0<=n/\(y.l.length:Int)+n<=4
 len:1<=y.l.length
 aKC:x4 y.l
 a3z:(y.l.getD 0 default).b5<=3000
 wV:-20<=(y.l.getD (y.l.length-1) default).c8/\(y.l.getD (y.l.length-1) default).c8<=40*(y.l.length:Int)/\0<=(y.l.getD (y.l.length-1) default).b5/\(y.l.getD (y.l.length-1) default).b5<=3000
def Xt.next{n:Int}{y:J hU}(h:Xt n y)(bA:0<n){a b:Int}(bX:1<=a/\a<=40)(aT:0<=b/\b<=899){o:gT}{p:hU}(G:p.c8=(y.l.getD (y.l.length-1) default).c8+a)(U:p.b5=max 0 ((y.l.getD (y.l.length-1) default).b5-b)):Xt (n-1) ⟨o,y.l++[p]⟩:=by
 have aZ:=h.len;have aMf:=h.wV;have Ua:=h.n;have dH:(y.l++[p]).length=y.l.length+1:=by simp
 have eH:(y.l++[p]).getD ((y.l++[p]).length-1) default=p:=Rj D;refine⟨by dsimp only;omega,by dsimp only;omega,h.aKC.aBC aZ D D,?_,?_⟩;·dsimp only;rw[Hw D];exact h.a3z
 ·dsimp only;rw[eH,dH];omega
def aZp(c:Nat)(x:bP Int)(k:Nat)(R:aP)(K:nL x R)(Y:k<=x.l.length):
 aM prog 51 [.pointer (some ⟨c,0,none⟩)].toArray [hI c x k] R
  (λv E R'=>∃(y:bP hU) (c3:Nat),v=y.val/\YP y.l/\c3<=x.l.length/\[hI c x c3]=E/\Lt y::R=R'):=by
 refine cX 40 call51 func51 rfl rfl rfl ?_;apply eV∘tH∘iS∘a6J;rintro v E R' ⟨s1,g8,rfl,g1,KE,g6,rfl,rfl⟩;apply iS∘a7a;rintro v E R' ⟨oF,eK,rfl,oA,tO,j4,rfl,rfl⟩;apply CH∘a7q;rintro v E R' ⟨GY,rfl,rfl,a8G⟩;replace a8G:=a8G.symm;subst a8G;apply r2∘iS∘a6B;rintro v E R' ⟨CM,mJ,rfl,g3,VT,a1Q,wR,rfl,rfl⟩;apply(pR);refine e3 [(0,.pointer _),(3,.slice _ _ _),(4,.int _ _)] cB λg9=>?_;have aKQ:=VT D;refine e7 (Qm (f:=hU.cells) (n:=1) [⟨s1,oF⟩] rfl _) ?_;refine m6 ([3,4,5]++dJ 14 25) ((⟨λg=>[(3,g.1.2.2.val),(4,.int .i64 g.1.2.1)],λg=>g.1.2.2.L 234 hU.cells++(hI c x g.1.1::[]),λ_=>R,λg=>g.1.2.1.toNat⟩:e0 {g:Nat×Int×J hU//g.1<=x.l.length/\g.2.2.ok 2 hU.cells/\Xt g.2.1 g.2.2})) (⟨(mJ,CM,⟨.own GY 1 [],[⟨s1,oF⟩]⟩),wR,Dc bH rfl aX,⟨by dsimp only;simp only[rE];omega,by simp,⟨λi q bZ=>by(cases i with|zero=>cases bZ;dsimp only;omega|succ i=>cases bZ),λi q r bZ O=>by cases O⟩,by simp;omega,by simp;omega⟩⟩) ?_;rintro⟨⟨gK,n,y⟩,r8,bM,hP⟩ c1;try dsimp only
 dsimp only at r8 bM hP;apply nR∘y8;refine aJ ?_ ?_<;>intro bI;·have aZ:=hP.len;have Ua:=hP.n;have aMf:=hP.wV;have Ku:=bR (l:=y.l) (k:=y.l.length-1) default D;apply jK∘gQ∘j0∘oD;refine aA (iV M (y) _ rfl rfl rfl rfl bS (i:=y.l.length-1) c7 iY) rfl ?_;refine aA (a0U (row:=[_,_]) M (y) rfl rfl rfl cL bS bH bS aK aK) rfl ?_;apply(dO);intro fK;apply l5∘dD;refine jV M [] [0,1,2,3,6,7,8,4,5,9,10,11,12,13] [14,15] ([bQ.mk fK _ _]) _ mixed aQ bC b9 ?_;apply XF∘OD∘OD∘aFq;rintro v E R' ⟨P2,h8,rfl,g4,VU,zO,rfl,rfl⟩;refine⟨bC,hC,?_⟩;apply NE∘aIL;rintro v E R' ⟨Vs,Fj,rfl,a8r,Su,aKR,Et,rfl,rfl⟩;refine⟨bC,hC,?_⟩;apply(Aq);refine fE NO rfl rfl rfl rfl ?_;apply XG∘aFO;rintro v E R' ⟨MG,rfl,rfl,G7⟩;replace G7:=G7.symm;subst G7;apply(DA);refine pP (jZ (f:=hU.cells) (p:=y) (a:=⟨(y.l.getD (y.l.length-1) default).c8+P2,max 0 ((y.l.getD (y.l.length-1) default).b5-Vs)⟩) M rfl rfl rfl rfl (bM) cL j8 rfl kG) rfl rfl rfl ?_;rintro v E R' ⟨aNw,rfl,Uh,rfl,rfl⟩;apply(fI);refine b7 (qG K8) rfl rfl rfl ?_;apply KV∘GO;exact eG ⟨(Fj,n-1,_),Et,Uh,hP.next bI ⟨g4,VU⟩ ⟨a8r,by have:=Su D;omega⟩ rfl rfl⟩
 apply(ND);refine aFe [] bM bH aX eW ?_;apply vE∘UW;refine cF [hI c x gK] (Lt y.W::R) BH ?_;exact⟨y.W,gK,rfl,⟨⟨hP.len,by have:=hP.n;dsimp only;omega⟩,hP.aKC,hP.a3z⟩,r8,rfl,rfl⟩
structure Hf(aS:Int)(d:gV):Prop where
 aS:d.aS=aS
 sC:d.sC= -1
 len:2<=d.hY.l.length/\d.hY.l.length<=4
 aC:∀(i:Nat) (v:Int),d.hY.l[i]?=some v->0<=v/\v<=900
 Kb:GL d.hY.l d.hY.l.length=true
def aHz{l m:List Int}: ∀{k:Nat},k<=l.length->GL (l++m) k=GL l k
 |0,_=>rfl
 |k+1,Y=>by
  rw[GL,GL,aHz D,Hw D]
  rcases k with _|k
  ·rfl
  ·rw[Hw D]
structure Xv(n:Int)(l:List Int):Prop where
 n:0<=n/\(l.length:Int)+n<=4/\2<=(l.length:Int)+n
 len:1<=l.length
 aC:∀(i:Nat) (v:Int),l[i]?=some v->0<=v/\v<=900
 Kb:GL l l.length=true
 wV:260-60*(l.length:Int)<=l.getD (l.length-1) 0
def Xv.next{n:Int}{l:List Int}(h:Xv n l)(bA:0<n){b v:Int}(aT:1<=b/\b<=60)(cS:v=max 0 (l.getD (l.length-1) 0-b)):Xv (n-1) (l++[v]):=by
 have aZ:=h.len;have Ua:=h.n;have aMf:=h.wV;have aMi:=h.aC _ _ (bR (l:=l) (k:=l.length-1) 0 D);have dH:(l++[v]).length=l.length+1:=by simp
 refine⟨by rw[dH];omega,by omega,λi w cE=>?_,?_,?_⟩;·
  rw[Gl]at cE;split at cE;·exact h.aC i w cE
  ·
   rw[Gu]at cE;split at cE;·cases cE;omega
   ·cases cE
 ·rw[dH,GL,aHz (gS _),h.Kb,Rj rfl,Hw D];simp only[Bool.true_and,Wd,decide_eq_true_eq];omega
 ·rw[dH,Rj D];omega
def aSD(c:Nat)(x:bP Int)(k:Nat)(aS:Int)(R:aP)(K:nL x R)(Y:k<=x.l.length):
 aM prog 52 [.pointer (some ⟨c,0,none⟩),.int .i64 aS].toArray [hI c x k] R
  (λv E R'=>∃(d:gV) (c3:Nat),v=d.val/\Hf aS d/\c3<=x.l.length/\[hI c x c3]=E/\d.eJ::R=R'):=by
 refine cX 36 call52 func52 rfl rfl rfl ?_;apply(J8);intro dU;apply iG∘cJ∘iS∘a6J;rintro v E R' ⟨s1,g8,rfl,g1,KE,g6,rfl,rfl⟩;apply(w1);rintro v E R' ⟨lI,rfl,rfl,O6⟩;replace O6:=O6.symm;subst O6;refine aA aCQ rfl ?_;apply(dO);intro fK;apply uI∘iS∘a7a;rintro v E R' ⟨oF,eK,rfl,oA,tO,j4,rfl,rfl⟩;apply(pR);refine e3 [(0,.pointer _),(4,.pointer _),(5,.pointer _),(6,.int _ _)] cB λg9=>?_;refine e7 (congrArg (List.cons _) (Qm (f:=aR) (n:=1) [s1] rfl _)) ?_;refine m6 ([6]++dJ 14 21) ((⟨λg=>[(6,.int .i64 g.1.2.1)],λg=>⟨fK,[.int .i64 aS,.int .i64 (-1),g.1.2.2.val],149⟩::(g.1.2.2.L 3 aR++(⟨dU,[.int .i64 0,.int .i64 0,.slice none 0 0],149⟩::hI c x g.1.1::[])),λ_=>R,λg=>g.1.2.1.toNat⟩:e0 {g:Nat×Int×J Int//g.1<=x.l.length/\g.2.2.ok 1 aR/\Xv g.2.1 g.2.2.l})) (⟨(eK,oF,⟨.own lI 1 [],[s1]⟩),j4,Dc bH rfl aX,⟨by dsimp only;simp only[rE];omega,by simp,λi q bZ=>by(cases i with|zero=>cases bZ;omega|succ i=>cases bZ),rfl,by simp;omega⟩⟩) ?_;rintro⟨⟨gK,n,y⟩,r8,bM,hP⟩ c1;try dsimp only
 dsimp only at r8 bM hP;apply nR∘y8;refine aJ ?_ ?_<;>intro bI;·have aZ:=hP.len;have Ua:=hP.n;have Ku:=bR (l:=y.l) (k:=y.l.length-1) 0 D;have aMi:=hP.aC _ _ Ku;refine gG (bY (cC (iH ?_)));refine jV M [] [0,1,2,3,4,5,6,7,8,9,10,11,12,13,14] [15,16,17] ([bQ.mk fK _ _]++(y.L 3 aR++[])) _ mixed aQ bC b9 ?_;apply lS∘lS∘lS;refine fE CP rfl rfl rfl rfl ?_;apply(Aq);refine fE (iV M (y) _ rfl rfl rfl rfl bS (i:=y.l.length-1) c7 iY) rfl rfl rfl rfl ?_;refine fE (rX M (y) rfl rfl rfl cL bS bH bS aK) rfl rfl rfl rfl ?_;apply CG∘aFq;rintro v E R' ⟨P2,h8,rfl,g4,VU,zO,rfl,rfl⟩;refine⟨bC,hC,?_⟩;apply(Aq);refine fE NO rfl rfl rfl rfl ?_;apply(XC);rintro v E R' ⟨IJ,rfl,rfl,G6⟩;replace G6:=G6.symm;subst G6;apply(DA);refine pP (jZ (f:=aR) (p:=y) (a:=max 0 (y.l.getD (y.l.length-1) 0-P2)) M rfl rfl rfl rfl (bM) cL j8 rfl kG) rfl rfl rfl ?_;rintro v E R' ⟨aNv,rfl,a98,rfl,rfl⟩;apply fI∘U0∘GO;exact eG ⟨(h8,n-1,_),zO,a98,hP.next bI ⟨g4,VU⟩ rfl⟩
 apply(ND);refine rY (A:=[_]) (aI:=1) [] bH aX bM eW ?_;apply DX∘e1;refine aA qW rfl ?_;apply(y5);refine cF [hI c x gK] ((y.W.eJ 1 aR [])::R) (qI rfl XX) ?_;exact⟨⟨aS,-1,y.W⟩,gK,rfl,⟨rfl,rfl,by have:=hP.n;dsimp only;omega,hP.aC,hP.Kb⟩,r8,rfl,rfl⟩
def aUd{c:Nat}{x:bP Int}{k:Nat}{L:aW}{F:List Value->aW}{R:aP}(cZ:AE c (vF x k) 72 L F)(K:nL x R)(Y:k<=x.l.length):
 aM prog 51 [.pointer (some ⟨c,0,none⟩)].toArray L R
  (λv E R'=>∃(y:bP hU) (c3:Nat),v=y.val/\YP y.l/\c3<=x.l.length/\F (vF x c3)=E/\Lt y::R=R'):=
 (aM.ZE (tC:=λv gM R'=> ∃(y:bP hU) (c3:Nat),v=y.val/\YP y.l/\c3<=x.l.length/\gM=vF x c3/\Lt y::R=R') cZ (aZp c x k R K Y)
  (λv E R' ⟨y,c3,G,U,dV,gY,j1⟩=>⟨_,gY,y,c3,G,U,dV,rfl,j1⟩)).mono
  (λv E R' ⟨gM,bV,y,c3,G,U,dV,gY,j1⟩=>⟨y,c3,G,U,dV,by rw[<-gY];exact bV,j1⟩)
def aU3{c:Nat}{x:bP Int}{k:Nat}{aS:Int}{L:aW}{F:List Value->aW}{R:aP}(cZ:AE c (vF x k) 72 L F)(K:nL x R)(Y:k<=x.l.length):
 aM prog 52 [.pointer (some ⟨c,0,none⟩),.int .i64 aS].toArray L R
  (λv E R'=>∃(d:gV) (c3:Nat),v=d.val/\Hf aS d/\c3<=x.l.length/\F (vF x c3)=E/\d.eJ::R=R'):=
 (aM.ZE (tC:=λv gM R'=> ∃(d:gV) (c3:Nat),v=d.val/\Hf aS d/\c3<=x.l.length/\gM=vF x c3/\d.eJ::R=R') cZ (aSD c x k aS R K Y)
  (λv E R' ⟨y,c3,G,U,dV,gY,j1⟩=>⟨_,gY,y,c3,G,U,dV,rfl,j1⟩)).mono
  (λv E R' ⟨gM,bV,y,c3,G,U,dV,gY,j1⟩=>⟨y,c3,G,U,dV,by rw[<-gY];exact bV,j1⟩)
def a6v{c:Nat}{x:bP Int}{k:Nat}{bK to:Int}{L:aW}{F:List Value->aW}{R:aP}(cZ:AE c (vF x k) 72 L F)(K:nL x R)(Y:k<=x.l.length):
 aM prog 21 [.pointer (some ⟨c,0,none⟩),.int .i64 bK,.int .i64 to].toArray L R
  (λv E R'=>∃(r:cR) (c3:Nat),v=r.val/\Zg bK to r/\c3<=x.l.length/\F (vF x c3)=E/\R=R'):=
 (aM.ZE (tC:=λv gM R'=> ∃(r:cR) (c3:Nat),v=r.val/\Zg bK to r/\c3<=x.l.length/\gM=vF x c3/\R=R') cZ (aSU c x k bK to R K Y)
  (λv E R' ⟨y,c3,G,U,dV,gY,j1⟩=>⟨_,gY,y,c3,G,U,dV,rfl,j1⟩)).mono
  (λv E R' ⟨gM,bV,y,c3,G,U,dV,gY,j1⟩=>⟨y,c3,G,U,dV,by rw[<-gY];exact bV,j1⟩)
structure Xx(n:Nat)(f:hT):Prop where
 aS:0<=f.aS/\f.aS<n
 hJ:YP f.hJ.l
structure Xu(n:Nat)(d:gV):Prop where
 aS:0<=d.aS/\d.aS<n
 W1:Hf d.aS d
structure JI(n:Nat)(m:Int)(bD:List hT)(k6:List Int):Prop where
 m:0<=m/\(bD.length:Int)+m<=2
 len:k6.length=bD.length
 nF:∀f∈bD,Xx n f
 eM:∀s∈k6,0<=s/\s<=2
structure JF(n:Nat)(m:Int)(a8:List gV)(lX:List Int):Prop where
 m:0<=m/\(a8.length:Int)+m<=2
 len:lX.length=a8.length
 tN:∀d∈a8,Xu n d
 eM:∀(i:Nat) (d:gV) (s:Int),a8[i]?=some d->lX[i]?=some s->0<=s/\s<d.hY.l.length
def JI.next{n:Nat}{m:Int}{bD:List hT}{k6:List Int}(h:JI n m bD k6)(a1:0<m){f:hT}(aH:Xx n f){s:Int}(aF:0<=s/\s<=2):JI n (m-1) (bD++[f]) (k6++[s]):=by
 have:=h.m;refine⟨by simp only[hL,rE];omega,by simp[h.len],λg bE=>?_,λt gJ=>?_⟩;·
  rcases List.mem_append.1 bE with bE|bE;·exact h.nF g bE
  ·rw[List.mem_singleton.1 bE];exact aH
 ·
  rcases List.mem_append.1 gJ with gJ|gJ;·exact h.eM t gJ
  ·rw[List.mem_singleton.1 gJ];exact aF
def JI.zero{n:Nat}{m:Int}{bD:List hT}{k6:List Int}(h:JI n m bD k6):JI n 0 bD k6:=⟨by have:=h.m;omega,h.len,h.nF,h.eM⟩
def JF.zero{n:Nat}{m:Int}{a8:List gV}{lX:List Int}(h:JF n m a8 lX):JF n 0 a8 lX:=⟨by have:=h.m;omega,h.len,h.tN,h.eM⟩
def JF.next{n:Nat}{m:Int}{a8:List gV}{lX:List Int}(h:JF n m a8 lX)(a1:0<m){d:gV}(a7:Xu n d){s:Int}(aF:0<=s/\s<d.hY.l.length):JF n (m-1) (a8++[d]) (lX++[s]):=by
 have:=h.m;refine⟨by simp only[hL,rE];omega,by simp[h.len],λg bE=>?_,λi aKE s' G U=>?_⟩;·
  rcases List.mem_append.1 bE with bE|bE;·exact h.tN g bE
  ·rw[List.mem_singleton.1 bE];exact a7
 ·
  have aZ:=h.len;rw[Gl]at G U;split at G;·rw[if_pos D]at U;exact h.eM i aKE s' G U
  ·
   rw[if_neg D]at U;rw[Gu]at G U;split at G;·rw[if_pos D]at U;cases G;cases U;exact aF
   ·cases G
def aVC(c zG:Nat)(x:bP Int)(k n Mc:Nat)(rR:Value)(TN:Option Addr)(R:aP)(K:nL x R)(Y:k<=x.l.length)(bA:n<=100):
 aM prog 22 [.pointer (some ⟨c,0,none⟩),.pointer (some ⟨zG,0,none⟩)].toArray [hI c x k,⟨zG,[rR,.slice TN n Mc,.slice none 0 0,.slice none 0 0],32⟩] R
  (λv E R'=>∃(bD:J hT) (a8:J gV) (k6 lX:J Int) (c3:Nat) (S:aP),v=.agg #[k6.val,lX.val]/\(bD.ok 4 hT.cells/\a8.ok 3 gV.cells/\k6.ok 1 aR/\lX.ok 1 aR)/\JI n 0 bD.l k6.l/\JF n 0 a8.l lX.l/\
   (∀f∈bD.l,aN f.eJ S)/\(∀d∈a8.l,aN d.eJ S)/\c3<=x.l.length/\
   hI c x c3::⟨zG,[rR,.slice TN n Mc,bD.val,a8.val],32⟩::(bD.L 147 hT.cells++(a8.L 149 gV.cells++(k6.L 3 aR++(lX.L 3 aR++[]))))=E/\S++R=R'):=by
 refine cX 88 call22 func22 rfl rfl rfl ?_;apply(J8);intro dU;apply iG∘dO;intro fK;apply(OC);refine aA iX rfl ?_;apply xG∘kB∘iS;refine dN rfl (AP lZ K Y D) rfl ?_;rintro v E R' ⟨s1,g8,rfl,g1,KE,b0s,g6,rfl,rfl⟩;apply(pR);refine e3 [(0,.pointer _),(1,.pointer _),(4,.pointer _),(5,.pointer _),(6,.int _ _),(7,.int _ _)] cB λg9=>?_;refine oM ([7]++dJ 18 34) ((⟨λg=>[(7,.int .i64 g.1.2.1)],λg=>⟨fK,[g.1.2.2.2.1.val,.slice none 0 0],35⟩::⟨dU,[.slice none 0 0,.slice none 0 0],35⟩::hI c x g.1.1::⟨zG,[rR,.slice TN n Mc,g.1.2.2.1.val,.slice none 0 0],32⟩::(g.1.2.2.1.L 147 hT.cells++(g.1.2.2.2.1.L 3 aR++[])),λg=>g.1.2.2.2.2++R,λg=>g.1.2.1.toNat⟩:e0 {g:Nat×Int×J hT×J Int×aP//g.1<=x.l.length/\(∃m,g.2.1<=m/\JI n m g.2.2.1.l g.2.2.2.1.l)/\(g.2.2.1.ok 4 hT.cells/\g.2.2.2.1.ok 1 aR)/\(∀f∈g.2.2.1.l,aN f.eJ g.2.2.2.2)})) (⟨(g8,s1,J.nil,J.nil,[]),g6,⟨s1,oH _,⟨⟨g1,by have:=KE D;simp only[v1];omega⟩,rfl,(λ_ h=>by cases h),(λ_ h=>by cases h)⟩⟩,⟨J.iJ,J.iJ⟩,(λ_ h=>by cases h)⟩) cB aCo eX ?_;rintro⟨⟨gK,m,bD,k6,S⟩,r8,⟨o8,b3b,h0⟩,⟨S2,aAh⟩,jQ⟩ c1;try dsimp only
 dsimp only at r8 b3b h0 S2 aAh jQ;apply nR∘yO∘fD;apply lR (aD:=[_,_]) (j:=2) (b4:=20) rfl rfl aK rfl b2 rfl;·exact JC
 intro o7;apply(dD);refine aJ ?_ ?_<;>intro bI;·
  have WU:nL x (S++R):=K.mono λr h=>aU (by simp[h]);have B8:=h0.m;have qN:=h0.len;refine gG (bY (cC (iH (cC ?_))));refine jV M [26] [0,1,2,3,4,5,6,8,10,12,7,9,11,13,14,15] [16,17,18,19] ([bQ.mk zG _ _]) _ mixed aQ bC b9 ?_;refine p4 (mN X2) rfl rfl rfl rfl ?_;apply(CG);refine fE iX rfl rfl rfl rfl ?_;apply OD∘DY;iterate 3 apply(CG)
  refine mW rfl (AP lZ WU r8 D) rfl rfl ?_;rintro v E R' ⟨oF,eK,rfl,oA,tO,St,j4,rfl,rfl⟩;refine⟨bC,hC,?_⟩;refine mW rfl (YL lZ WU j4 D) rfl rfl ?_;rintro v E R' ⟨CM,mJ,rfl,wR,rfl,rfl⟩;refine⟨bC,hC,?_⟩;refine mW rfl (YL lZ WU wR D) rfl rfl ?_;rintro v E R' ⟨P2,h8,rfl,zO,rfl,rfl⟩;refine⟨bC,hC,?_⟩;refine mW rfl (aUd lZ WU zO) rfl rfl ?_;rintro v E R' ⟨y,Fj,rfl,bB,Et,rfl,rfl⟩;refine⟨bC,hC,?_⟩;have b5f:nL x (Lt y::(S++R)):=WU.mono λr h=>aU (by simp[h]);refine fE (l7 (hB:=[(0,(Value.int _ _).cells.toList),(1,(Value.bool _).cells.toList),(2,(Value.bool _).cells.toList),(3,(Value.slice _ _ _).cells.toList)]) (c9:=[_,_,_,_]) M rfl rfl rfl rfl) rfl rfl rfl rfl ?_;refine RH Wz rfl rfl rfl ?_;rintro v E R' ⟨a8e,rfl,rfl,PD⟩;replace PD:=PD.symm;subst PD;apply(DA);refine pP (jZ (f:=hT.cells) (p:=bD) (a:=⟨oF,CM,P2,y⟩) M rfl rfl rfl rfl (S2) cL j8 rfl kG) rfl rfl rfl ?_;rintro v E R' ⟨aNz,rfl,aAa,rfl,rfl⟩;apply fI∘Ly∘Cn∘A9;refine jV M [] [0,1,2,3,4] [5,6,7] ([bQ.mk fK _ _]) _ mixed aQ bC b9 ?_;apply(OD);refine mW rfl (AP lZ b5f Et D) rfl rfl ?_;rintro v E R' ⟨Ge,Vc,rfl,a1R,a1S,b0w,Ts,rfl,rfl⟩;refine⟨bC,hC,?_⟩;apply(XC);rintro v E R' ⟨aZ2,rfl,rfl,Dv⟩;replace Dv:=Dv.symm;subst Dv;apply(DA);refine pP (jZ (f:=aR) (p:=k6) (a:=Ge) M rfl rfl rfl rfl (aAh) cL j8 rfl kG) rfl rfl rfl ?_;rintro v E R' ⟨b57,rfl,a2E,rfl,rfl⟩;apply fI∘U0∘GO;have aMD:=tO D;have b9Q:=a1S D;exact eG ⟨(Vc,m-1,_,_,Lt y::S),Ts,⟨o8-1,by dsimp only;omega,h0.next D ⟨⟨oA,by dsimp only;omega⟩,bB⟩ ⟨a1R,by omega⟩⟩,⟨aAa,a2E⟩,(λf aH=>by rcases List.mem_append.1 aH with h|h;exact(jQ f h).mono (λr O=>aU sF);rw[List.mem_singleton.1 h];exact aU eY)⟩
 refine oZ (oX (AF (oW (bY (cC (cC ?_))))));have aM5:nL x (S++R):=K.mono λr h=>aU (by simp[h]);apply(IE);refine dN rfl (AP lZ aM5 r8 D) rfl ?_;rintro v E R' ⟨Mb,Fk,rfl,a1T,Sv,aKS,Tt,rfl,rfl⟩;apply(pR);refine e3 [(0,.pointer _),(1,.pointer _),(4,.pointer _),(5,.pointer _),(6,.int _ _),(8,.int _ _)] cB λs4=>?_;refine oM ([8,9]++dJ 54 33) ((⟨λg=>[(8,.int .i64 g.1.2.1)],λg=>⟨fK,[k6.val,g.1.2.2.2.1.val],35⟩::⟨dU,[.slice none 0 0,.slice none 0 0],35⟩::hI c x g.1.1::⟨zG,[rR,.slice TN n Mc,bD.val,g.1.2.2.1.val],32⟩::(bD.L 147 hT.cells++(g.1.2.2.1.L 149 gV.cells++(k6.L 3 aR++(g.1.2.2.2.1.L 3 aR++[])))),λg=>g.1.2.2.2.2++(S++R),λg=>g.1.2.1.toNat⟩:e0 {g:Nat×Int×J gV×J Int×aP//g.1<=x.l.length/\(∃m,g.2.1<=m/\JF n m g.2.2.1.l g.2.2.2.1.l)/\(g.2.2.1.ok 3 gV.cells/\g.2.2.2.1.ok 1 aR)/\(∀d∈g.2.2.1.l,aN d.eJ g.2.2.2.2)})) (⟨(Fk,Mb,J.nil,J.nil,[]),Tt,⟨Mb,oH _,⟨⟨a1T,by have:=Sv D;simp only[v1];omega⟩,rfl,(λ_ h=>by cases h),(λ_ _ _ h=>by cases h)⟩⟩,⟨J.iJ,J.iJ⟩,(λ_ h=>by cases h)⟩) cB aCo eX ?_;rintro⟨⟨Fl,PT,a8,lX,eF⟩,MZ,⟨b5S,b3d,FI⟩,⟨WF,aAi⟩,a9G⟩ c1;try dsimp only
 dsimp only at MZ b3d FI WF aAi a9G;apply nR∘yO∘fD;apply lR (aD:=[_,_]) (j:=2) (b4:=56) rfl rfl aK rfl b2 rfl;·exact JC
 intro o7;apply(dD);refine aJ ?_ ?_<;>intro cK;·have CB:nL x (eF++(S++R)):=aM5.mono λr h=>aU (by simp only[D7]at h|-;exact .inr h);have B8:=FI.m;have qN:=FI.len;apply jK∘iS∘iS∘cJ;refine dN rfl (AP lZ CB MZ D) rfl ?_;rintro v E R' ⟨aOd,b5y,rfl,aKU,a8s,b8t,a9K,rfl,rfl⟩;refine dN rfl (aU3 lZ CB a9K) rfl ?_;rintro v E R' ⟨d,b5z,rfl,a7,a9L,rfl,rfl⟩;have aAT:nL x (d.eJ::(eF++(S++R))):=CB.mono λr h=>aU (K6 _ h);apply(dO);intro jB;apply(J4);refine jV M [67] [0,1,2,3,4,5,6] [7,8,9,10] (_) _ mixed aQ bC b9 ?_;refine p4 (mN X2) rfl rfl rfl rfl ?_;apply(CG);refine fE iX rfl rfl rfl rfl ?_;apply(lS);refine fE qW rfl rfl rfl rfl ?_;refine RH Nf rfl rfl rfl ?_;rintro v E R' ⟨b79,rfl,rfl,a88⟩;replace a88:=a88.symm;subst a88;apply(DA);refine pP (jZ (f:=gV.cells) (p:=a8) (a:=d) M rfl rfl rfl rfl (WF) cL j8 rfl kG) rfl rfl rfl ?_;rintro v E R' ⟨bAK,rfl,b3M,rfl,rfl⟩;apply fI∘Ly∘Cn∘A9;refine jV M [] [0,1,2,3,4,5,6,7] [8,9,10] ([bQ.mk jB _ _,bQ.mk fK _ _]) _ mixed aQ bC b9 ?_;apply OD∘lS;refine fE CP rfl rfl rfl rfl ?_;refine mW rfl (AP lZ aAT a9L (by have:=a7.len;omega)) rfl rfl ?_;rintro v E R' ⟨b6z,Vb,rfl,b0t,b0u,b8p,a9J,rfl,rfl⟩;refine⟨bC,hC,?_⟩;apply(XC);rintro v E R' ⟨Sd,rfl,rfl,PH⟩;replace PH:=PH.symm;subst PH;apply(DA);refine pP (jZ (f:=aR) (p:=lX) (a:=b6z) M rfl rfl rfl rfl (aAi) cL j8 rfl kG) rfl rfl rfl ?_;rintro v E R' ⟨aNF,rfl,aAd,rfl,rfl⟩;apply fI∘U0∘GO;have b9R:=a8s D;have b9O:=b0u (by have:=a7.len;omega);have KH:=a7.aS;exact eG ⟨(Vb,PT-1,_,_,d.eJ::eF),a9J,⟨b5S-1,by dsimp only;omega,FI.next D ⟨⟨by omega,by omega⟩,by rw[KH];exact a7⟩ ⟨b0t,by omega⟩⟩,⟨b3M,aAd⟩,(λf aH=>by rcases List.mem_append.1 aH with h|h;exact(a9G f h).mono (λr O=>aU sF);rw[List.mem_singleton.1 h];exact aU eY)⟩
 apply oS∘LP;refine kN (E:=hI c x Fl::⟨zG,[rR,.slice TN n Mc,bD.val,a8.val],32⟩::(bD.L 147 hT.cells++(a8.L 149 gV.cells++(k6.L 3 aR++(lX.L 3 aR++[]))))) (R':=(eF++S)++R) mM ?aG ?b3 ?b8;case aG=>exact⟨bD,a8,k6,lX,Fl,eF++S,rfl,⟨S2,WF,aAh,aAi⟩,h0.zero,FI.zero,λf aH=>(jQ f aH).mono (λr O=>aU sF),λd a7=>(a9G d a7).mono (λr O=>aU sF),MZ,rfl,rfl⟩
 case b3=>exact bC
 case b8=>exact λr O=>aU (by rw[kF]at O;exact O)
structure Ha(l:List Int)(n:Nat)(m:List Int):Prop where
 len:m.length=n
 val:∀(i:Nat) (v:Int),m[i]?=some v->v= -1\/l[i]?=some v
abbrev VE(l m:List Int):Prop:=Ha l l.length m
def Ha.next{l m:List Int}{n:Nat}(h:Ha l n m){v:Int}(cS:v= -1\/l[n]?=some v):Ha l (n+1) (m++[v]):=by
 have aZ:=h.len;refine⟨by simp[aZ],λi w cE=>?_⟩;rw[Gl]at cE;split at cE;·exact h.val i w cE
 ·
  rw[Gu]at cE;split at cE;·cases cE;(have:i=n:=by omega);rw[this];exact cS
  ·cases cE
def aTo(c:Nat)(x:bP Int)(k:Nat)(a:bT)(s:cG)(R:aP)(K:nL x R)(Y:k<=x.l.length)(aF:u3 s R)(G:s.bD.l.length<=100)(U:s.a8.l.length<=100):
 aM prog 24 [.pointer (some ⟨c,0,none⟩),a.val,s.val].toArray [hI c x k] R
  (λv E R'=>∃(oT pM:J Int) (c3:Nat),v=.agg #[oT.val,pM.val]/\(oT.ok 1 aR/\pM.ok 1 aR)/\VE s.bD.l oT.l/\VE s.a8.l pM.l/\c3<=x.l.length/\hI c x c3::(oT.L 3 aR++(pM.L 3 aR++[]))=E/\R=R'):=by
 have a2T:=aF.bD;have a2S:=aF.a8;refine cX 53 call24 func24 rfl rfl rfl ?_;apply(fC);intro dU;apply(nW);intro fK;apply(dO);intro jN;apply iG∘dO;intro lT;apply mY∘pR;refine e3 [(0,.pointer _),(5,.pointer _),(6,.pointer _),(7,.pointer _),(8,.int _ _)] cB λg9=>?_;refine oM ([8,9]++dJ 12 20) ((⟨λg=>[(8,.int .i64 ((g.1.2.1:Nat):Int))],λg=>⟨lT,[g.1.2.2.val,.slice none 0 0],35⟩::⟨jN,[.slice none 0 0,.slice none 0 0],35⟩::⟨fK,s.cells,35⟩::⟨dU,a.cells,32⟩::hI c x g.1.1::(g.1.2.2.L 3 aR++[]),λ_=>R,λg=>s.bD.l.length-g.1.2.1⟩:e0 {g:Nat×Nat×J Int//g.1<=x.l.length/\g.2.1<=s.bD.l.length/\g.2.2.ok 1 aR/\Ha s.bD.l g.2.1 g.2.2.l})) (⟨(k,0,J.nil),Y,rW _,J.iJ,⟨rfl,(λ_ _ h=>by cases h)⟩⟩) cB (by dsimp only;rw[pC];exact oU _) eX ?_;rintro⟨⟨gK,i,oT⟩,r8,aB,bM,h0⟩ c1;try dsimp only
 dsimp only at r8 aB bM h0;apply nR∘jM∘nD;refine aJ ?_ ?_<;>intro bI;·
  have a2U:=bR (l:=s.bD.l) (k:=i) 0 D;have qN:=h0.len;apply jK∘h1∘A6∘kY∘kB∘iS;refine dN rfl (YL lZ K r8 D) rfl ?_;rintro v E R' ⟨s1,g8,rfl,g6,rfl,rfl⟩;apply(dD);refine aJ ?_ ?_<;>intro cK;·apply e1∘eA;refine eS (bY (dM ?_));exact aO3
  refine gG (bY (dM ?_));exact aO3
 obtain rfl:i=s.bD.l.length:=by omega
 apply D2∘pR;refine e3 [(0,.pointer _),(5,.pointer _),(6,.pointer _),(7,.pointer _),(10,.int _ _)] cB λs4=>?_;refine oM ([10,11]++dJ 32 20) ((⟨λg=>[(10,.int .i64 ((g.1.2.1:Nat):Int))],λg=>⟨lT,[oT.val,g.1.2.2.val],35⟩::⟨jN,[.slice none 0 0,.slice none 0 0],35⟩::⟨fK,s.cells,35⟩::⟨dU,a.cells,32⟩::hI c x g.1.1::(oT.L 3 aR++(g.1.2.2.L 3 aR++[])),λ_=>R,λg=>s.a8.l.length-g.1.2.1⟩:e0 {g:Nat×Nat×J Int//g.1<=x.l.length/\g.2.1<=s.a8.l.length/\g.2.2.ok 1 aR/\Ha s.a8.l g.2.1 g.2.2.l})) (⟨(gK,0,J.nil),r8,rW _,J.iJ,⟨rfl,(λ_ _ h=>by cases h)⟩⟩) cB (by dsimp only;rw[pC];exact oU _) eX ?_;rintro⟨⟨Fl,j,pM⟩,MZ,a6,HE,FI⟩ c1;try dsimp only
 dsimp only at MZ a6 HE FI;apply nR∘jM∘nD;refine aJ ?_ ?_<;>intro dE;·
  have b4O:=bR (l:=s.a8.l) (k:=j) 0 D;have qN:=FI.len;apply jK∘h1∘A6∘kY∘kB∘iS;refine dN rfl (YL lZ K MZ D) rfl ?_;rintro v E R' ⟨oF,eK,rfl,j4,rfl,rfl⟩;apply(dD);refine aJ ?_ ?_<;>intro gZ;·apply e1∘eA;refine eS (bY (dM ?_));exact aO2
  refine gG (bY (dM ?_));exact aO2
 obtain rfl:j=s.a8.l.length:=by omega
 apply oS∘LP;refine cF (hI c x Fl::(oT.L 3 aR++(pM.L 3 aR++[]))) R mM ?_;exact⟨oT,pM,Fl,rfl,⟨bM,HE⟩,h0,FI,MZ,rfl,rfl⟩
end Go.Proofs.YtdiajbdaadlfhaaGreatDoor
namespace Go.Proofs.YtdiajbdaadlfhaaGreatDoor
open Go.Aw Go Go.Proofs.Tryz
def EX(x y:bG):Prop:=y.bJ<=x.bJ/\x.bN<=y.bN
def EX.refl(x:bG):EX x x:=⟨oH _,oH _⟩
def aZE(q:Int):0<=q*q:=by
 rcases Int.le_total 0 q with h|h;·exact x3 h h
 ·have:=x3 Xa Xa;rwa[Int.neg_mul_neg]at this
def a0Q{a b q:Int}(h:a<=b):a*q*q<=b*q*q:=by rw[Mp,Mp];exact a3K h (aZE q)
def aYV{r iT l DV:bG}(h:EX r iT)(k:EX l DV)(q:Int):EX (VC r l q) (VC iT DV q):=by have G:=a0Q (q:=q) h.1;have U:=a0Q (q:=q) h.2;have aO:=k.1;have bW:=k.2;unfold VC EX;split<;>dsimp only<;>omega
def aD6{l:List Int}: ∀{k i:Nat},i<k->N0 l k<=l.getD i 0/\l.getD i 0<=NY l k
 |0,i,h=>absurd h D
 |k+1,i,h=>by
  simp only[N0,NY]
  rcases Mu (Mx h)with cD|cD
  ·have:=aD6 (l:=l) cD;omega
  ·subst cD;omega
def aFU(d:gV)(s t:Int):Prop:=t=s\/(t= -1/\-1<=s/\s<d.hY.l.length)
def aEG(s t:Int):Prop:=t=s\/(t= -1/\-1<=s/\s<=2)
def aVX{d:gV}{s t:Int}(h:aFU d s t):EX (q7 d s) (q7 d t):=by
 rcases h with h|⟨G,U,aO⟩;·rw[h];exact .refl _
 ·
  rw[G];by_cases aF:s= -1;·rw[aF];exact .refl _
  ·have:=aD6 (l:=d.hY.l) (k:=d.hY.l.length) (i:=s.toNat) D;unfold q7;rw[if_neg D,if_neg aF,if_neg D,if_pos rfl];exact this
def aY6{f:hT}{s t:Int}(h:aEG s t)(q:Int):EX (nB f s q) (nB f t q):=by
 rcases h with h|⟨G,U,aO⟩;·rw[h];exact .refl _
 ·
  rw[G];have key:∀b:Bool,EX (tK f.hJ.l b q) (nB f (-1) q):=λb=>by unfold nB EX;rw[if_neg aX,if_neg aX,if_pos rfl];cases b<;>dsimp only<;>omega
  rw[nB];split;·exact key _
  ·
   split;·exact key _
   ·
    split;·rename_i h;unfold nB;rw[if_neg aX,if_neg aX,if_pos rfl];exact .refl _
    ·unfold nB EX;rw[if_neg aX,if_neg aX,if_pos rfl];dsimp only;omega
structure Zo(a:bT)(s t:cG):Prop where
 nF:∀k,k<a.bD.l.length->aEG (s.bD.l.getD k 0) (t.bD.l.getD k 0)
 tN:∀k,k<a.a8.l.length->aFU (a.a8.l.getD k default) (s.a8.l.getD k 0) (t.a8.l.getD k 0)
def aHp{a:bT}{s t:cG}(h:Zo a s t)(r:Int): ∀k,k<=a.a8.l.length->EX (p3 a s r k) (p3 a t r k)
 |0,_=>.refl _
 |k+1,Y=>by
  have cA:=aHp h r k D
  have a7:=aVX (h.tN k D)
  unfold EX at*
  simp only[p3]
  split
  ·dsimp only;omega
  ·exact cA
def aJl{a:bT}{s t:cG}(h:Zo a s t)(r q:Int): ∀k,k<=a.bD.l.length->EX (qP a s r q k) (qP a t r q k)
 |0,_=>aYV (aHp h r _ (gS _)) (.refl _) q
 |k+1,Y=>by
  have cA:=aJl h r q k D
  have a7:=aY6 (f:=a.bD.l.getD k default) (h.nF k D) q
  unfold EX at*
  simp only[qP]
  split
  ·dsimp only;omega
  ·exact cA
def aXv{a:bT}{s t:cG}(h:Zo a s t)(r q:Int):EX (kA a s r q) (kA a t r q):=aJl h r q _ (gS _)
def x6(a8:List gV)(lX:List Int)(r:Int):Nat->Int
 |0=>0
 |k+1=>if(a8.getD k default).aS=r then x6 a8 lX r k+(q7 (a8.getD k default) (lX.getD k 0)).bJ else x6 a8 lX r k
def B4(bD:List hT)(k6:List Int)(r q:Int):Nat->Int
 |0=>0
 |k+1=>if(bD.getD k default).aS=r then B4 bD k6 r q k+(nB (bD.getD k default) (k6.getD k 0) q).bJ else B4 bD k6 r q k
def a6M{d:gV}{aS:Int}(a7:Hf aS d){s:Int}(aF:0<=s/\s<d.hY.l.length):(q7 d s).bJ=(q7 d s).bN/\0<=(q7 d s).bJ/\(q7 d s).bJ<=900:=by have aZ:=a7.len;have:=a7.aC s.toNat _ (bR 0 D);unfold q7;rw[if_neg D,if_neg D];dsimp only;omega
def aDL{l:List hU}(h:YP l)(q:Int):0<=(r4 l q).bJ/\(r4 l q).bJ<=(r4 l q).bN/\(r4 l q).bN<=3000:=by
 cases l with
 |nil=>simp[r4]
 |cons p aC=>
  have bV:=h.ok.vV 0 p rfl;have gJ:=h.a3z;simp only[List.getD_cons_zero]at gJ;unfold r4;dsimp only;split;·dsimp only;omega
  ·have:=Ry aC p q h.ok D;omega
def a0G{l:List hU}(h:YP l)(hX:Bool)(q:Int):-3000<=(tK l hX q).bJ/\(tK l hX q).bJ<=(tK l hX q).bN/\(tK l hX q).bN<=3000:=by have G:=aDL h q;have U:=aDL h (-q);unfold tK Ch;exact aBT
def a5D{f:hT}(h:YP f.hJ.l)(s q:Int):-3000<=(nB f s q).bJ/\(nB f s q).bJ<=(nB f s q).bN/\(nB f s q).bN<=3000:=by
 have G:=a0G h f.hX q;have U:=a0G h (!f.hX) q;have aO:=a0G h false q;have bW:=a0G h true q;unfold nB;split;·omega
 ·
  split;·omega
  ·split<;>dsimp only<;>omega
def a0E{n:Nat}{m:Int}{a8:List gV}{lX:List Int}(h:JF n m a8 lX)(r:Int): ∀k,k<=a8.length->0<=x6 a8 lX r k/\x6 a8 lX r k<=900*(k:Int)
 |0,_=>by simp[x6]
 |k+1,Y=>by
  have cA:=a0E h r k D
  have aZ:=h.len
  have bE:=bR (l:=a8) (k:=k) default D
  have aT:=a6M (h.tN _ (hS bE)).W1 (h.eM k _ _ bE (bR 0 D))
  simp only[x6]
  split<;>omega
def a0I{n:Nat}{m:Int}{bD:List hT}{k6:List Int}(h:JI n m bD k6)(r q:Int): ∀k,k<=bD.length-> -3000*(k:Int)<=B4 bD k6 r q k/\B4 bD k6 r q k<=3000*(k:Int)
 |0,_=>by simp[B4]
 |k+1,Y=>by
  have cA:=a0I h r q k D
  have bE:=bR (l:=bD) (k:=k) default D
  have aT:=a5D (h.nF _ (hS bE)).hJ (k6.getD k 0) q
  simp only[B4]
  split<;>omega
def Xx.ok{n:Nat}{f:hT}(h:Xx n f):JH f:=⟨h.aS.1,h.hJ.len.1,by have:=h.hJ.len;omega,h.hJ.ok⟩
def Xu.ok{n:Nat}{d:gV}(h:Xu n d):Gz d:=⟨h.aS.1,by have:=h.W1.len;omega,λi x K=>by have:=h.W1.aC i x K;omega,h.W1.Kb⟩
def ZA(r:cR)(e VO Sp d q:Int):Int:=(r.aC.bJ+e+VO)*max q (-q)*q-d-Sp
def aGp(VO Sp d q:Int)(r iT:cR):Prop:=
 ∃e u v:Int,(0<=e/\e<=r.aC.bN-r.aC.bJ)/\(0<=u/\u<=29)/\(0<=v/\v<=29)/\iT={r with fQ:=⟨ZA r e VO Sp d q-u,ZA r e VO Sp d q+v⟩}
def aEa{R q:Int}(b8:0<=R/\R<=2000)(bZ:-360<=q/\q<=360):(0<=R*max q (-q)/\R*max q (-q)<=720000)/\-259200000<=R*max q (-q)*q/\R*max q (-q)*q<=259200000:=by
 have a1:0<=max q (-q)/\max q (-q)<=360:=by omega
 generalize max q (-q)=m at*;have G:=x3 b8.1 a1.1;have U:=JA b8.2 a1.2 a1.1 D;generalize R*m=z at*;refine⟨by omega,?_⟩;rcases Int.le_total 0 q with h|h;·have aO:=x3 G h;have bW:=JA (show z<=720000 by omega) bZ.2 h D;omega
 ·have aO:=x3 G Xa;have bW:=JA (show z<=720000 by omega) (show -q<=360 by omega) D D;rw[Mt]at aO bW;omega
def aVg{R q:Int}:R*max q (-q)*q=if q<0 then -(R*q*q)else R*q*q:=by
 split;·rw[show max q (-q)= -q by omega,Mt,Gn]
 ·rw[show max q (-q)=q by omega]
def aSs{a:bT}{s:cG}{n:Nat}{m o8:Int}(hR:JI n m a.bD.l s.bD.l)(h0:JF n o8 a.a8.l s.a8.l){i:Nat}{CL:cR}{d q:Int}(zQ:CL.aC.bJ<=CL.aC.bN)
 (o6:aGp (x6 a.a8.l s.a8.l i a.a8.l.length) (B4 a.bD.l s.bD.l i q a.bD.l.length) d q CL (a.aE.Z.l.getD i default)):
 (kA a s i q).bJ<=d/\d<=(kA a s i q).bN:=by
 obtain⟨e,u,v,V,cZ,cS,O⟩:=o6;have zS:(a.aE.Z.l.getD i default).aC=CL.aC:=by rw[O]
 have b26:(a.aE.Z.l.getD i default).fQ=⟨ZA CL e (x6 a.a8.l s.a8.l i a.a8.l.length) (B4 a.bD.l s.bD.l i q a.bD.l.length) d q-u,ZA CL e (x6 a.a8.l s.a8.l i a.a8.l.length) (B4 a.bD.l s.bD.l i q a.bD.l.length) d q+v⟩:=by rw[O]
 have MU:∀k,k<=a.a8.l.length->p3 a s i k=⟨CL.aC.bJ+x6 a.a8.l s.a8.l i k,CL.aC.bN+x6 a.a8.l s.a8.l i k⟩:=by
  intro k;induction k with
  |zero=>intro _;simp only[p3,x6,tZ,zS,Int.add_zero]
  |succ k cA=>
   intro Y;have bE:=bR (l:=a.a8.l) (k:=k) default D;have aZ:=h0.len;have aT:=a6M (h0.tN _ (hS bE)).W1 (h0.eM k _ _ bE (bR 0 D));simp only[p3,x6,cA D];split;·rw[<-aT.1];simp only[Int.add_assoc]
   ·rfl
 have V6:∀k,k<=a.bD.l.length->(qP a s i q k).bJ+B4 a.bD.l s.bD.l i q k<=(qP a s i q 0).bJ/\(qP a s i q k).bN+B4 a.bD.l s.bD.l i q k=(qP a s i q 0).bN:=by
  intro k;induction k with
  |zero=>intro _;simp only[B4];omega
  |succ k cA=>
   intro Y;have cA:=cA D;have bE:=bR (l:=a.bD.l) (k:=k) default D;have aT:=a5D (hR.nF _ (hS bE)).hJ (s.bD.l.getD k 0) q;rw[qP.eq_2,B4.eq_2];split;·dsimp only;omega
   ·exact cA
 have G:=V6 _ (gS _);have bV:qP a s i q 0=VC ⟨CL.aC.bJ+x6 a.a8.l s.a8.l i a.a8.l.length,CL.aC.bN+x6 a.a8.l s.a8.l i a.a8.l.length⟩ (a.aE.Z.l.getD i default).fQ q:=by rw[qP,MU _ (gS _),tZ]
 rw[bV,b26]at G;unfold kA;generalize qP a s i q a.bD.l.length=I at*;generalize B4 a.bD.l s.bD.l i q a.bD.l.length=Sp at*;generalize x6 a.a8.l s.a8.l i a.a8.l.length=VO at*;unfold ZA at G;rw[aVg]at G;have g8:=a0Q (q:=q) (show CL.aC.bJ+VO<=CL.aC.bJ+e+VO by omega);have eK:=a0Q (q:=q) (show CL.aC.bJ+e+VO<=CL.aC.bN+VO by omega);unfold VC at G;dsimp only at G;by_cases bZ:q<0;·rw[if_pos bZ,if_pos bZ]at G;dsimp only at G;omega
 ·rw[if_neg bZ,if_neg bZ]at G;dsimp only at G;omega
end Go.Proofs.YtdiajbdaadlfhaaGreatDoor
namespace Go.Proofs.YtdiajbdaadlfhaaGreatDoor
open Go.Aw Go Go.Proofs.Tryz
set_option maxRecDepth 20000
attribute [local irreducible] cO dG dP aM cI dR fA e2 e5 fB eQ e9 J.L
structure a5R(jD:Nat)(r:cR):Prop where
 bK:0<=r.bK/\r.bK<jD
 to:0<=r.to/\r.to<jD
 aC:1<=r.aC.bJ/\r.aC.bJ<=r.aC.bN/\r.aC.bN<=22
abbrev US(eM:tE)(r:cR):Int:=eM.b5.l.getD r.bK.toNat 0-eM.b5.l.getD r.to.toNat 0
def a5n(a:bT)(s:cG)(eM:tE)(i:Nat)(r iT:cR):Prop:=
 aGp (x6 a.a8.l s.a8.l i a.a8.l.length) (B4 a.bD.l s.bD.l i (eM.iC.l.getD i 0) a.bD.l.length) (US eM r) (eM.iC.l.getD i 0) r iT
structure X8(a:bT)(s:cG)(eM:tE)(jU:List cR)(i:Nat)(l:List cR):Prop where
 len:l.length=jU.length
 done:∀(j:Nat) (r:cR),j<i->jU[j]?=some r->∃iT,l[j]?=some iT/\a5n a s eM j r iT
 zZ:∀j,i<=j->l[j]?=jU[j]?
def X8.next{a:bT}{s:cG}{eM:tE}{jU l:List cR}{i:Nat}(h:X8 a s eM jU i l){r iT:cR}(O:jU[i]?=some r)(aH:a5n a s eM i r iT):X8 a s eM jU (i+1) (l.set i iT):=by
 have aB:=(List.getElem?_eq_some_iff.1 O).1;refine⟨by simp[h.len],λj q a6 bZ=>?_,λj a6=>?_⟩;·
  rcases Mu (Mx a6)with cD|cD;·rw[P7 D];exact h.done j q cD bZ
  ·subst cD;rw[O]at bZ;cases bZ;exact⟨iT,I8 (by rw[h.len];exact aB),aH⟩
 ·rw[P7 D];exact h.zZ j D
def aTs(c zG:Nat)(x:bP Int)(k n:Nat)(rR:Value)(a:bT)(s:cG)(eM:tE)(Z:J cR)(R:aP)(K:nL x R)(Y:k<=x.l.length)(bM:Z.ok 10 cR.cells)
 (V6:aN (SJ a.bD) R) (MU:aN (O1 a.a8) R) (aF:u3 s R) (cW:a5U eM R) (hR:JI n 0 a.bD.l s.bD.l) (h0:JF n 0 a.a8.l s.a8.l) (bZ:Z.l.length=eM.iC.l.length) (sU:Z.l.length<=100)
 (aAr:∀(i:Nat) (q:Int),eM.iC.l[i]?=some q->-360<=q/\q<=360) (WH:∀(i:Nat) (p:Int),eM.b5.l[i]?=some p->-4000<=p/\p<=4000) (O:∀(i:Nat) (r:cR),Z.l[i]?=some r->a5R eM.b5.l.length r):
 aM prog 23 [.pointer (some ⟨c,0,none⟩),.pointer (some ⟨zG,0,none⟩),s.val,eM.val].toArray (hI c x k::⟨zG,[rR,Z.val,a.bD.val,a.a8.val],32⟩::(Z.L 53 cR.cells++[])) R
  (λv E R'=>∃(fM:List cR) (c3:Nat),v=.tuple #[]/\X8 a s eM Z.l Z.l.length fM/\c3<=x.l.length/\hI c x c3::⟨zG,[rR,Z.val,a.bD.val,a.a8.val],32⟩::((⟨Z.o,fM⟩:J cR).L 53 cR.cells++[])=E/\R=R'):=by
 have a2T:=aF.bD;have a2S:=aF.a8;have B9:=cW.b5;have b90:=cW.iC;have aK9:=hR.m;have Kg:=hR.len;have a8z:=h0.m;have Kf:=h0.len;refine cX 166 call23 func23 rfl rfl rfl ?_;apply(fC);intro jN;apply(nW);intro lT;apply iG∘pR;refine e3 [(0,.pointer _),(1,.pointer _),(6,.pointer _),(7,.pointer _),(8,.int _ _)] cB λg9=>?_;refine m6 (dJ 8 158) ((⟨λg=>[(8,.int .i64 ((g.1.2.1:Nat):Int))],λg=>⟨lT,eM.cells,37⟩::⟨jN,s.cells,35⟩::hI c x g.1.1::⟨zG,[rR,(⟨Z.o,g.1.2.2⟩:J cR).val,a.bD.val,a.a8.val],32⟩::((⟨Z.o,g.1.2.2⟩:J cR).L 53 cR.cells++[]),λ_=>R,λg=>Z.l.length-g.1.2.1⟩:e0 {g:Nat×Nat×List cR//g.1<=x.l.length/\g.2.1<=Z.l.length/\(⟨Z.o,g.2.2⟩:J cR).ok 10 cR.cells/\X8 a s eM Z.l g.2.1 g.2.2})) (⟨(k,0,Z.l),Y,rW _,bM,⟨rfl,(λ_ _ h=>absurd h (Nat.not_lt_zero _)),(λ_ _=>rfl)⟩⟩) ?_;rintro⟨⟨gK,i,fM⟩,r8,aB,WG,hP⟩ c1;try dsimp only
 dsimp only at r8 aB WG hP;have S4:=hP.len;apply nR∘iS;refine aA iX rfl ?_;apply xG∘nD;refine aJ ?_ ?_<;>intro bI;·
  have zQ:=bR (l:=Z.l) (k:=i) default D;obtain⟨r,zR⟩:∃r,r=Z.l.getD i default:=⟨_,rfl⟩;rw[<-zR]at zQ;have a2O:fM[i]?=some r:=by rw[hP.zZ i (gS _)];exact zQ
  have rA:=O i r zQ;have FU:=rA.aC;have a2N:=rA.bK;have aAw:=rA.to;obtain⟨q,WN⟩:∃q,q=eM.iC.l.getD i 0:=⟨_,rfl⟩;have Uo:=bR (l:=eM.iC.l) (k:=i) 0 D;rw[<-WN]at Uo;have KL:=aAr _ _ Uo;have yJ:=bR (l:=eM.b5.l) (k:=r.bK.toNat) 0 D;have Ez:=bR (l:=eM.b5.l) (k:=r.to.toNat) 0 D;have b9E:=WH _ _ yJ;have b9N:=WH _ _ Ez;have Ey:-8000<=US eM r/\US eM r<=8000:=by dsimp only[US];omega
  apply jK∘iS;refine aA iX rfl ?_;apply gF∘h1;refine aA (iV M ((⟨Z.o,fM⟩:J cR)) _ rfl rfl rfl rfl bS (i:=i) c7 iY) rfl ?_;apply Ap∘iG∘h1∘A6∘kY∘E9;refine jR M [0,1,2,3,4,5,6,7,8,9,10,11,12,13,14,15,16,17,18,19,20] ([bQ.mk zG _ _]++((⟨Z.o,fM⟩:J cR).L 53 cR.cells++[])) mixed aQ bC ?_;apply Cq∘TL∘Vq∘Lu∘Cq∘TL∘Vq∘Cq∘TL∘Vq∘A7∘P1;refine zD rfl (AP lZ K r8 D) rfl rfl ?_;rintro v E R' ⟨e,g8,rfl,g1,KE,b0s,g6,rfl,rfl⟩;refine⟨bC,hC,?_⟩;apply P1∘HP;refine jI (bY (cC (cC ?_)));have b8q:=KE D;apply e1∘pR;refine ON (dJ 8 158) QD [(8,.int _ _),(9,.pointer _),(10,.int _ _),(11,.int _ _),(12,.int _ _)] cB λs4=>?_;refine lF ([11,12]++dJ 57 35) (λg:{g:Nat×Int//g.1<=a.a8.l.length/\g.2=r.aC.bJ+e+x6 a.a8.l s.a8.l i g.1}=>[(12,.int .i64 ((g.1.1:Nat):Int)),(11,.int .i64 g.1.2)]) (λg=>a.a8.l.length-g.1.1) (⟨(0,r.aC.bJ+e),rW _,(Int.add_zero _).symm⟩) ?_;rintro⟨⟨CE,tW⟩,aMb,a2Q⟩ c1;try dsimp only
  dsimp only at aMb a2Q;apply nR∘iS;refine aA iX rfl ?_;apply jM∘nD;refine aJ ?_ ?_<;>intro cK;·
   have HA:=bR (l:=a.a8.l) (k:=CE) default D;have wT:=bR (l:=s.a8.l) (k:=CE) 0 D;have aL0:=a0E h0 i CE D;have Z7:=a6M (h0.tN _ (hS HA)).W1 (h0.eM CE _ _ HA wT);apply jK∘iS;refine aA iX rfl ?_;apply h1∘A6∘tG∘cJ∘AL;refine aJ ?_ ?_<;>intro dE;·refine jR M [0,1,2,3,4,5,6,7,8,9,10,11,12,13,14,15,16] _ mixed aQ iP ?_;apply j7∘N9∘uH∘Vo∘aBy∘uH∘Vo∘s0;refine xZ rfl (aWR (a.a8.l.getD CE default) (s.a8.l.getD CE 0) _ _ (MU.tN HA)) ?_;refine b7 aCV rfl rfl rfl ?_;apply P1∘HP∘KV∘Cp;exact aO8
   apply(Cs);exact aO8
  obtain rfl:CE=a.a8.l.length:=by omega
  have aL0:=a0E h0 i a.a8.l.length (gS _);have b9m:=aEa (R:=tW) (q:=q) D KL;apply(ND);refine jR M [0,1,2,3,4,5,6,7,8,9,10,11,12,13,14,15,16,17,18,19,20,21,22,23,24,25,26] _ mixed aQ iP ?_;iterate 3 apply(j7)
  refine b7 (Pp rfl D D) rfl rfl rfl ?_;refine b7 NO rfl rfl rfl ?_;apply a3t∘j7∘a3t∘nQ∘Cq∘Vq;refine b7 (by first|exact j9 M rfl rfl rfl rfl i6 (i:=r.bK.toNat) c7 D|exact jF M rfl rfl rfl rfl (i:=r.bK.toNat) c7 D) rfl rfl rfl ?_;apply s0∘nQ∘Cq∘Vq;refine b7 (by first|exact j9 M rfl rfl rfl rfl i6 (i:=r.to.toNat) c7 D|exact jF M rfl rfl rfl rfl (i:=r.to.toNat) c7 D) rfl rfl rfl ?_;apply s0∘A7∘A7∘HP∘XB∘pR;refine ON (dJ 8 158) QD [(8,.int _ _),(9,.pointer _),(10,.int _ _),(13,.int _ _),(14,.int _ _)] cB λGg=>?_;refine lF ([13,14]++dJ 118 36) (λg:{g:Nat×Int//g.1<=a.bD.l.length/\g.2=tW*max q (-q)*q-US eM r-B4 a.bD.l s.bD.l i q g.1}=>[(14,.int .i64 ((g.1.1:Nat):Int)),(13,.int .i64 g.1.2)]) (λg=>a.bD.l.length-g.1.1) (⟨(0,tW*max q (-q)*q-US eM r),rW _,(Int.sub_zero _).symm⟩) ?_;rintro⟨⟨PR,WZ⟩,Ev,Tx⟩ c1;try dsimp only
  dsimp only at Ev Tx;apply nR∘iS;refine aA iX rfl ?_;apply jM∘nD;refine aJ ?_ ?_<;>intro gZ;·
   have V7:=bR (l:=a.bD.l) (k:=PR) default D;have wT:=bR (l:=s.bD.l) (k:=PR) 0 D;have PM:=a0I hR i q PR D;have Kr:=hR.nF _ (hS V7);have S5:=a5D Kr.hJ (s.bD.l.getD PR 0) q;have aMS:=hR.eM _ (hS wT);apply jK∘iS;refine aA iX rfl ?_;apply h1∘A6∘tG∘cJ∘AL;refine aJ ?_ ?_<;>intro fW;·refine jR M [0,1,2,3,4,5,6,7,8,9,10,11,12,13,14,15,16,17] _ mixed aQ iP ?_;apply j7∘N9∘uH∘Vo∘aOa∘uH∘Vo∘s0∘j7;refine xZ rfl (aYK (a.bD.l.getD PR default) (s.bD.l.getD PR 0) q _ _ (V6.nF V7) Kr.ok D D) ?_;refine b7 aCV rfl rfl rfl ?_;apply A7∘HP∘KV∘Cp;exact aO9
   apply(Cs);exact aO9
  obtain rfl:PR=a.bD.l.length:=by omega
  have PM:=a0I hR i q a.bD.l.length (gS _);refine oZ (oX (AF (oW (bY (dM ?_)))));apply iS∘cJ∘iS∘aGY;rintro v E R' ⟨u,eK,rfl,oA,tO,St,j4,rfl,rfl⟩;apply oD∘cJ∘iS∘a6B;rintro v E R' ⟨w,mJ,rfl,g3,VT,a1Q,wR,rfl,rfl⟩;have aKP:=tO D;apply oE∘CH;refine aA iX rfl ?_;apply(w0);refine mO (N4 M ((⟨Z.o,fM⟩:J cR)) ({r with fQ:=⟨WZ-u,WZ+w⟩}) rfl rfl rfl rfl cL bS bH bS (s6 rfl) aK aK) ?_;rintro v E R' ⟨rfl,rfl⟩;apply(Y5);have aKQ:=VT D;exact lP ⟨(mJ,i+1,fM.set i {r with fQ:=⟨WZ-u,WZ+w⟩}),wR,by dsimp only;omega,J.yS (p:=⟨Z.o,fM⟩) bH WG,hP.next zQ ⟨e,u,w,by omega,by omega,by omega,by rw[ZA,<-a2Q,<-WN,<-Tx]⟩⟩ hM cB Wt eX kM
 obtain rfl:i=Z.l.length:=by omega
 refine oZ (oX (AF (oW ?_)));refine ZC (E:=hI c x gK::⟨zG,[rR,Z.val,a.bD.val,a.a8.val],32⟩::((⟨Z.o,fM⟩:J cR).L 53 cR.cells++[])) (R':=R) (YF rfl) ?aG ?b3 ?b8;case aG=>exact⟨fM,gK,rfl,hP,r8,rfl,rfl⟩
 case b3=>
  have e:Z.val=(⟨Z.o,fM⟩:J cR).val:=by simp only[J.val,S4]
  rw[e];exact bC
 case b8=>exact oV _
def aR9{A B:aW}{c zG:Nat}{x:bP Int}{k n:Nat}{rR:Value}{Z:J cR}{bD:J hT}{a8:J gV}{k6 lX b5 iC:J Int}{R:aP}(aE:eC)
 (B9:nA A B (Z.L 53 cR.cells++(hI c x k::⟨zG,[rR,Z.val,bD.val,a8.val],32⟩::[])))
 (fT:pA (bD.L 147 hT.cells) B) (eN:pA (a8.L 149 gV.cells) B) (e4:pA (k6.L 3 aR) B) (dU:pA (lX.L 3 aR) B) (fK:pA (b5.L 3 aR) B) (jN:pA (iC.L 3 aR) B)
 (W5:bD.ok 4 hT.cells) (Lp:a8.ok 3 gV.cells) (Fu:k6.ok 1 aR) (M9:lX.ok 1 aR) (Fv:b5.ok 1 aR) (b6d:iC.ok 1 aR) (s1:∀f∈bD.l,aN f.eJ R) (oF:∀d∈a8.l,aN d.eJ R)
 (K:nL x R) (Y:k<=x.l.length) (bM:Z.ok 10 cR.cells) (hR:JI n 0 bD.l k6.l) (h0:JF n 0 a8.l lX.l) (bZ:Z.l.length=iC.l.length) (sU:Z.l.length<=100)
 (aAr:∀(i:Nat) (q:Int),iC.l[i]?=some q->-360<=q/\q<=360) (WH:∀(i:Nat) (p:Int),b5.l[i]?=some p->-4000<=p/\p<=4000) (O:∀(i:Nat) (r:cR),Z.l[i]?=some r->a5R b5.l.length r):
 aM prog 23 [.pointer (some ⟨c,0,none⟩),.pointer (some ⟨zG,0,none⟩),.agg #[k6.val,lX.val],.agg #[b5.val,iC.val]].toArray A R
  (λv hA R'=>∃(fM:List cR) (c3:Nat),v=.tuple #[]/\X8 ⟨aE,bD.W,a8.W⟩ ⟨k6.W,lX.W⟩ ⟨b5.W,iC.W⟩ Z.l Z.l.length fM/\c3<=x.l.length/\
   B++(hI c x c3::⟨zG,[rR,Z.val,bD.val,a8.val],32⟩::((⟨Z.o,fM⟩:J cR).L 53 cR.cells++[]))=hA/\R=R'):=by
 have h:=aTs c zG x k n rR ⟨aE,bD.W,a8.W⟩ ⟨k6.W,lX.W⟩ ⟨b5.W,iC.W⟩ Z ([SJ bD.W,O1 a8.W,dW k6.W,dW lX.W,dW b5.W,dW iC.W]++R) (K.mono λr h=>aU (by simp[h])) Y bM
  (aU eY) (aU eY) ⟨aU eY,aU eY⟩ ⟨aU eY,aU eY⟩ hR h0 bZ sU aAr WH O
 have U:=aM.TB (S:=[SJ bD.W,O1 a8.W,dW k6.W,dW lX.W,dW b5.W,dW iC.W]) (Post:=λv E=>∃(fM:List cR) (c3:Nat),v=.tuple #[]/\X8 ⟨aE,bD.W,a8.W⟩ ⟨k6.W,lX.W⟩ ⟨b5.W,iC.W⟩ Z.l Z.l.length fM/\c3<=x.l.length/\
  (hI c x c3::⟨zG,[rR,Z.val,bD.val,a8.val],32⟩::((⟨Z.o,fM⟩:J cR).L 53 cR.cells++[]))=E) B9 (λw aD bF s aF=>?_)
  ((aM.b6o aWn h).mono λv E R' ⟨fM,c3,hO,a2,a3,a4,a5⟩=>⟨⟨fM,c3,hO,a2,a3,a4⟩,a5⟩)
 ·exact U.mono λv hA R' ⟨E,e,⟨fM,c3,hO,a2,a3,a4⟩,a5⟩=>⟨fM,c3,hO,a2,a3,by rw[<-a4]at e;exact e,a5⟩
 ·
  simp only[nX,pO,or_false]at aF;rcases aF with rfl|rfl|rfl|rfl|rfl|rfl;·exact wD bF fT W5 bH aX (λs aF=>by obtain⟨y,bB,rfl⟩:=List.mem_map.1 aF;exact s1 y bB)
  ·exact wD bF eN Lp bH aX (λs aF=>by obtain⟨y,bB,rfl⟩:=List.mem_map.1 aF;exact oF y bB)
  ·exact wD bF e4 Fu bH aX eW
  ·exact wD bF dU M9 bH aX eW
  ·exact wD bF fK Fv bH aX eW
  ·exact wD bF jN b6d bH aX eW
def aYn{A B:aW}{c:Nat}{x:bP Int}{k:Nat}{a:bT}{k6 lX:J Int}{R:aP}(B9:nA A B [hI c x k])(e4:pA (k6.L 3 aR) B)(dU:pA (lX.L 3 aR) B)(Fu:k6.ok 1 aR)(M9:lX.ok 1 aR)
 (K:nL x R) (Y:k<=x.l.length) (G:k6.l.length<=100) (U:lX.l.length<=100):
 aM prog 24 [.pointer (some ⟨c,0,none⟩),a.val,.agg #[k6.val,lX.val]].toArray A R
  (λv hA R'=>∃(oT pM:J Int) (c3:Nat),v=.agg #[oT.val,pM.val]/\(oT.ok 1 aR/\pM.ok 1 aR)/\VE k6.l oT.l/\VE lX.l pM.l/\c3<=x.l.length/\B++(hI c x c3::(oT.L 3 aR++(pM.L 3 aR++[])))=hA/\R=R'):=by
 have h:=aTo c x k a ⟨k6.W,lX.W⟩ ([dW k6.W,dW lX.W]++R) (K.mono λr h=>aU (by simp[h])) Y ⟨aU eY,aU eY⟩ G U;have U:=aM.TB (S:=[dW k6.W,dW lX.W]) (Post:=λv E=> ∃(oT pM:J Int) (c3:Nat),v= .agg #[oT.val,pM.val]/\(oT.ok 1 aR/\pM.ok 1 aR)/\VE k6.l oT.l/\VE lX.l pM.l/\c3<=x.l.length/\hI c x c3::(oT.L 3 aR++(pM.L 3 aR++[]))=E) B9 (λw aD bF s aF=> ?_)
  (h.mono λv E R' ⟨oT,pM,c3,hO,a2,a3,a4,a5,a1y,a79⟩=>⟨⟨oT,pM,c3,hO,a2,a3,a4,a5,a1y⟩,a79⟩)
 ·exact U.mono λv hA R' ⟨E,e,⟨oT,pM,c3,hO,a2,a3,a4,a5,a1y⟩,a79⟩=>⟨oT,pM,c3,hO,a2,a3,a4,a5,by rw[<-a1y]at e;exact e,a79⟩
 ·
  simp only[nX,pO,or_false]at aF;rcases aF with rfl|rfl;·exact wD bF e4 Fu bH aX eW
  ·exact wD bF dU M9 bH aX eW
end Go.Proofs.YtdiajbdaadlfhaaGreatDoor
namespace Go.Proofs.YtdiajbdaadlfhaaGreatDoor
open Go.Aw Go Go.Proofs.Tryz
def N2{aY qE:Type}{f:aY->Option qE}{l:List aY}(h:∀x∈l,f x=none):l.findSome? f=none:=List.findSome?_eq_none_iff.2 h
def aRj{n:Nat}{r:cR}(h:Zk n r)(G:1<=r.len/\r.len<=100000)(U:1<=r.h6/\r.h6<=1000):q1 n r=none:=by have a:=h.bK;have b:=h.to;have c:=h.ne;have d:=a0p.2 h.aC;have e:=a0p.2 h.fQ;unfold q1;rw[if_neg D,if_neg (by rw[d,e];simp only[Bool.true_eq_false,or_false];omega)]
def aQ8{m:eC}(G:m.places.l.length<=64)(U:m.Z.l.length<=128)(aO:∀p∈m.places.l,-10000<=p.tQ/\p.tQ<=10000)(bW:∀r∈m.Z.l,q1 m.places.l.length r=none):iB m=0:=by rw[iB,if_neg D,N2 (λp aG=>by have:=aO p aG;unfold C3;exact if_neg D),N2 bW];rfl
def aZH{f:hT}(h:JH f):L6 f=0:=by
 have a:=h.aS;have b:=h.aA5;have c:=h.a29;rw[L6,if_neg D,if_neg D,N2];·rfl
 ·
  intro i aB;have aB:=List.mem_range.1 aB;obtain⟨p,aG⟩:=lQ aB;have Ez:=h.ok.vV i p aG;unfold GS;rw[aG];dsimp only;rw[if_neg D];by_cases bV:i=0;·rw[if_pos bV]
  ·rw[if_neg bV];obtain⟨q,bZ⟩:=lQ (l:=f.hJ.l) (k:=i-1) D;have cW:=h.ok.eM (i-1) q p bZ (by rw[show i-1+1=i by omega];exact aG);rw[bZ];dsimp only;rw[if_neg D]
def aZR{l:List gV}(G:l.length<=16)(U:∀d∈l,Gz d/\d.sC= -1):C2 l=0:=by
 rw[C2,if_neg D,N2];·rfl
 ·
  intro i aB;obtain⟨d,a7⟩:=lQ (List.mem_range.1 aB);obtain⟨a,b⟩:=U d (hS a7);have c:=a.aS;have e:=a.len;rw[a6N a7,if_neg D,if_neg D,N2 (λx K=>?_)];·dsimp only;rw[if_neg (by rw[a.Kb];decide),if_neg (λh=>h.1 b)]
  ·obtain⟨j,a6⟩:=List.mem_iff_getElem?.1 K;have:=a.aC j x a6;unfold Bv;exact if_neg D
def aYs{a:bT}(G:iB a.aE=0)(U:a.bD.l.length<=8)(aO:∀f∈a.bD.l,JH f/\f.aS<a.aE.Z.l.length)(bW:a.a8.l.length<=16)(dV:∀d∈a.a8.l,(Gz d/\d.sC= -1)/\d.aS<a.aE.Z.l.length):h4 a=0:=by
 rw[a0R G D (N2 (λf aH=>by
  have:=aO f aH;unfold LX;rw[if_neg (by rw[aZH this.1];decide),if_neg D])),aZR bW (λd a7=>(dV d a7).1),if_neg aX,N2 (λd a7=>by
  have:=dV d a7;unfold J1;exact if_neg D)]
 rfl
def aFD{a:bT}{s:cG}(h:Xz a s):mP a s=true:=by
 have G:=h.WZ;have U:=h.aNk;rw[a1f G U,N2 (λx K=>?_),N2 (λi aB=>?_)];·rfl
 ·have aB:=List.mem_range.1 aB;obtain⟨y,bB⟩:=lQ aB;obtain⟨d,a7⟩:=lQ (l:=a.a8.l) (k:=i) D;have:=h.tN i y d bB a7;rw[a7R bB a7];exact if_neg D
 ·obtain⟨j,a6⟩:=List.mem_iff_getElem?.1 K;have:=h.nF j x a6;unfold Qc;exact if_neg D
structure Hi(sh:Nat)(bL:List gL):Prop where
 aBB:1<=sh/\sh<=2
 len:sh<=bL.length/\bL.length<=sh+4
 val:∀(i:Nat) (p:gL),bL[i]?=some p->(-10000<=p.tQ/\p.tQ<=10000)/\p.m7=decide (i<sh)
structure Pd(sh jD:Nat)(i:Nat)(fX:List Int):Prop where
 len:fX.length=jD
 val:∀(j:Nat) (p:Int),fX[j]?=some p->(-4000<=p/\p<=4000)/\(j<sh\/i<=j->p=0)
def Pd.next{sh jD i:Nat}{fX:List Int}(h:Pd sh jD i fX)(aB:sh<=i){p:Int}(aG:-4000<=p/\p<=4000):Pd sh jD (i+1) (fX.set i p):=by
 refine⟨by simp[h.len],λj q bZ=>?_⟩;rw[I9]at bZ;split at bZ;·
  rename_i a2q;split at bZ;·cases bZ;exact⟨aG,λa6=>by omega⟩
  ·cases bZ
 ·have:=h.val j q bZ;exact⟨this.1,λa6=>this.2 D⟩
structure UL(jD:Nat)(r:cR):Prop where
 d:a5R jD r
 ne:r.bK≠r.to
 len:1<=r.len/\r.len<=400
 h6:4<=r.h6/\r.h6<=30
structure YU(jD:Nat)(fM:List cR)(fl:List Int):Prop where
 len:fl.length=fM.length
 aS:∀(i:Nat) (r:cR),fM[i]?=some r->UL jD r
 c8:∀(i:Nat) (q:Int),fl[i]?=some q->-360<=q/\q<=360
 dZ:∀(i:Nat) (r:cR) (q:Int),fM[i]?=some r->fl[i]?=some q->r.dZ=true->q=0
def YU.nil(jD:Nat):YU jD [] []:=⟨rfl,(λ_ _ h=>by cases h),(λ_ _ h=>by cases h),(λ_ _ _ h=>by cases h)⟩
def YU.next{jD:Nat}{fM:List cR}{fl:List Int}(h:YU jD fM fl){r:cR}{q:Int}(O:UL jD r)(bZ:-360<=q/\q<=360)(bU:r.dZ=true->q=0):YU jD (fM++[r]) (fl++[q]):=by
 have aZ:=h.len;have CN:∀{aY:Type} {l:List aY} {x y:aY} {i:Nat},(l++[x])[i]?=some y->l[i]?=some y\/(i=l.length/\y=x):=by
  intro aY l x y i aB;rw[Gl]at aB;split at aB;·exact .inl aB
  ·
   rw[Gu]at aB;split at aB;·cases aB;exact .inr ⟨by omega,rfl⟩
   ·cases aB
 refine⟨by simp[aZ],λi s aF=>?_,λi p aG=>?_,λi s p aF aG jO=>?_⟩;·
  rcases CN aF with aF|⟨_,rfl⟩;·exact h.aS i s aF
  ·exact O
 ·
  rcases CN aG with aG|⟨_,rfl⟩;·exact h.c8 i p aG
  ·exact bZ
 ·
  rcases CN aF with aF|⟨e,rfl⟩;·
   rcases CN aG with aG|⟨r7,_⟩;·exact h.dZ i s p aF aG jO
   ·have:=(List.getElem?_eq_some_iff.1 aF).1;omega
  ·
   rcases CN aG with aG|⟨_,rfl⟩;·have:=(List.getElem?_eq_some_iff.1 aG).1;omega
   ·exact bU jO
def UU(N:List Int)(r:cR)(q:Int):List Int:=
 let vU:=N.set r.bK.toNat (N.getD r.bK.toNat 0+q)
 vU.set r.to.toNat (vU.getD r.to.toNat 0-q)
def zA(fM:List cR)(fl:List Int)(jD:Nat):Nat->List Int
 |0=>List.replicate jD 0
 |k+1=>UU (zA fM fl jD k) (fM.getD k default) (fl.getD k 0)
def aHr(a:bT)(x:tE): ∀k,LW a x k=zA a.aE.Z.l x.iC.l x.b5.l.length k
 |0=>rfl
 |k+1=>by rw[LW,aHr a x k];rfl
def aUH(N:List Int)(r:cR)(q:Int):(UU N r q).length=N.length:=by simp[UU]
def a0M(fM:List cR)(fl:List Int)(jD:Nat): ∀k,(zA fM fl jD k).length=jD
 |0=>by simp[zA]
 |k+1=>by rw[zA,aUH,a0M fM fl jD k]
def aJT{fM m:List cR}{fl o8:List Int}{jD:Nat}(aZ:fl.length=fM.length): ∀k,k<=fM.length->zA (fM++m) (fl++o8) jD k=zA fM fl jD k
 |0,_=>rfl
 |k+1,Y=>by rw[zA,zA,aJT aZ k D,Hw D,Hw D]
def a5K{fM:List cR}{fl:List Int}{jD:Nat}(aZ:fl.length=fM.length)(r:cR)(q:Int):zA (fM++[r]) (fl++[q]) jD (fM++[r]).length=UU (zA fM fl jD fM.length) r q:=by rw[hL,rE,zA,aJT aZ _ (gS _),Rj rfl,Rj aZ.symm]
def aIs{fM P3:List cR}{fl:List Int}{jD:Nat}: ∀k,(∀i,i<k->(P3.getD i default).bK=(fM.getD i default).bK/\(P3.getD i default).to=(fM.getD i default).to)->zA P3 fl jD k=zA fM fl jD k
 |0,_=>rfl
 |k+1,h=>by
  rw[zA,zA,aIs k (λi aB=>h i D)]
  have:=h k D
  unfold UU
  rw[this.1,this.2]
def a1n{l:List Int}{i j:Nat}{v:Int}(aB:i<l.length):(l.set i v).getD j 0=if i=j then v else l.getD j 0:=by
 rw[lN,lN,I9];by_cases h:i=j;·subst h;simp[aB]
 ·simp[h]
def a5g{N:List Int}{r:cR}{q:Int}{jD:Nat}(vO:N.length=jD)(O:UL jD r)(v:Nat):(UU N r q).getD v 0=N.getD v 0+(if r.bK=(v:Int)then q else 0)-(if r.to=(v:Int)then q else 0):=by
 have G:=O.d.bK;have U:=O.d.to;have aO:=O.ne;have jC:¬r.bK.toNat=r.to.toNat:=by omega
 unfold UU;dsimp only;rw[a1n a4M,a1n D,if_neg jC,a1n D];by_cases wN:r.to.toNat=v;·
  have e:r.to=(v:Int):=by omega
  rw[if_pos wN,if_pos e,if_neg D,wN];omega
 ·
  rw[if_neg wN,if_neg (show¬r.to=(v:Int) by omega)];by_cases jS:r.bK.toNat=v;·rw[if_pos jS,if_pos (show r.bK=(v:Int) by omega),jS];omega
  ·rw[if_neg jS,if_neg (show¬r.bK=(v:Int) by omega)];omega
structure JG(jD:Nat)(m:Int)(fM:List cR)(fl:List Int)(kX:List Int):Prop where
 m:0<=m/\(fM.length:Int)+m<=5
 Z:YU jD fM fl
 Fs:kX=zA fM fl jD fM.length
 Mh:∀v,-60*(fM.length:Int)<=kX.getD v 0/\kX.getD v 0<=60*(fM.length:Int)
def JG.len{jD:Nat}{m:Int}{fM:List cR}{fl kX:List Int}(h:JG jD m fM fl kX):kX.length=jD:=by rw[h.Fs];exact a0M _ _ _ _
def JG.zero{jD:Nat}{m:Int}(a1:0<=m/\m<=5):JG jD m [] [] (List.replicate jD 0):=by
 refine⟨by simpa using a1,YU.nil jD,rfl,λv=>?_⟩;have:(List.replicate jD (0:Int)).getD v 0=0:=by rw[lN,K5];split<;>rfl
 rw[this];simp
def JG.next{jD:Nat}{m:Int}{fM:List cR}{fl kX:List Int}(h:JG jD m fM fl kX)(a1:0<m){r:cR}{q:Int}(O:UL jD r)(bZ:-60<=q/\q<=60)(bU:r.dZ=true->q=0):JG jD (m-1) (fM++[r]) (fl++[q]) (UU kX r q):=by have a2x:=h.m;refine⟨by simp only[hL,rE];omega,h.Z.next O D bU,by rw[a5K h.Z.len,h.Fs],λv=>?_⟩;have cS:=h.Mh v;rw[a5g h.len O v];have:=O.ne;simp only[hL,rE];split<;>split<;>omega
structure Hl(sh jD i:Nat)(Ai:List Int)(fM:List cR)(fl:List Int):Prop where
 Z:YU jD fM fl
 len:fM.length+sh<=5+i
 done:∀v,sh<=v->v<i->(zA fM fl jD fM.length).getD v 0=0
 aBA:∀v:Nat,sh<=v->v<i->∃(k:Nat) (r:cR),fM[k]?=some r/\r.dZ=false/\((r.bK=(v:Int)/\r.to<(sh:Int))\/(r.to=(v:Int)/\r.bK<(sh:Int)))
 zZ:∀v,i<=v->(zA fM fl jD fM.length).getD v 0=Ai.getD v 0
def JG.b6C{jD:Nat}{m:Int}{fM:List cR}{fl kX:List Int}(h:JG jD m fM fl kX)(sh:Nat):Hl sh jD sh kX fM fl:=
 ⟨h.Z,by have:=h.m;omega,λv G U=>absurd U D,λv G U=>absurd U D,λv _=>by rw[<-h.Fs]⟩
def Hl.next{sh jD i:Nat}{Ai:List Int}{fM:List cR}{fl:List Int}(h:Hl sh jD i Ai fM fl)(aB:sh<=i){r:cR}{q:Int}(O:UL jD r)(bZ: -360<=q/\q<=360)(bU:r.dZ=false)
 (Ej:(r.bK=(i:Int)/\r.to<(sh:Int)/\q= -(Ai.getD i 0))\/(r.to=(i:Int)/\r.bK<(sh:Int)/\q=Ai.getD i 0)):Hl sh jD (i+1) Ai (fM++[r]) (fl++[q]):=by
 have sU:=h.len;refine⟨h.Z.next O bZ (λjO=>by rw[bU]at jO;cases jO),by simp only[hL,rE];omega,λv G U=>?_,λv G U=>?_,λv G=>?_⟩
 rotate_left
 ·
  rcases Mu (Mx U)with cD|cD;·obtain⟨k,iT,g8,eK⟩:=h.aBA v G cD;exact⟨k,iT,by rw[K4 (List.getElem?_eq_some_iff.1 g8).1];exact g8,eK⟩
  ·subst cD;exact⟨fM.length,r,by rw[XQ (gS _)];simp,bU,by rcases Ej with h|h;exact .inl ⟨h.1,h.2.1⟩;exact .inr ⟨h.1,h.2.1⟩⟩
 rotate_left
 ·
  rw[a5K h.Z.len,a5g (a0M _ _ _ _) O v];rcases Mu (Mx U)with cD|cD;·rw[h.done v G cD,if_neg D,if_neg D];rfl
  ·subst cD;rw[h.zZ v (gS _)];have:=O.ne;split<;>split<;>omega
 ·rw[a5K h.Z.len,a5g (a0M _ _ _ _) O v,h.zZ v D,if_neg D,if_neg D];omega
def aDF{l m:List Int}(h:VE l m){k:Nat}(Y:k<l.length):m.getD k 0= -1\/m.getD k 0=l.getD k 0:=by
 have:=h.len;have bE:=bR (l:=m) (k:=k) 0 D;rcases h.val k _ bE with G|G;·exact .inl G
 ·rw[bR (l:=l) 0 Y]at G;exact .inr (uA G).symm
structure Q3(a:bT)(t:cG)(x:tE):Prop where
 DI:h4 a=0
 O4:mP a t=true
 a8l:a0y a t x=0
 aNo:1<=a.aE.places.l.length/\a.aE.places.l.length<=6
 aNp:a.aE.Z.l.length<=9
 W2:a.bD.l.length<=2
 Fr:a.a8.l.length<=2
 Mh:∀(i:Nat) (r:cR),a.aE.Z.l[i]?=some r->(-260000000<=r.fQ.bJ/\r.fQ.bN<=260000000)/\r.aC.bN<=22
 hJ:∀f∈a.bD.l,YP f.hJ.l
 hY:∀d∈a.a8.l,Hf d.aS d
 bAO:∀p∈x.b5.l,-4000<=p/\p<=4000
 bAV:(a.aE.places.l.getD 0 default).m7=true
 aBA:∀v:Nat,v<a.aE.places.l.length->(a.aE.places.l.getD v default).m7=false->∃k u:Nat,k<a.aE.Z.l.length/\(a.aE.places.l.getD u default).m7=true/\(a.aE.Z.l.getD k default).dZ=false/\(((a.aE.Z.l.getD k default).bK=(v:Int)/\(a.aE.Z.l.getD k default).to=(u:Int))\/((a.aE.Z.l.getD k default).bK=(u:Int)/\(a.aE.Z.l.getD k default).to=(v:Int)))
def aRl{sh:Nat}{a:bT}{s t:cG}{x:tE}{XJ:List cR}{Ai:List Int}(dC:Hi sh a.aE.places.l)(Lg:Pd sh a.aE.places.l.length a.aE.places.l.length x.b5.l)(mI:Hl sh a.aE.places.l.length a.aE.places.l.length Ai XJ x.iC.l)
 (hR:JI XJ.length 0 a.bD.l s.bD.l) (h0:JF XJ.length 0 a.a8.l s.a8.l) (o6:X8 a s x XJ XJ.length a.aE.Z.l) (aAB:VE s.bD.l t.bD.l) (aAA:VE s.a8.l t.a8.l):Q3 a t x:=by
 have KN:=dC.aBB
 have l2:=dC.len
 have lL:=o6.len
 have S4:=mI.len
 have yK:=mI.Z.len
 have aK9:=hR.m
 have a8z:=h0.m
 have aM6:=Lg.len
 -- a road of the air
 have aS:∀(i:Nat) (iT:cR),a.aE.Z.l[i]?=some iT->∃r,XJ[i]?=some r/\UL a.aE.places.l.length r/\a5n a s x i r iT:=by
  intro i iT xV
  obtain⟨aB,_⟩:=List.getElem?_eq_some_iff.1 xV
  obtain⟨r,O⟩:=lQ (l:=XJ) (k:=i) D
  obtain⟨oF,U,aO⟩:=o6.done i r D O
  rw[xV]at U;cases U
  exact⟨r,O,mI.Z.aS i r O,aO⟩
 have aN6:∀i:Nat,-4000<=x.b5.l.getD i 0/\x.b5.l.getD i 0<=4000:=λi=>by
  rcases gX i x.b5.l.length with h|h
  ·exact(Lg.val i _ (bR 0 h)).1
  ·rw[lN,u1 h];simp
 have b0o:∀i:Nat,-360<=x.iC.l.getD i 0/\x.iC.l.getD i 0<=360:=λi=>by
  rcases gX i x.iC.l.length with h|h
  ·exact mI.Z.c8 i _ (bR 0 h)
  ·rw[lN,u1 h];simp
 have ok:∀(i:Nat) (iT:cR),a.aE.Z.l[i]?=some iT->Zk a.aE.places.l.length iT/\(1<=iT.len/\iT.len<=100000)/\(1<=iT.h6/\iT.h6<=1000)/\(-260000000<=iT.fQ.bJ/\iT.fQ.bN<=260000000)/\iT.aC.bN<=22:=by
  intro i iT xV
  obtain⟨r,O,bE,e,u,v,V,cZ,cS,IQ⟩:=aS i iT xV
  have G:=bE.d.aC
  have U:=bE.len
  have aO:=bE.h6
  have fT:=a0E h0 i a.a8.l.length (gS _)
  have eN:=a0I hR i (x.iC.l.getD i 0) a.bD.l.length (gS _)
  have e4:=aEa (R:=r.aC.bJ+e+x6 a.a8.l s.a8.l i a.a8.l.length) (q:=x.iC.l.getD i 0) D (b0o i)
  have dU:=aN6 r.bK.toNat
  have fK:=aN6 r.to.toNat
  rw[IQ]
  refine⟨⟨bE.d.bK,bE.d.to,bE.ne,⟨G.1,G.2.1,by dsimp only;omega⟩,?_⟩,⟨U.1,by dsimp only;omega⟩,⟨by dsimp only;omega,by dsimp only;omega⟩,?_,G.2.2⟩
  ·unfold ZA US
   dsimp only
   omega
  ·unfold ZA US
   dsimp only
   omega
 have KI:iB a.aE=0:=aQ8 D D (λp aG=>by
  obtain⟨i,aB⟩:=List.mem_iff_getElem?.1 aG
  exact(dC.val i p aB).1) (λr O=>by
  obtain⟨i,aB⟩:=List.mem_iff_getElem?.1 O
  obtain⟨G,U,aO,_,_⟩:=ok i r aB
  exact aRj G U aO)
 have aLy:h4 a=0:=aYs KI D (λf aH=>⟨(hR.nF f aH).ok,by have:=(hR.nF f aH).aS;omega⟩) D (λd a7=>⟨⟨(h0.tN d a7).ok,(h0.tN d a7).W1.sC⟩,by have:=(h0.tN d a7).aS;omega⟩)
 have Kg:=hR.len
 have Kf:=h0.len
 have aMX:=aAB.len
 have Uq:=aAA.len
 have b5Q:Zo a s t:=by
  refine⟨λk Y=>?_,λk Y=>?_⟩
  ·have G:=hR.eM _ (hS (bR (l:=s.bD.l) (k:=k) 0 D))
   rcases aDF aAB (k:=k) D with h|h
   ·exact .inr ⟨h,by omega,by omega⟩
   ·exact .inl h
  ·have G:=h0.eM k _ _ (bR (l:=a.a8.l) (k:=k) default Y) (bR (l:=s.a8.l) (k:=k) 0 D)
   rcases aDF aAA (k:=k) D with h|h
   ·exact .inr ⟨h,by omega,by omega⟩
   ·exact .inl h
 have PM:mP a t=true:=aFD ⟨by omega,by omega,λi y bB=>by
  obtain⟨aB,_⟩:=List.getElem?_eq_some_iff.1 bB
  have G:=hR.eM _ (hS (bR (l:=s.bD.l) (k:=i) 0 D))
  rcases aAB.val i y bB with h|h
  ·omega
  ·rw[bR (l:=s.bD.l) 0 (show i<s.bD.l.length by omega)]at h
   rw[<-uA h];omega,λi y d bB a7=>by
  obtain⟨aB,_⟩:=List.getElem?_eq_some_iff.1 bB
  have G:=h0.eM i d _ a7 (bR (l:=s.a8.l) (k:=i) 0 D)
  have U:=(h0.tN d (hS a7)).W1.len
  rcases aAA.val i y bB with h|h
  ·omega
  ·rw[bR (l:=s.a8.l) 0 (show i<s.a8.l.length by omega)]at h
   rw[<-uA h];omega⟩
 have b3l:LW a x x.iC.l.length=zA XJ x.iC.l a.aE.places.l.length XJ.length:=by
  rw[aHr,aM6,yK]
  refine aIs _ (λi aB=>?_)
  obtain⟨r,O,_,e,u,v,_,_,_,IQ⟩:=aS i _ (bR (l:=a.aE.Z.l) (k:=i) default D)
  rw[getD_some O,IQ]
  exact⟨rfl,rfl⟩
 refine⟨aLy,PM,?_,by omega,by omega,by omega,by omega,λi r O=>(ok i r O).2.2.2,λf aH=>(hR.nF f aH).hJ,λd a7=>(h0.tN d a7).W1,λp aG=>by obtain⟨i,aB⟩:=List.mem_iff_getElem?.1 aG;exact(Lg.val i p aB).1,?_,λv cS aF=>?_⟩
 rotate_left
 ·have bE:=bR (l:=a.aE.places.l) (k:=0) default D
  rw[(dC.val 0 _ bE).2]
  exact decide_eq_true D
 ·have bE:=bR (l:=a.aE.places.l) (k:=v) default cS
  have HI:=(dC.val v _ bE).2
  rw[aF]at HI
  obtain⟨k,r,g8,eK,mJ⟩:=mI.aBA v (by have:=of_decide_eq_false HI.symm;omega) cS
  have b2Y:=(List.getElem?_eq_some_iff.1 g8).1
  obtain⟨oF,U,_,e,u,w,_,_,_,IQ⟩:=aS k _ (bR (l:=a.aE.Z.l) (k:=k) default D)
  rw[g8]at U
  cases U
  have WP:=(mI.Z.aS k r g8).d
  have a2N:=WP.bK
  have aAw:=WP.to
  have JX:∀u:Nat,u<sh->(a.aE.places.l.getD u default).m7=true:=λu cZ=>by
   rw[(dC.val u _ Bj).2];exact decide_eq_true cZ
  rcases mJ with⟨dH,eH⟩|⟨dH,eH⟩
  ·exact⟨k,r.to.toNat,by omega,JX _ D,by rw[IQ];exact eK,.inl ⟨by rw[IQ];exact dH,by rw[IQ];show r.to=_;omega⟩⟩
  ·exact⟨k,r.bK.toNat,by omega,JX _ D,by rw[IQ];exact eK,.inr ⟨by rw[IQ];show r.bK=_;omega,by rw[IQ];exact dH⟩⟩
 refine aUq aLy PM D (N2 (λp aG=>?_)) (N2 (λq bZ=>?_)) (λi aB=>?_) (λv cS=>?_)
 ·obtain⟨j,a6⟩:=List.mem_iff_getElem?.1 aG
  have:=(Lg.val j p a6).1
  exact if_neg D
 ·obtain⟨j,a6⟩:=List.mem_iff_getElem?.1 bZ
  have:=mI.Z.c8 j q a6
  exact if_neg D
 ·have bE:=bR (l:=a.aE.Z.l) (k:=i) default D
  obtain⟨r,O,a9F,a2m⟩:=aS i _ bE
  have jQ:=aSs hR h0 (a9F.d.aC.2.1) a2m
  have A0:=aXv b5Q (i:Int) (x.iC.l.getD i 0)
  have jO:=mI.Z.dZ i r _ O (bR (l:=x.iC.l) (k:=i) 0 D)
  have dH:(a.aE.Z.l.getD i default).bK=r.bK/\(a.aE.Z.l.getD i default).to=r.to/\(a.aE.Z.l.getD i default).dZ=r.dZ:=by
   obtain⟨e,u,v,_,_,_,IQ⟩:=a2m
   rw[IQ];exact⟨rfl,rfl,rfl⟩
  unfold Rl
  dsimp only
  rw[dH.1,dH.2.1,dH.2.2]
  refine if_neg ?_
  have G:=A0.1
  have U:=A0.2
  dsimp only[US]at jQ
  rintro(⟨aO,bW⟩|⟨_,bW⟩)
  ·exact bW (jO aO)
  ·omega
 ·rw[aM6]at cS
  obtain⟨p,aG⟩:=lQ (l:=a.aE.places.l) (k:=v) cS
  have G:=(dC.val v p aG).2
  have U:=Lg.val v _ (bR (l:=x.b5.l) (k:=v) 0 D)
  unfold Qq
  rw[b3l,getD_some aG,G]
  refine if_neg ?_
  rintro(⟨aO,bW⟩|⟨aO,bW⟩)
  ·exact bW (U.2 (.inl (by simpa using aO)))
  ·exact bW (mI.done v (by simpa using aO) D)
end Go.Proofs.YtdiajbdaadlfhaaGreatDoor
namespace Go.Proofs.YtdiajbdaadlfhaaGreatDoor
open Go.Aw Go Go.Proofs.Tryz
set_option maxRecDepth 20000
attribute [local irreducible] cO dG dP aM cI dR fA e2 e5 fB eQ e9 J.L
structure AD where
 places:J gL
 Z:J cR
 bD:J hT
 a8:J gV
 oT:J Int
 pM:J Int
 b5:J Int
 iC:J Int
abbrev AD.a(m:AD):bT:=⟨⟨m.places.W,m.Z.W⟩,m.bD.W,m.a8.W⟩
abbrev AD.t(m:AD):cG:=⟨m.oT.W,m.pM.W⟩
abbrev AD.x(m:AD):tE:=⟨m.b5.W,m.iC.W⟩
abbrev AD.L(m:AD)(VM:bQ):aW:=
 m.b5.L 3 aR++(m.places.L 49 gL.cells++(m.iC.L 3 aR++(m.bD.L 147 hT.cells++(m.a8.L 149 gV.cells++(m.Z.L 53 cR.cells++(VM::(m.oT.L 3 aR++(m.pM.L 3 aR++[]))))))))
structure AD.YR(m:AD):Prop where
 places:m.places.ok 2 gL.cells
 Z:m.Z.ok 10 cR.cells
 bD:m.bD.ok 4 hT.cells
 a8:m.a8.ok 3 gV.cells
 oT:m.oT.ok 1 aR
 pM:m.pM.ok 1 aR
 b5:m.b5.ok 1 aR
 iC:m.iC.ok 1 aR
def Hi.aBC{sh:Nat}{bL:List gL}(h:Hi sh bL)(aZ:bL.length<sh+4){z:Int}(dI:0<=z/\z<=99):Hi sh (bL++[⟨-z,false⟩]):=by
 have:=h.len;refine⟨h.aBB,by simp only[hL,rE];omega,λi p aG=>?_⟩;rw[Gl]at aG;split at aG;·exact h.val i p aG
 ·
  rw[Gu]at aG;split at aG;·cases aG;refine⟨by dsimp only;omega,?_⟩;dsimp only;symm;rw[decide_eq_false_iff_not];omega
  ·cases aG
def aUD{n f j:Int}(aH:0<=f/\f<n)(a6:0<=j/\j<n-1):0<=(f+1+j).tmod n/\(f+1+j).tmod n<n/\f≠(f+1+j).tmod n:=by
 rw[aCd D];have G:=a3T (f+1+j) (show n≠0 by omega);have U:=aB4 (f+1+j) (show 0<n by omega);refine⟨G,U,?_⟩;rcases HT (f+1+j) n with h|h;·rw[Int.emod_eq_of_lt D h];omega
 ·
  have:(f+1+j)%n=f+1+j-n:=by(have e:f+1+j=(f+1+j-n)+n:=by omega);rw[e,Int.add_emod_right,Int.emod_eq_of_lt D D];omega
  omega
def aZm(c:Nat)(x:bP Int)(k:Nat)(R:aP)(K:nL x R)(Y:k<=x.l.length):
 aM prog 5 [.pointer (some ⟨c,0,none⟩)].toArray [hI c x k] R
  (λv E R'=>∃(m:AD) (c3:Nat) (S:aP),v=.tuple #[m.a.val,m.t.val,m.x.val]/\m.YR/\Q3 m.a m.t m.x/\(∀f∈m.bD.l,aN f.eJ S)/\(∀d∈m.a8.l,aN d.eJ S)/\c3<=x.l.length/\m.L (hI c x c3)=E/\S++R=R'):=by
 refine cX 189 call5 func5 rfl rfl rfl ?_;apply(J8);intro eN;apply(dO);intro e4;apply(dO);intro dU;apply(iG);refine aA aC6 rfl ?_;apply(a7q);rintro v E R' ⟨zI,rfl,rfl,kW⟩;replace kW:=kW.symm;subst kW;apply(a6D);refine aA aC5 rfl ?_;apply(dO);intro fK;apply l5∘yQ;refine aFF (Gj (l₁:=[_,_,_,_,_]) (l₂:=[_])) ?_;refine e7 (congrArg (List.cons _) (congrArg (List.cons _) (Qm (f:=gL.cells) (n:=1) [⟨0,true⟩] rfl _))) ?_;apply(IE);refine dN rfl (YL lZ K Y D) rfl ?_;rintro v E R' ⟨s1,g8,rfl,g6,rfl,rfl⟩;apply(dD);refine w6 (dJ 26 8) ((⟨λg=>[],λg=>hI c x g8::⟨fK,[g.1.1.val,.slice none 0 0,.slice none 0 0,.slice none 0 0],32⟩::(g.1.1.L 49 gL.cells++(⟨dU,[.slice none 0 0,.slice none 0 0],37⟩::⟨e4,[.slice none 0 0,.slice none 0 0],35⟩::⟨eN,[.slice none 0 0,.slice none 0 0,.slice none 0 0,.slice none 0 0],32⟩::[])),λ_=>R,λ_=>0⟩:e0 {g:J gL×Unit//g.1.ok 2 gL.cells/\g.1.l.length<=2/\Hi g.1.l.length g.1.l})) ?_ ?_;·
  skip
  refine aJ ?_ ?_<;>intro bI;·apply e1∘GQ;refine aA (l7 (hB:=[(1,(Value.bool _).cells.toList),(0,(Value.int _ _).cells.toList)]) (c9:=[_,_]) M rfl rfl rfl rfl) rfl ?_;apply(a7q);rintro v E R' ⟨aZ0,rfl,rfl,Dt⟩;replace Dt:=Dt.symm;subst Dt;refine g2 (jZ (f:=gL.cells) (p:=⟨.own zI 1 [],[⟨0,true⟩]⟩) (a:=⟨10,true⟩) M rfl rfl rfl rfl (Dc bH rfl aX) cL j8 rfl kG) rfl ?_;rintro v E R' ⟨aBc,rfl,a97,rfl,rfl⟩;apply gF∘q6∘yP;exact zX ⟨(⟨aBc,_⟩,()),a97,by simp,⟨by simp,by simp,λi p aG=>by(cases i with|zero=>cases aG;exact⟨by decide,rfl⟩|succ i=>(cases i with|zero=>cases aG;exact⟨by decide,rfl⟩|succ i=>cases aG))⟩⟩
  refine gG ?_;exact zX ⟨(⟨.own zI 1 [],[⟨0,true⟩]⟩,()),Dc bH rfl aX,by simp,⟨by simp,by simp,λi p aG=>by(cases i with|zero=>cases aG;exact⟨by decide,rfl⟩|succ i=>cases aG)⟩⟩
 rintro⟨⟨PX,_⟩,aMu,WA,aLe⟩ c1;try dsimp only
 dsimp only at aMu WA aLe;apply eV∘xG∘kB∘iS∘aGY;rintro v E R' ⟨oF,eK,rfl,oA,tO,St,j4,rfl,rfl⟩;apply(pR);refine e3 [(0,.pointer _),(2,.pointer _),(3,.pointer _),(4,.pointer _),(5,.pointer _),(6,.int _ _),(7,.int _ _)] cB λg9=>?_;have aKP:=tO D;refine m6 ([7]++dJ 40 15) ((⟨λg=>[(7,.int .i64 g.1.2.1)],λg=>hI c x g.1.1::⟨fK,[g.1.2.2.val,.slice none 0 0,.slice none 0 0,.slice none 0 0],32⟩::(g.1.2.2.L 49 gL.cells++(⟨dU,[.slice none 0 0,.slice none 0 0],37⟩::⟨e4,[.slice none 0 0,.slice none 0 0],35⟩::⟨eN,[.slice none 0 0,.slice none 0 0,.slice none 0 0,.slice none 0 0],32⟩::[])),λ_=>R,λg=>g.1.2.1.toNat⟩:e0 {g:Nat×Int×J gL//g.1<=x.l.length/\g.2.2.ok 2 gL.cells/\Hi PX.l.length g.2.2.l/\0<=g.2.1/\(g.2.2.l.length:Int)+g.2.1<=(PX.l.length:Int)+4})) (⟨(eK,oF,PX),j4,aMu,aLe,oA,by dsimp only;omega⟩) ?_;rintro⟨⟨gK,m,bL⟩,r8,bM,kR,Z3,rQ⟩ c1;try dsimp only
 dsimp only at r8 bM kR Z3 rQ;refine cC (cC ?_);have aKP:=tO D;apply nP∘y8;refine aJ ?_ ?_<;>intro cK;·refine gG (bY (cC (iH ?_)));refine jV M [] [0,1,2,3,4,5,6,7] [8,9,10,11] ([bQ.mk fK _ _]) _ mixed aQ bC b9 ?_;apply wZ∘OD;refine mW rfl (AP lZ K r8 D) rfl rfl ?_;rintro v E R' ⟨CM,mJ,rfl,g3,VT,a1Q,wR,rfl,rfl⟩;refine⟨bC,hC,?_⟩;have aKQ:=VT D;refine fE (Pp rfl D D) rfl rfl rfl rfl ?_;refine fE aQf rfl rfl rfl rfl ?_;apply(aFO);rintro v E R' ⟨Jr,rfl,rfl,PF⟩;replace PF:=PF.symm;subst PF;apply(DA);refine pP (jZ (f:=gL.cells) (p:=bL) (a:=⟨-CM,false⟩) M rfl rfl rfl rfl (bM) cL j8 rfl kG) rfl rfl rfl ?_;rintro v E R' ⟨Lq,rfl,Uj,rfl,rfl⟩;apply fI∘rS∘U0∘GO;exact eG ⟨(mJ,m-1,⟨Lq,_⟩),wR,Uj,kR.aBC D D,by dsimp only;omega,by dsimp only;simp only[hL,rE];omega⟩
 apply(ND);have S5:=kR.aBB;have n2:=kR.len;apply e1∘xG∘q4∘D1;rintro v E R' ⟨uO,rfl,rfl,Dx⟩;replace Dx:=Dx.symm;subst Dx;apply a6D∘dO;intro jB;apply uI∘cJ∘pR;refine e3 [(0,.pointer _),(2,.pointer _),(3,.pointer _),(4,.pointer _),(5,.pointer _),(6,.int _ _),(8,.int _ _),(9,.pointer _),(10,.int _ _)] cB λs4=>?_;refine e7 (congrArg (List.cons _) (R5 (f:=aR) (x:=(0:Int)) rfl _)) ?_;refine oM ([10]++dJ 63 11) ((⟨λg=>[(10,.int .i64 ((g.1.2.1:Nat):Int))],λg=>⟨jB,[(⟨.own uO bL.l.length [],g.1.2.2⟩:J Int).val,.slice none 0 0],37⟩::((⟨.own uO bL.l.length [],g.1.2.2⟩:J Int).L 3 aR++(hI c x g.1.1::⟨fK,[bL.val,.slice none 0 0,.slice none 0 0,.slice none 0 0],32⟩::(bL.L 49 gL.cells++(⟨dU,[.slice none 0 0,.slice none 0 0],37⟩::⟨e4,[.slice none 0 0,.slice none 0 0],35⟩::⟨eN,[.slice none 0 0,.slice none 0 0,.slice none 0 0,.slice none 0 0],32⟩::[])))),λ_=>R,λg=>bL.l.length-g.1.2.1⟩:e0 {g:Nat×Nat×List Int//g.1<=x.l.length/\(PX.l.length<=g.2.1/\g.2.1<=bL.l.length)/\(⟨.own uO bL.l.length [],g.2.2⟩:J Int).ok 1 aR/\Pd PX.l.length bL.l.length g.2.1 g.2.2})) (⟨(gK,PX.l.length,List.replicate bL.l.length 0),r8,⟨gS _,by dsimp only;omega⟩,BT bH BE,⟨by simp,λj p aG=>by rw[K5]at aG;split at aG;cases aG;exact⟨by omega,λ_=>rfl⟩;cases aG⟩⟩) cB (by dsimp only;rw[aG1];exact oU _) eX ?_;rintro⟨⟨Fl,i,fX⟩,MZ,⟨FR,PN⟩,a2G,VY⟩ c1;try dsimp only
 dsimp only at MZ FR PN a2G VY;apply nR∘cJ∘nD;refine aJ ?_ ?_<;>intro dE;·have aAq:=VY.len;have b9L:=bR (l:=fX) (k:=i) 0 D;refine gG (bY (cC (iH ?_)));refine jV M [] [0,1,2,3,4,5] [6] ([bQ.mk jB _ _]) _ mixed aQ bC (by(repeat(first|apply List.Sublist.cons (a:=bQ.mk b78 _ _)|apply List.Sublist.cons_cons));exact oU _) ?_;apply BR∘CG;refine mW rfl (OW lZ K MZ D) rfl rfl ?_;rintro v E R' ⟨P2,h8,rfl,g4,VU,zO,rfl,rfl⟩;refine⟨bC,hC,?_⟩;refine fE (iV M ((⟨.own uO bL.l.length [],fX⟩:J Int)) _ rfl rfl rfl rfl bS (i:=i) c7 iY) rfl rfl rfl rfl ?_;apply(zY);refine ID (mV M ((⟨.own uO bL.l.length [],fX⟩:J Int)) (P2) rfl rfl rfl rfl cL bS bH bS aX aK aK) rfl rfl ?_;rintro v E R' ⟨rfl,rfl⟩;apply fI∘KV∘Cp;exact lP ⟨(h8,i+1,fX.set i P2),zO,⟨by dsimp only;omega,by dsimp only;omega⟩,J.yS (p:=(⟨.own uO bL.l.length [],fX⟩:J Int)) bH a2G,VY.next FR ⟨g4,VU⟩⟩ hM cB Wt eX kM
 obtain rfl:i=bL.l.length:=by omega
 apply oS∘cJ∘D1;rintro v E R' ⟨B1,rfl,rfl,a89⟩;replace a89:=a89.symm;subst a89;apply kS∘yQ;refine e7 (R5 (f:=aR) (x:=(0:Int)) rfl _) ?_;have aAq:=VY.len;apply nP∘y8;refine w6 ([12,13,14,15]++dJ 78 58) ((⟨λg=>[],λg=>(⟨.own B1 bL.l.length [],g.1.2.2.2⟩:J Int).L 3 aR++(⟨jB,[(⟨.own uO bL.l.length [],fX⟩:J Int).val,g.1.2.2.1.val],37⟩::((⟨.own uO bL.l.length [],fX⟩:J Int).L 3 aR++(hI c x g.1.1::⟨fK,[bL.val,g.1.2.1.val,.slice none 0 0,.slice none 0 0],32⟩::(bL.L 49 gL.cells++(⟨dU,[.slice none 0 0,.slice none 0 0],37⟩::⟨e4,[.slice none 0 0,.slice none 0 0],35⟩::⟨eN,[.slice none 0 0,.slice none 0 0,.slice none 0 0,.slice none 0 0],32⟩::(g.1.2.1.L 53 cR.cells++(g.1.2.2.1.L 3 aR++[]))))))),λ_=>R,λ_=>0⟩:e0 {g:Nat×J cR×J Int×List Int//g.1<=x.l.length/\(g.2.1.ok 10 cR.cells/\g.2.2.1.ok 1 aR/\(⟨.own B1 bL.l.length [],g.2.2.2⟩:J Int).ok 1 aR)/\∃m,JG bL.l.length m g.2.1.l g.2.2.1.l g.2.2.2})) ?_ ?_;·
  skip
  refine aJ ?_ ?_<;>intro gZ;·
   apply(RX);refine dN rfl (AP lZ K MZ D) rfl ?_;rintro v E R' ⟨Vs,Fj,rfl,a8r,Su,aKR,Et,rfl,rfl⟩;apply(pR);refine ON ([12,13,14,15]++dJ 78 58) QD [(12,.int _ _)] cB λGg=>?_;have b0v:=Su D;refine oM ([12,13,14,15]++dJ 80 56) ((⟨λg=>[(12,.int .i64 g.1.2.1)],λg=>(⟨.own B1 bL.l.length [],g.1.2.2.2.2⟩:J Int).L 3 aR++(⟨jB,[(⟨.own uO bL.l.length [],fX⟩:J Int).val,g.1.2.2.2.1.val],37⟩::((⟨.own uO bL.l.length [],fX⟩:J Int).L 3 aR++(hI c x g.1.1::⟨fK,[bL.val,g.1.2.2.1.val,.slice none 0 0,.slice none 0 0],32⟩::(bL.L 49 gL.cells++(⟨dU,[.slice none 0 0,.slice none 0 0],37⟩::⟨e4,[.slice none 0 0,.slice none 0 0],35⟩::⟨eN,[.slice none 0 0,.slice none 0 0,.slice none 0 0,.slice none 0 0],32⟩::(g.1.2.2.1.L 53 cR.cells++(g.1.2.2.2.1.L 3 aR++[]))))))),λ_=>R,λg=>g.1.2.1.toNat⟩:e0 {g:Nat×Int×J cR×J Int×List Int//g.1<=x.l.length/\(g.2.2.1.ok 10 cR.cells/\g.2.2.2.1.ok 1 aR/\(⟨.own B1 bL.l.length [],g.2.2.2.2⟩:J Int).ok 1 aR)/\JG bL.l.length g.2.1 g.2.2.1.l g.2.2.2.1.l g.2.2.2.2})) (⟨(Fj,Vs,J.nil,J.nil,List.replicate bL.l.length 0),Et,⟨J.iJ,J.iJ,BT bH BE⟩,JG.zero kM⟩) cB aCo eX ?_;rintro⟨⟨b5B,aA6,fM,fl,kX⟩,a9O,⟨WG,S2,Ul⟩,h0⟩ c1;(try dsimp only);dsimp only at a9O WG S2 Ul h0;apply nR∘y8;refine aJ ?_ ?_<;>intro fW;·
    have a8z:=h0.m;have Kf:=h0.len;have b8A:=h0.Z.len;apply jK∘iS∘cJ;refine dN rfl (AP lZ K a9O D) rfl ?_;rintro v E R' ⟨Ge,Vc,rfl,a1R,a1S,b0w,Ts,rfl,rfl⟩;apply(E9);have b0x:=a1S D;apply IE∘cJ∘Y4∘iS∘a0C;refine dN rfl (AP lZ K Ts D) rfl ?_;rintro v E R' ⟨Mb,Fk,rfl,a1T,Sv,aKS,Tt,rfl,rfl⟩;have aKT:=Sv D;apply a6U∘Gc;refine dN rfl (a6v lZ K Tt) rfl ?_;rintro v E R' ⟨F3,b5y,rfl,rA,a9K,rfl,rfl⟩;apply(dO);intro wL;apply p6∘iS;refine dN rfl (YL lZ K a9K D) rfl ?_;rintro v E R' ⟨uP,b5z,rfl,a9L,rfl,rfl⟩;apply(gF);refine YG (v:=Value.bool _) M rfl rfl rfl rfl qV Bh Be aK ?_;apply(OC);refine dN rfl (OW lZ K a9L D) rfl ?_;rintro v E R' ⟨aOd,Vb,rfl,aKU,a8s,a9J,rfl,rfl⟩;apply kB∘gB∘dD;refine w6 [15] ((⟨λg=>[(15,.int .i64 g.1)],λg=>⟨wL,cR.cells {F3 with dZ:=uP},53⟩::((⟨.own B1 bL.l.length [],kX⟩:J Int).L 3 aR++(⟨jB,[(⟨.own uO bL.l.length [],fX⟩:J Int).val,fl.val],37⟩::((⟨.own uO bL.l.length [],fX⟩:J Int).L 3 aR++(hI c x Vb::⟨fK,[bL.val,fM.val,.slice none 0 0,.slice none 0 0],32⟩::(bL.L 49 gL.cells++(⟨dU,[.slice none 0 0,.slice none 0 0],37⟩::⟨e4,[.slice none 0 0,.slice none 0 0],35⟩::⟨eN,[.slice none 0 0,.slice none 0 0,.slice none 0 0,.slice none 0 0],32⟩::(fM.L 53 cR.cells++(fl.L 3 aR++[])))))))),λ_=>R,λ_=>0⟩:e0 {q:Int//(-60<=q/\q<=60)/\(uP=true->q=0)})) ?_ ?_;·
     skip
     refine aJ ?_ ?_<;>intro lJ;·apply e1∘Iw;exact zX ⟨0,by omega,λ_=>rfl⟩
     refine gG ?_;exact zX ⟨aOd,⟨aKU,a8s⟩,λh=>absurd h (by first|exact lJ|(rw[lJ];decide))⟩
    rintro⟨q,bZ,b4w⟩ c1;(try dsimp only);obtain⟨jL,FU⟩:∃jL:cR,jL={F3 with dZ:=uP}:=⟨_,rfl⟩;rw[<-FU];have aMY:=aUD (n:=(bL.l.length:Int)) ⟨a1R,b0x⟩ ⟨a1T,aKT⟩;(have AZ:jL.bK=Ge:=by rw[FU];exact rA.bK);(have tR:jL.to=(Ge+1+Mb).tmod bL.l.length:=by rw[FU];exact rA.to);have mH:UL bL.l.length jL:=⟨⟨by omega,by omega,by rw[FU];exact rA.aC⟩,by omega,by rw[FU];exact rA.len,by rw[FU];exact rA.h6⟩;(have jO:jL.dZ=true->q=0:=by rw[FU];exact b4w);have Ln:=h0.Mh jL.bK.toNat;have V9:=bR (l:=kX) (k:=jL.bK.toNat) 0 D;have j3:=bR (l:=kX.set jL.bK.toNat (kX.getD jL.bK.toNat 0+q)) (k:=jL.to.toNat) 0 a4M;(have zT:-360<=(kX.set jL.bK.toNat (kX.getD jL.bK.toNat 0+q)).getD jL.to.toNat 0/\(kX.set jL.bK.toNat (kX.getD jL.bK.toNat 0+q)).getD jL.to.toNat 0<=360:=by rw[a1n D];have:=h0.Mh jL.to.toNat;split<;>omega);refine cC ?_;refine w6 (dJ 106 14) ((⟨λ_=>[],λg=>⟨wL,jL.cells,53⟩::((⟨.own B1 bL.l.length [],kX⟩:J Int).L 3 aR++(⟨jB,[(⟨.own uO bL.l.length [],fX⟩:J Int).val,(⟨g.1.2,fl.l++[q]⟩:J Int).val],37⟩::((⟨.own uO bL.l.length [],fX⟩:J Int).L 3 aR++(hI c x Vb::⟨fK,[bL.val,(⟨g.1.1,fM.l++[jL]⟩:J cR).val,.slice none 0 0,.slice none 0 0],32⟩::(bL.L 49 gL.cells++(⟨dU,[.slice none 0 0,.slice none 0 0],37⟩::⟨e4,[.slice none 0 0,.slice none 0 0],35⟩::⟨eN,[.slice none 0 0,.slice none 0 0,.slice none 0 0,.slice none 0 0],32⟩::((⟨g.1.1,fM.l++[jL]⟩:J cR).L 53 cR.cells++((⟨g.1.2,fl.l++[q]⟩:J Int).L 3 aR++[])))))))),λ_=>R,λ_=>0⟩:e0 {g:gT×gT//(⟨g.1,fM.l++[jL]⟩:J cR).ok 10 cR.cells/\(⟨g.2,fl.l++[q]⟩:J Int).ok 1 aR})) ?_ ?_;·
     skip
     refine RM M [] [0,1,2,3,6,7,8,4,5,9,10,11,12] [13,14,15] ([bQ.mk wL _ _,bQ.mk jB _ _,bQ.mk fK _ _]) [] 13 mixed aQ rfl rfl bC λFK=>?_;refine eU 0 FK b9 aQ rfl rfl rfl rfl rfl kT ?_;refine eU 1 FK b9 aQ rfl rfl rfl rfl rfl kT ?_;refine eU 2 FK b9 aQ rfl rfl rfl rfl rfl qY ?_;refine eU 3 FK b9 aQ rfl rfl rfl rfl rfl Bi ?_;refine eU 6 FK b9 aQ rfl rfl rfl rfl rfl kT ?_;refine eU 7 FK b9 aQ rfl rfl rfl rfl rfl qY ?_;refine eU 8 FK b9 aQ rfl rfl rfl rfl rfl (mN D9) ?_;refine iU [4,9] FK b9 aQ ?_;refine nM ?_ ?_;·
      skip
      apply(a3v);rintro v E R' ⟨aZX,rfl,rfl,Do⟩;replace Do:=Do.symm;subst Do;apply(fI);refine iU [5,9] FK b9 aQ ?_;refine nM ?_ ?_;·
       skip
       apply(aIG);rintro v E R' ⟨a3c,rfl,Ud,rfl,rfl⟩;apply(fI);refine iU [9] FK b9 aQ ?_;apply(R4);rintro v E R' ⟨aKs,rfl,rfl,O7⟩;replace O7:=O7.symm;subst O7;exact aQg
      apply(R4);rintro v E R' ⟨aKs,rfl,rfl,O7⟩;replace O7:=O7.symm;subst O7;exact aQv
     apply(R4);rintro v E R' ⟨aKs,rfl,rfl,O7⟩;replace O7:=O7.symm;subst O7;apply(fI);refine iU [4] FK b9 aQ ?_;apply kC∘a3v;rintro v E R' ⟨aZX,rfl,rfl,Do⟩;replace Do:=Do.symm;subst Do;exact aQv
    rintro⟨⟨a3c,aA9⟩,Ud,a2B⟩ c1;(try dsimp only);dsimp only at Ud a2B;apply eV∘FD∘aDn;refine aA aPX rfl ?_;apply Y4∘aDn;refine mO (mV M ((⟨.own B1 bL.l.length [],kX⟩:J Int)) (kX.getD jL.bK.toNat 0+q) rfl rfl rfl rfl cL bS bH bS aX aK aK) ?_;rintro v E R' ⟨rfl,rfl⟩;apply(dD);have b3S:=J.yS (f:=aR) (aI:=1) (p:=(⟨.own B1 bL.l.length [],kX⟩:J Int)) (i:=jL.bK.toNat) (x:=kX.getD jL.bK.toNat 0+q) bH Ul;apply vE∘gB∘aFb;refine aA (rX M ((⟨.own B1 bL.l.length [],kX.set jL.bK.toNat (kX.getD jL.bK.toNat 0+q)⟩:J Int)) rfl rfl rfl cL bS bH bS aK) rfl ?_;apply a0C∘aFb;refine mO (mV M ((⟨.own B1 bL.l.length [],kX.set jL.bK.toNat (kX.getD jL.bK.toNat 0+q)⟩:J Int)) ((kX.set jL.bK.toNat (kX.getD jL.bK.toNat 0+q)).getD jL.to.toNat 0-q) rfl rfl rfl rfl cL bS bH bS aX aK aK) ?_;rintro v E R' ⟨rfl,rfl⟩;apply XE∘GO;exact eG ⟨(Vb,aA6-1,⟨a3c,_⟩,⟨aA9,_⟩,UU kX jL q),a9J,⟨Ud,a2B,J.yS (p:=(⟨.own B1 bL.l.length [],kX.set jL.bK.toNat (kX.getD jL.bK.toNat 0+q)⟩:J Int)) bH b3S⟩,h0.next D mH bZ jO⟩
   refine oZ (oX (AF (oW ?_)));exact zX ⟨(b5B,fM,fl,kX),a9O,⟨WG,S2,Ul⟩,aA6,h0⟩
  refine gG ?_;exact s9 ⟨(Fl,J.nil,J.nil,List.replicate bL.l.length 0),MZ,⟨J.iJ,J.iJ,BT bH BE⟩,0,JG.zero D⟩ hM cB (by dsimp only;rw[pC,pC];exact bC) eX
 rintro⟨⟨b5C,fM,fl,kX⟩,aMc,⟨WG,S2,Ul⟩,aA6,h0⟩ c1;try dsimp only
 dsimp only at aMc WG S2 Ul h0;apply nR∘pR;refine e3 [(0,.pointer _),(2,.pointer _),(3,.pointer _),(4,.pointer _),(5,.pointer _),(6,.int _ _),(8,.int _ _),(9,.pointer _),(11,.slice _ _ _),(16,.int _ _)] cB λaBF=>?_;have Kf:=h0.len;have a8z:=h0.m;refine m6 ([16,17,18]++dJ 137 40) ((⟨λg=>[(16,.int .i64 ((g.1.2.1:Nat):Int))],λg=>(⟨.own B1 bL.l.length [],kX⟩:J Int).L 3 aR++(⟨jB,[(⟨.own uO bL.l.length [],fX⟩:J Int).val,g.1.2.2.2.val],37⟩::((⟨.own uO bL.l.length [],fX⟩:J Int).L 3 aR++(hI c x g.1.1::⟨fK,[bL.val,g.1.2.2.1.val,.slice none 0 0,.slice none 0 0],32⟩::(bL.L 49 gL.cells++(⟨dU,[.slice none 0 0,.slice none 0 0],37⟩::⟨e4,[.slice none 0 0,.slice none 0 0],35⟩::⟨eN,[.slice none 0 0,.slice none 0 0,.slice none 0 0,.slice none 0 0],32⟩::(g.1.2.2.1.L 53 cR.cells++(g.1.2.2.2.L 3 aR++[]))))))),λ_=>R,λg=>bL.l.length-g.1.2.1⟩:e0 {g:Nat×Nat×J cR×J Int//g.1<=x.l.length/\(PX.l.length<=g.2.1/\g.2.1<=bL.l.length)/\(g.2.2.1.ok 10 cR.cells/\g.2.2.2.ok 1 aR)/\Hl PX.l.length bL.l.length g.2.1 kX g.2.2.1.l g.2.2.2.l})) (⟨(b5C,PX.l.length,fM,fl),aMc,⟨gS _,by dsimp only;omega⟩,⟨WG,S2⟩,h0.b6C _⟩) ?_;rintro⟨⟨b5D,j,fM,fl⟩,a9P,⟨a2s,MW⟩,⟨a2H,a2F⟩,fL⟩ c1;try dsimp only
 dsimp only at a9P a2s MW a2H a2F fL;apply nR∘cJ∘nD;refine aJ ?_ ?_<;>intro kK;·
  have Te:=fL.len;have aLp:=fL.Z.len;have b9y:=bR (l:=kX) (k:=j) 0 D;have DR:=h0.Mh j;refine gG (bY (cC (iH (cC ?_))));refine jR M [0,1,2,3,6,7,8,9,10,4,5,11,12,13] (((⟨.own B1 bL.l.length [],kX⟩:J Int).L 3 aR++[])) mixed aQ bC ?_;apply Lu∘j7∘Lu∘j7;refine b7 qX rfl rfl rfl ?_;apply(j7);refine b7 (iV M ((⟨.own B1 bL.l.length [],kX⟩:J Int)) _ rfl rfl ((show _=Value.slice _ _ _ from rfl).trans (u7 Kf)) rfl bS (i:=j) c7 iY) rfl rfl rfl ?_;refine b7 aPX rfl rfl rfl ?_;refine b7 (Pp rfl D D) rfl rfl rfl ?_;refine zD rfl (AP lZ K a9P D) rfl rfl ?_;rintro v E R' ⟨bAQ,bAw,rfl,b8u,b0y,b8v,b2P,rfl,rfl⟩;refine⟨bC,hC,?_⟩;have b8w:=b0y D;refine zD rfl (a6v lZ K b2P) rfl rfl ?_;rintro v E R' ⟨F3,bAx,rfl,rA,b2Q,rfl,rfl⟩;refine⟨bC,hC,?_⟩;apply(uZ);intro FG;apply R3∘XB∘iS;refine dN rfl (YL lZ K b2Q D) rfl ?_;rintro v E R' ⟨b,aNf,rfl,b2R,rfl,rfl⟩;have AZ:=rA.bK;have tR:=rA.to;have a1Z:UL bL.l.length F3:=⟨⟨by omega,by omega,rA.aC⟩,by omega,rA.len,rA.h6⟩;apply(dD);refine w6 ([18]++dJ 155 8) ((⟨λg=>[(18,.int .i64 g.1.2)],λg=>⟨FG,g.1.1.cells,53⟩::((⟨.own B1 bL.l.length [],kX⟩:J Int).L 3 aR++(⟨jB,[(⟨.own uO bL.l.length [],fX⟩:J Int).val,fl.val],37⟩::((⟨.own uO bL.l.length [],fX⟩:J Int).L 3 aR++(hI c x aNf::⟨fK,[bL.val,fM.val,.slice none 0 0,.slice none 0 0],32⟩::(bL.L 49 gL.cells++(⟨dU,[.slice none 0 0,.slice none 0 0],37⟩::⟨e4,[.slice none 0 0,.slice none 0 0],35⟩::⟨eN,[.slice none 0 0,.slice none 0 0,.slice none 0 0,.slice none 0 0],32⟩::(fM.L 53 cR.cells++(fl.L 3 aR++[])))))))),λ_=>R,λ_=>0⟩:e0 {g:cR×Int//UL bL.l.length g.1/\(-360<=g.2/\g.2<=360)/\g.1.dZ=false/\((g.1.bK=(j:Int)/\g.1.to<(PX.l.length:Int)/\g.2= -(kX.getD j 0))\/(g.1.to=(j:Int)/\g.1.bK<(PX.l.length:Int)/\g.2=kX.getD j 0))})) ?_ ?_;·
   skip
   refine aJ ?_ ?_<;>intro qM;·apply e1∘gB∘h1∘CJ∘r1∘r1∘Iw;exact zX ⟨({F3 with bK:=F3.to,to:=F3.bK},- -(kX.getD j 0)),⟨⟨a1Z.d.to,a1Z.d.bK,rA.aC⟩,(λh=>a1Z.ne h.symm),rA.len,rA.h6⟩,by dsimp only;omega,rA.dZ,.inr ⟨AZ,by dsimp only;omega,by dsimp only;omega⟩⟩
   refine gG ?_;exact zX ⟨(F3,-(kX.getD j 0)),a1Z,by dsimp only;omega,rA.dZ,.inl ⟨AZ,by dsimp only;omega,rfl⟩⟩
  rintro⟨⟨jL,q⟩,mH,bZ,jO,Ej⟩ c1;try dsimp only
  dsimp only at mH bZ jO Ej;refine RM M [] [0,1,2,3,6,7,8,4,5,9,10,11,12] [13,14,15] ([bQ.mk FG _ _,bQ.mk jB _ _,bQ.mk fK _ _]) [] 13 mixed aQ rfl rfl bC λFL=>?_;refine eU 0 FL b9 aQ rfl rfl rfl rfl rfl kT ?_;refine eU 1 FL b9 aQ rfl rfl rfl rfl rfl kT ?_;refine eU 2 FL b9 aQ rfl rfl rfl rfl rfl qY ?_;refine eU 3 FL b9 aQ rfl rfl rfl rfl rfl Bi ?_;refine eU 6 FL b9 aQ rfl rfl rfl rfl rfl kT ?_;refine eU 7 FL b9 aQ rfl rfl rfl rfl rfl qY ?_;refine eU 8 FL b9 aQ rfl rfl rfl rfl rfl (mN D9) ?_;refine iU [4,9] FL b9 aQ ?_;refine nM ?_ ?_;·
   skip
   apply(a3v);rintro v E R' ⟨aZZ,rfl,rfl,Dq⟩;replace Dq:=Dq.symm;subst Dq;apply(fI);refine iU [5,9] FL b9 aQ ?_;refine nM ?_ ?_;·
    skip
    apply(aJx);rintro v E R' ⟨aNt,rfl,aMv,rfl,rfl⟩;apply(fI);refine iU [9] FL b9 aQ ?_;apply(R4);rintro v E R' ⟨aKu,rfl,rfl,O8⟩;replace O8:=O8.symm;subst O8;exact aQa
   apply(R4);rintro v E R' ⟨aKu,rfl,rfl,O8⟩;replace O8:=O8.symm;subst O8;exact aQy
  apply(R4);rintro v E R' ⟨aKu,rfl,rfl,O8⟩;replace O8:=O8.symm;subst O8;apply(fI);refine iU [4] FL b9 aQ ?_;apply kC∘a3v;rintro v E R' ⟨aZZ,rfl,rfl,Dq⟩;replace Dq:=Dq.symm;subst Dq;exact aQy
 obtain rfl:j=bL.l.length:=by omega
 have Te:=fL.len;have aLp:=fL.Z.len;have aAq:=VY.len;apply oS∘iS;refine dN rfl (aM.a3w (.vH (.xL (.vH (.MJ (.MJ (.vH (.xL (.xL (.xL (.vH (.vH .nil))))))))))) (aVC c fK x b5D fM.l.length fM.o.cap bL.val fM.o.r5 R K a9P D)) rfl ?_;rintro v E R' ⟨H0,rfl,bD,a8,k6,lX,bAy,S,rfl,⟨aMq,aMr,aMs,aMt⟩,a1Y,a1V,a2p,a2o,b2S,rfl,rfl⟩;simp only[kF,mK,nJ];have WU:nL x (S++R):=K.mono λr h=>aU (by simp[h]);have aK9:=a1Y.m;have b8z:=a1V.m;have Kg:=a1Y.len;have b8y:=a1V.len;apply(dO);intro II;apply p6∘iS∘lG∘lG;refine dN rfl (aR9 (n:=fM.l.length) (b5:=(⟨.own uO bL.l.length [],fX⟩:J Int)) ⟨bL.W,fM.W⟩ (.xL (.vH (.xL (.vH (.vH (.xL (.xL (.xL (.Sc (.vH (.MJ (.MJ (.vH (.vH (.vH (.vH .nil)))))))))))))))) BD BD BD BD BD BD aMq aMr aMs aMt a2G a2F (λf aH=>(a2p f aH).mono λr O=>aU sF) (λd a7=>(a2o d a7).mono λr O=>aU sF) WU b2S a2H a1Y a1V aLp.symm D fL.Z.c8 (λi p aG=>(VY.val i p aG).1) (λi r O=>by dsimp only;rw[aAq];exact(fL.Z.aS i r O).d)) rfl ?_;rintro v E R' ⟨P3,bAz,rfl,Ta,b2T,rfl,rfl⟩;simp only[kF,mK,nJ];have b4G:fM.val=(⟨fM.o,P3⟩:J cR).val:=by simp only[J.val,Ta.len]
 apply(j6);rw[b4G];refine jV M [188] [0,1,2,3,5,4] [6,7,8] ([bQ.mk II _ _,bQ.mk jB _ _,bQ.mk fK _ _]) _ mixed aQ bC (by(repeat(first|apply List.Sublist.cons (a:=bQ.mk eN _ _)|apply List.Sublist.cons (a:=bQ.mk e4 _ _)|apply List.Sublist.cons (a:=bQ.mk dU _ _)|apply List.Sublist.cons_cons));exact oU _) ?_;apply aBv∘CG∘aBv;refine fE TX rfl rfl rfl rfl ?_;refine p4 TX rfl rfl rfl rfl ?_;refine mW rfl (aYn (a:=⟨⟨bL.W,(⟨fM.o,P3⟩:J cR).W⟩,bD.W,a8.W⟩) (.xL (.vH (.xL (.vH (.vH (.xL (.xL (.xL (.vH (.vH (.vH (.vH (.vH (.MJ (.xL (.vH .nil)))))))))))))))) BD BD aMs aMt WU b2T D D) rfl rfl ?_;rintro v E R' ⟨oT,pM,aNg,rfl,⟨aMX,Uq⟩,V4,b2j,b2U,rfl,rfl⟩;simp only[kF,mK,nJ];refine⟨bC,hC,?_⟩;apply(zY);iterate 3 apply(uY)
 refine jI (bY (mE ?_));refine cF (AD.L ⟨bL,⟨fM.o,P3⟩,bD,a8,oT,pM,(⟨.own uO bL.l.length [],fX⟩:J Int),fl⟩ (hI c x aNg)) (S++R) (Bs rfl a4p QA QA) ?_;have G2:=aRl (a:=AD.a ⟨bL,⟨fM.o,P3⟩,bD,a8,oT,pM,(⟨.own uO bL.l.length [],fX⟩:J Int),fl⟩) (s:=⟨k6.W,lX.W⟩) (t:=AD.t ⟨bL,⟨fM.o,P3⟩,bD,a8,oT,pM,(⟨.own uO bL.l.length [],fX⟩:J Int),fl⟩) (x:=AD.x ⟨bL,⟨fM.o,P3⟩,bD,a8,oT,pM,(⟨.own uO bL.l.length [],fX⟩:J Int),fl⟩) kR VY fL a1Y a1V ⟨Ta.len,Ta.done,Ta.zZ⟩ V4 b2j;exact⟨⟨bL,⟨fM.o,P3⟩,bD,a8,oT,pM,(⟨.own uO bL.l.length [],fX⟩:J Int),fl⟩,aNg,S,rfl,⟨bM,J.tU bH a2H Ta.len,aMq,aMr,aMX,Uq,a2G,a2F⟩,G2,a2p,a2o,b2U,rfl,rfl⟩
abbrev UF(y:bP Int):bP Int:=⟨y.a,y.cap,y.l.take 300⟩
def aKi(y:bP Int)(L:aW)(R:aP)(bB:nL y R):
 aM prog 4 [y.val].toArray L R (λv E R'=>∃c,v=.pointer (some ⟨c,0,none⟩)/\nL (UF y) R'/\hI c (UF y) 0::L=E/\k3 (UF y)::R=R'):=by have qB:=bB.eJ;refine Bw call4 qB λbAm=>?_;refine cX 10 call4 func4 rfl rfl rfl ?_;apply eV∘Ap∘j6;refine aEs 300 qB ?_;apply vE∘j0;refine aA (Od rfl rfl) rfl ?_;refine aA (a6u M rfl rfl rfl rfl (n:=(y.l.take 300).length) (by rw[HS];omega) (by rw[HS];omega)) rfl ?_;apply a6D∘nW;intro jB;apply Ap∘DW;refine cF (hI jB (UF y) 0::L) (k3 (UF y)::R) (qI rfl (EL X2)) ?_;exact⟨jB,rfl,⟨aU eY,λi b aT=>by rw[XV]at aT;split at aT;exact bB.a1D i b aT;cases aT⟩,rfl,rfl⟩
def aVd{c:Nat}{x:bP Int}{k:Nat}{L B:aW}{R:aP}(cZ:nA L B [hI c x k])(K:nL x R)(Y:k<=x.l.length):
 aM prog 5 [.pointer (some ⟨c,0,none⟩)].toArray L R
  (λv E R'=>∃(m:AD) (c3:Nat) (S:aP),v=.tuple #[m.a.val,m.t.val,m.x.val]/\m.YR/\Q3 m.a m.t m.x/\(∀f∈m.bD.l,aN f.eJ S)/\(∀d∈m.a8.l,aN d.eJ S)/\c3<=x.l.length/\B++m.L (hI c x c3)=E/\S++R=R'):=
 (aM.a3w cZ (aZm c x k R K Y)).mono λv hA R' ⟨E,e,m,c3,S,G,U,aO,bW,dV,gY,j1,vN⟩=>⟨m,c3,S,G,U,aO,bW,dV,gY,by rw[j1];exact e,vN⟩
def a4Y:Zp prog 51:=
 aRA (I:=3) aQ aQ aQ aQ aQ
def IC{a:bT}{R R':aP}(h:qF a R)(k:∀r∈R,aN r R'):qF a R':=⟨h.places.mono k,h.Z.mono k,h.bD.mono k,h.a8.mono k⟩
def T9{s:cG}{R R':aP}(h:u3 s R)(k:∀r∈R,aN r R'):u3 s R':=⟨h.bD.mono k,h.a8.mono k⟩
def aVB{P n code t R}{Q:fR}{A:aW}{m:AD}{VM:bQ}(a1:m.YR)(aH: ∀f∈m.bD.l,aN f.eJ R)(a7: ∀d∈m.a8.l,aN d.eJ R)
 (h:∀R',qF m.a R'->u3 m.t R'->a5U m.x R'->(∀r∈R,aN r R')->cO P n code t (A++(VM::[])) R' Q):cO P n code t (A++m.L VM) R Q:=by
 unfold AD.L;refine rY [] E3 aX a1.b5 eW ?_;refine rY [] bH (by decide:0<2) a1.places eW ?_;refine rY [] E3 aX a1.iC eW ?_;refine rY (m.bD.l.map hT.eJ) bH (by decide:0<4) a1.bD (λs aF=>by obtain⟨y,bB,rfl⟩:=List.mem_map.1 aF;exact(aH y bB).mono λr O=>aU sF) ?_;refine rY (m.a8.l.map gV.eJ) bH (by decide:0<3) a1.a8 (λs aF=>by obtain⟨y,bB,rfl⟩:=List.mem_map.1 aF;exact(a7 y bB).mono λr O=>aU sF) ?_;refine rY [] bH (by decide:0<10) a1.Z eW ?_;have e:∀X:aW,A++(VM::X)=(A++[VM])++X:=λX=>by simp
 rw[e];refine rY [] E3 aX a1.oT eW ?_;refine rY [] E3 aX a1.pM eW ?_;rw[rV];refine h _ ⟨?_,?_,?_,?_⟩ ⟨?_,?_⟩ ⟨?_,?_⟩ (λr O=>aU sF);·exact aU (.tail _ (.tail _ (.tail _ (.tail _ (.tail _ (.tail _ (.head _)))))))
 ·exact aU (.tail _ (.tail _ (.head _)))
 ·exact aU (.tail _ (.tail _ (.tail _ (.tail _ (.head _)))))
 ·exact aU (.tail _ (.tail _ (.tail _ (.head _))))
 ·exact aU (.tail _ (.head _))
 ·exact aU (.head _)
 ·exact aU (.tail _ (.tail _ (.tail _ (.tail _ (.tail _ (.tail _ (.tail _ (.head _))))))))
 ·exact aU (.tail _ (.tail _ (.tail _ (.tail _ (.tail _ (.head _))))))
end Go.Proofs.YtdiajbdaadlfhaaGreatDoor
