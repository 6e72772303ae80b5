-- By an AI agent; no person has read it.
import Derived.Test.YtdiajbdaadlfhaaGreatDoorFans
set_option linter.all false
set_option maxHeartbeats 4000000
namespace Go.Proofs.YtdiajbdaadlfhaaGreatDoor
open Go.Aw Go Go.Proofs.Tryz
set_option maxRecDepth 20000
attribute [local irreducible] cO dG dP aM cI dR fA e2 e5 fB eQ e9
def uF(p:Int):Option Int:=if p< -70368744177664\/70368744177664<p then some 1 else none
def a7t(q:Int):Option Int:=if q< -1048576\/1048576<q then some 1 else none
def LW(a:bT)(x:tE):Nat->List Int
 |0=>List.replicate x.b5.l.length 0
 |k+1=>
  let vU:=(LW a x k).set (a.aE.Z.l.getD k default).bK.toNat ((LW a x k).getD (a.aE.Z.l.getD k default).bK.toNat 0+x.iC.l.getD k 0)
  vU.set (a.aE.Z.l.getD k default).to.toNat (vU.getD (a.aE.Z.l.getD k default).to.toNat 0-x.iC.l.getD k 0)
def Rl(a:bT)(s:cG)(x:tE)(i:Nat):Option Int:=
 let r:=a.aE.Z.l.getD i default
 let d:=x.b5.l.getD r.bK.toNat 0-x.b5.l.getD r.to.toNat 0
 if(r.dZ=true/\x.iC.l.getD i 0≠0)\/(r.dZ=false/\(d<(kA a s i (x.iC.l.getD i 0)).bJ\/(kA a s i (x.iC.l.getD i 0)).bN<d))then some 10 else none
def Qq(a:bT)(x:tE)(Fs:List Int)(i:Nat):Option Int:=
 if((a.aE.places.l.getD i default).m7=true/\x.b5.l.getD i 0≠0)\/((a.aE.places.l.getD i default).m7=false/\Fs.getD i 0≠0)then some 10 else none
def a0y(a:bT)(s:cG)(x:tE):Int:=
 if h4 a≠0 then h4 a else if mP a s=false then 21
 else if x.b5.l.length≠a.aE.places.l.length\/x.iC.l.length≠a.aE.Z.l.length then 11
 else match x.b5.l.findSome? uF with
  |some e=>e
  |none=>match x.iC.l.findSome? a7t with
   |some e=>e
   |none=>match(List.range x.iC.l.length).findSome? (Rl a s x)with
    |some e=>e
    |none=>((List.range x.b5.l.length).findSome? (Qq a x (LW a x x.iC.l.length))).getD 0
def aUW(a:bT)(x:tE): ∀k,(LW a x k).length=x.b5.l.length
 |0=>by simp[LW]
 |k+1=>by simp only[LW,w3];exact aUW a x k
def aXy{a:bT}{s:cG}{x:tE}(bV:h4 a=0)(G:mP a s=true)(U:¬(x.b5.l.length≠a.aE.places.l.length\/x.iC.l.length≠a.aE.Z.l.length)):
 a0y a s x=match x.b5.l.findSome? uF with
 |some e=>e
 |none=>match x.iC.l.findSome? a7t with
  |some e=>e
  |none=>match(List.range x.iC.l.length).findSome? (Rl a s x)with
   |some e=>e
   |none=>((List.range x.b5.l.length).findSome? (Qq a x (LW a x x.iC.l.length))).getD 0:=by rw[a0y,if_neg (by simp[bV]),if_neg (by simp[G]),if_neg U]
end Go.Proofs.YtdiajbdaadlfhaaGreatDoor
namespace Go.Proofs.YtdiajbdaadlfhaaGreatDoor
open Go.Aw Go Go.Proofs.Tryz
def G0(a:bT)(s:cG)(r:Int):Nat->List AH
 |0=>[]
 |k+1=>if s.bD.l.getD k 0≠0/\(a.bD.l.getD k default).aS=r then G0 a s r k++[⟨a.bD.l.getD k default,s.bD.l.getD k 0⟩]else G0 a s r k
structure Hg(a:bT)(s:cG)(r:Int)(p:k7):Prop where
 aS:p.aS={a.aE.Z.l.getD r.toNat default with aC:=p3 a s r a.a8.l.length}
 o9:p.o9=r
 bD:p.bD.l=G0 a s r a.bD.l.length
def aIg(q:Int)(s:bG)(b:AH):bG:=⟨s.bJ-(nB b.nF b.state q).bN,s.bN-(nB b.nF b.state q).bJ⟩
def aEv(p:k7)(q:Int): ∀k,k<=p.bD.l.length->EM p q k=(p.bD.l.take k).foldl (aIg q) (EM p q 0)
 |0,_=>by simp
 |k+1,Y=>by
  have K:=bR (l:=p.bD.l) (k:=k) default D
  have e:p.bD.l.take (k+1)=p.bD.l.take k++[p.bD.l.getD k default]:=by
   rw[BA,K];rfl
  rw[e,NM,<-aEv p q k D]
  rfl
def aVW(f:hT)(q:Int):nB f 0 q=⟨0,0⟩:=by rw[nB,if_neg aX,if_neg aX,if_neg aX]
def aJg(a:bT)(s:cG)(r q:Int): ∀k,qP a s r q k=(G0 a s r k).foldl (aIg q) (qP a s r q 0)
 |0=>rfl
 |k+1=>by
  have cA:=aJg a s r q k
  rw[qP.eq_2,G0.eq_2]
  by_cases O:(a.bD.l.getD k default).aS=r
  ·by_cases bV:s.bD.l.getD k 0=0
   ·rw[if_pos O,if_neg (λh=>h.1 bV),bV,aVW,<-cA]
    simp only[Int.sub_zero]
   ·rw[if_pos O,if_pos ⟨bV,O⟩,NM,<-cA]
    rfl
  ·rw[if_neg O,if_neg (λh=>O h.2),<-cA]
def aEL{a:bT}{s:cG}{r:Int}{p:k7}(h:Hg a s r p)(q:Int):GD p q=kA a s r q:=by
 have VP:EM p q 0=qP a s r q 0:=by
  by_cases bZ:q<0;·rw[aII bZ,aVk bZ,h.aS,Gn,Gn,Mp,Mp]
  ·rw[aIB bZ,aWg bZ,h.aS,Mp,Mp]
 rw[GD,aEv p q _ (gS _),BB,VP,h.bD,kA,aJg a s r q a.bD.l.length]
def a0V{a:bT}{s:cG}{r:Int}: ∀(k:Nat),k<=a.bD.l.length->∀b∈G0 a s r k,∃i:Nat,a.bD.l[i]? =some b.nF
 |0,_,b,aT=>by simp[G0]at aT
 |k+1,Y,b,aT=>by
  rw[G0]at aT
  split at aT
  ·rcases List.mem_append.1 aT with h|h
   ·exact a0V k D b h
   ·rw[List.mem_singleton.1 h];exact⟨k,bR default D⟩
  ·exact a0V k D b aT
def a6x{a:bT}{s:cG}{r:Int}: ∀(k:Nat),(G0 a s r k).length<=k
 |0=>by simp[G0]
 |k+1=>by
  have:=a6x (a:=a) (s:=s) (r:=r) k
  rw[G0]
  split
  ·simp;omega
  ·omega
def aF9{a:bT}{s:cG}{r:Int}{p:k7}(bX:sG a)(O:0<=r/\r<a.aE.Z.l.length)(h:Hg a s r p):Hh p:=by
 have mI:=bX.aE.aS r.toNat _ Bj;have Z7:=Oa (s:=s) bX O a.a8.l.length (gS _);have xT:=bX.Fr;have S0:=bX.W2;have aZ:=a6x (a:=a) (s:=s) (r:=r) a.bD.l.length;refine⟨?_,?_,?_,λi b aT=>?_⟩;·rw[h.aS];dsimp only;omega
 ·rw[h.aS];exact mI.fQ
 ·rw[h.bD];omega
 ·rw[h.bD]at aT;obtain⟨j,a6⟩:=a0V a.bD.l.length (gS _) b (hS aT);exact(bX.nF j _ a6).1
def Hk(f:Int->Int):Prop:=∀x y:Int,-1048577<=x->x<y->y<=1048577->f x<f y
def Bx(s t:bG):Prop:=s.bJ<=t.bJ/\s.bN<=t.bN
def aDT{a b:hU}{q:Int}(cE:a.c8<b.c8):(x8 a b q).bJ=a.b5+(-((a.b5-b.b5)*(q-a.c8)))/(b.c8-a.c8):=by rw[a5t D];unfold x8;dsimp only;omega
def aSH{a b:hU}{q l4:Int}(aG:b.b5<=a.b5)(cE:a.c8<b.c8)(h:q<=l4):Bx (x8 a b l4) (x8 a b q):=by
 have a1:(a.b5-b.b5)*(q-a.c8)<=(a.b5-b.b5)*(l4-a.c8):=Wp D D;constructor;·rw[aDT cE,aDT cE];have:=Int.ediv_le_ediv (a:= -((a.b5-b.b5)*(l4-a.c8))) (b:= -((a.b5-b.b5)*(q-a.c8))) (c:=b.c8-a.c8) D D;omega
 ·have:=Int.ediv_le_ediv (a:=(a.b5-b.b5)*(q-a.c8)) (b:=(a.b5-b.b5)*(l4-a.c8)) (c:=b.c8-a.c8) D a1;unfold x8;dsimp only;omega
def aJs: ∀(l:List hU) (p:hU) (q l4:Int),x4 (p::l)->p.c8<=q->q<=l4->Bx (BU p l l4) (BU p l q)
 |[],p,q,l4,_,_,_=>⟨oH _,oH _⟩
 |r::aC,p,q,l4,h,bZ,KL=>by
  have bV:=h.vV 0 p rfl
  have G:=h.vV 1 r rfl
  have U:=h.eM 0 p r rfl rfl
  have KQ:x4 (r::aC):=⟨λi=>h.vV (i+1),λi=>h.eM (i+1)⟩
  unfold BU
  by_cases wN:q<=r.c8
  ·by_cases jS:l4<=r.c8
   ·rw[if_pos wN,if_pos jS];exact aSH U.2 U.1 KL
   ·rw[if_pos wN,if_neg jS]
    have fT:=aFB (a:=p) (b:=r) (q:=q) D D
    have eN:=Ry aC r l4 KQ D
    exact⟨by omega,by omega⟩
  ·rw[if_neg wN,if_neg D]
   exact aJs aC r q l4 KQ D KL
def aDl{l:List hU}(h:x4 l){q l4:Int}(KL:q<=l4):Bx (r4 l l4) (r4 l q):=by
 cases l with
 |nil=>exact⟨oH _,oH _⟩
 |cons p aC=>
  unfold r4;dsimp only;by_cases wN:q<=p.c8;·
   by_cases jS:l4<=p.c8;·rw[if_pos wN,if_pos jS];exact⟨oH _,oH _⟩
   ·rw[if_pos wN,if_neg jS];have eN:=Ry aC p l4 h D;exact⟨by dsimp only;omega,by dsimp only;omega⟩
  ·rw[if_neg wN,if_neg D];exact aJs aC p q l4 h D KL
def a0Z{l:List hU}(h:x4 l)(hX:Bool){q l4:Int}(KL:q<=l4):Bx (tK l hX l4) (tK l hX q):=by
 unfold tK;cases hX with
 |false=>exact aDl h KL
 |true=>have:=aDl h (q:= -l4) (l4:= -q) D;exact⟨by simp only[if_true,Ch];have:=this.2;omega,by simp only[if_true,Ch];have:=this.1;omega⟩
def aXS{f:hT}(h:x4 f.hJ.l)(s:Int){q l4:Int}(KL:q<=l4):Bx (nB f s l4) (nB f s q):=by
 have m3:=a0Z h f.hX KL;have PT:=a0Z h (!f.hX) KL;have bAG:=a0Z h false KL;have bAH:=a0Z h true KL;unfold Bx at*;unfold nB;split;·exact m3
 ·
  split;·exact PT
  ·
   split;·dsimp only;omega
   ·exact⟨oH _,oH _⟩
def Pb(s t:bG):Prop:=s.bJ<t.bJ/\s.bN<t.bN
def Hs{r x y:Int}(O:0<r)(K:0<=x)(h:x<y):r*x*x<r*y*y:=by have G:r*x<=r*y:=Wp D D;have bV:0<=r*x:=x3 D K;have U:r*x*x<=r*x*y:=Wp D bV;have aO:r*x<r*y:=Int.mul_lt_mul_of_pos_left h O;have bW:r*x*y<r*y*y:=Int.mul_lt_mul_of_pos_right aO D;omega
def aVw{aC fQ:bG}(O:1<=aC.bJ/\aC.bJ<=aC.bN){q l4:Int}(h:q<l4):Pb (VC aC fQ q) (VC aC fQ l4):=by
 unfold VC Pb;have neg:∀(r x:Int),r*x*x=r*(-x)*(-x):=λr x=>by rw[Mt (r* -x),Mt r,Gn,Int.neg_neg]
 by_cases wN:q<0;·
  by_cases jS:l4<0;·rw[if_pos wN,if_pos jS];have hO:=Hs (r:=aC.bN) (x:= -l4) (y:= -q) D D D;have a2:=Hs (r:=aC.bJ) (x:= -l4) (y:= -q) D D D;rw[<-neg,<-neg]at hO a2;dsimp only;omega
  ·rw[if_pos wN,if_neg jS];have hO:=Hs (r:=aC.bN) (x:=0) (y:= -q) D D D;have a2:=Hs (r:=aC.bJ) (x:=0) (y:= -q) D D D;rw[<-neg]at hO a2;have fT:0<=aC.bJ*l4*l4:=x3 (x3 D D) D;have eN:0<=aC.bN*l4*l4:=x3 (x3 D D) D;simp only[a39]at hO a2;dsimp only;omega
 ·rw[if_neg wN,if_neg D];have hO:=Hs (r:=aC.bN) (x:=q) (y:=l4) D D h;have a2:=Hs (r:=aC.bJ) (x:=q) (y:=l4) D D h;dsimp only;omega
def aJG{a:bT}{s:cG}(bX:sG a){r:Int}(O:0<=r/\r<a.aE.Z.l.length){q l4:Int}(h:q<l4): ∀k,k<=a.bD.l.length->Pb (qP a s r q k) (qP a s r l4 k)
 |0,_=>by
  have aT:=Oa (s:=s) bX O a.a8.l.length (gS _)
  exact aVw ⟨aT.1,aT.2.1⟩ h
 |k+1,Y=>by
  have cA:=aJG (s:=s) bX O h k D
  have m:=aXS (bX.nF k _ Bj).1.ok (s.bD.l.getD k 0) (show q<=l4 by omega)
  unfold Pb Bx at*
  rw[qP.eq_2,qP.eq_2]
  split
  ·dsimp only;omega
  ·exact cA
def aD1{a:bT}{s:cG}(bX:sG a){r:Int}(O:0<=r/\r<a.aE.Z.l.length){q l4:Int}(h:q<l4):Pb (kA a s r q) (kA a s r l4):=aJG bX O h _ (gS _)
def Hk.le{f:Int->Int}(h:Hk f){x y:Int}(G:-1048577<=x)(U:x<=y)(aO:y<=1048577):f x<=f y:=by
 rcases Int.lt_or_eq_of_le U with cD|cD;·exact Int.le_of_lt (h x y G cD aO)
 ·rw[cD];exact oH _
def a7I{f:Int->Int}{fX:Int}(aH:Hk f):∀(n:Nat) (cN aB:Int),(aB-cN).toNat=n->-1048577<=cN->cN<=aB->aB<=1048577->
 cN<=E5 f fX cN aB/\E5 f fX cN aB<=aB/\(∀x,cN<x->x<=E5 f fX cN aB->f x<=fX)/\(∀x,E5 f fX cN aB<x->x<=aB->fX<f x)
 |n,cN,aB,bA,G,yI,U=>by
  by_cases h:cN<aB
  ·have V:=ZD (x:=aB-cN+1) D
   by_cases bU:f (cN+(aB-cN+1).tdiv 2)<=fX
   ·rw[aDj h bU]
    obtain⟨hO,a2,a3,a4⟩:=a7I (fX:=fX) aH _ (cN+(aB-cN+1).tdiv 2) aB rfl D D U
    refine⟨by omega,a2,λx WT CB=>?_,a4⟩
    rcases HT (cN+(aB-cN+1).tdiv 2) x with K|K
    ·exact a3 x K CB
    ·exact Int.le_trans (aH.le D K D) bU
   ·rw[aJ0 h bU]
    obtain⟨hO,a2,a3,a4⟩:=a7I (fX:=fX) aH _ cN (cN+(aB-cN+1).tdiv 2-1) rfl G D D
    refine⟨hO,by omega,a3,λx WT CB=>?_⟩
    rcases HT (cN+(aB-cN+1).tdiv 2-1) x with K|K
    ·have:=aH.le (x:=cN+(aB-cN+1).tdiv 2) (y:=x) D D D
     omega
    ·exact a4 x WT K
  ·rw[aEp h]
   exact⟨by omega,by omega,λx _ _=>by omega,λx _ _=>by omega⟩
termination_by n=>n
decreasing_by all_goals (have:=ZD (x:=aB-cN+1) D;omega)
def a54{f:Int->Int}{fX:Int}(aH:Hk f):∀(n:Nat) (cN aB:Int),(aB-cN).toNat=n->-1048577<=cN->cN<=aB->aB<=1048577->
 cN<=EQ f fX cN aB/\EQ f fX cN aB<=aB/\(∀x,cN<=x->x<EQ f fX cN aB->f x<fX)/\(∀x,EQ f fX cN aB<=x->x<aB->fX<=f x)
 |n,cN,aB,bA,G,yI,U=>by
  by_cases h:cN<aB
  ·have V:=ZD (x:=aB-cN) D
   by_cases bU:fX<=f (cN+(aB-cN).tdiv 2)
   ·rw[aD2 h bU]
    obtain⟨hO,a2,a3,a4⟩:=a54 (fX:=fX) aH _ cN (cN+(aB-cN).tdiv 2) rfl G D D
    refine⟨hO,by omega,a3,λx WT CB=>?_⟩
    rcases HT x (cN+(aB-cN).tdiv 2)with K|K
    ·exact a4 x WT K
    ·exact Int.le_trans bU (aH.le D K D)
   ·rw[aF0 h bU]
    obtain⟨hO,a2,a3,a4⟩:=a54 (fX:=fX) aH _ (cN+(aB-cN).tdiv 2+1) aB rfl D D U
    refine⟨by omega,a2,λx WT CB=>?_,a4⟩
    rcases HT x (cN+(aB-cN).tdiv 2+1)with K|K
    ·have:=aH.le (x:=x) (y:=cN+(aB-cN).tdiv 2) D D D
     omega
    ·exact a3 x K CB
  ·rw[aF4 h]
   exact⟨by omega,by omega,λx _ _=>by omega,λx _ _=>by omega⟩
termination_by n=>n
decreasing_by all_goals (have:=ZD (x:=aB-cN) D;omega)
def aYt{a:bT}{s:cG}(bX:sG a){r:Int}(O:0<=r/\r<a.aE.Z.l.length):Hk λq=>(kA a s r q).bJ:=λ_ _ _ h _=>(aD1 bX O h).1
def aXQ{a:bT}{s:cG}(bX:sG a){r:Int}(O:0<=r/\r<a.aE.Z.l.length):Hk λq=>(kA a s r q).bN:=λ_ _ _ h _=>(aD1 bX O h).2
end Go.Proofs.YtdiajbdaadlfhaaGreatDoor
namespace Go.Proofs.YtdiajbdaadlfhaaGreatDoor
open Go.Aw Go Go.Proofs.Tryz
set_option maxRecDepth 20000
attribute [local irreducible] cO dG dP aM cI dR fA e2 e5 fB eQ e9
def s8(n:Int):List Value:=[.int .u8 n]
abbrev k3(x:bP Int):eT:=x.eJ 1 s8 []
abbrev hI(c:Nat)(x:bP Int)(k:Nat):bQ:=⟨c,[x.val,.int .i64 (k:Int)],72⟩
structure nL(x:bP Int)(R:aP):Prop where
 eJ:aN (k3 x) R
 a1D:∀(i:Nat) (b:Int),x.l[i]?=some b->0<=b/\b<=255
def a47(c:Nat)(x:bP Int)(k:Nat)(n:Int)(R:aP)(K:nL x R)(Y:k<=x.l.length)(bA:n<=1000000):
 aM prog 19 [.pointer (some ⟨c,0,none⟩),.int .i64 n].toArray [hI c x k] R
  (λv E R'=>∃(r:Int) (c3:Nat),v=.int .i64 r/\0<=r/\(1<=n->r<n)/\(n<1->r=0)/\c3<=x.l.length/\(x.l.length<=k->r=0/\c3=k)/\[hI c x c3]=E/\R=R'):=by
 have qB:=K.eJ;refine rZ call19 qB λxY=>?_;refine cX 77 call19 func19 rfl rfl rfl ?_;apply oO∘yQ;refine jR M [0,1,2,3,4,5,6,7,8,9,10,11,12,13] _ mixed aQ iP ?_;apply(j7);refine b7 Bk rfl rfl rfl ?_;apply(KT);refine zC (k:=8) b2 (λj3=>?_) (λj3=>?_);·
  replace j3:=cP j3;iterate 10 apply(tV)
  apply(C7);refine yX rfl ?_;exact aPQ
 replace j3:=cP j3;apply J6∘J6;refine b7 CP rfl rfl rfl ?_;refine b7 (Iq rfl rfl) rfl rfl rfl ?_;apply(C7);refine aJ ?_ ?_<;>intro bI;·exact aPQ
 have aT:=bR (l:=x.l) (k:=k) 0 D;have Kn:=K.a1D _ _ aT;apply gI∘iS;refine aA iX rfl ?_;apply gB∘oE;refine aA iX rfl ?_;apply r1∘j6;refine jR M [0,1,2,3,4,5,6,7,8,9,10,11,12] _ mixed aQ iP ?_;apply J6∘J6∘A7∘XI∘s0∘a3u∘HP;refine jI (bY (cC (cC ?_)));refine jR M [0,1,2,3,4,5,6,7,8,9,10,11,12,13] _ mixed aQ iP ?_;apply(j7);refine b7 (Qh rfl rfl) rfl rfl rfl ?_;apply(KT);refine zC (k:=41) b2 (λj3=>?_) (λj3=>?_);·
  replace j3:=cP j3;apply J6∘J6;refine b7 CP rfl rfl rfl ?_;refine b7 Bk rfl rfl rfl ?_;apply(C7);refine aJ ?_ ?_<;>intro cK;·
   obtain⟨gK,r8⟩:∃gK,gK=k+2:=⟨_,rfl⟩;have DO:=bR (l:=x.l) (k:=k+1) 0 D;have b8T:=K.a1D _ _ DO;refine cC ?_;refine jR M [0,1,2,3,4,5,6,7,8,9,10,11,12,13,14] _ mixed aQ iP ?_;apply j7∘a3t∘J6∘J6∘aOc∘s0∘a3u∘P1∘HP;refine jI (bY (dM ?_));apply(iS);refine aA iX rfl ?_;apply gB∘oE;refine aA iX rfl ?_;apply r1∘iG∘wF∘Gc∘sO;have FV:=λy (h:0<=y)=>And.intro (a3U n h) (a3F y (show 0<n by omega));refine kN (E:=[hI c x gK]) (R':=R) TW ?aG ?b3 ?b8;case aG=>exact⟨_,gK,rfl,(FV _ D).1,λ_=>(FV _ D).2,λ_=>by omega,by omega,λh=>by omega,rfl,rfl⟩
   case b3=>subst r8;exact bC
   case b8=>exact oV _
  obtain⟨gK,r8⟩:∃gK,gK=k+1:=⟨_,rfl⟩;apply gI∘wF∘Gc∘sO;have FV:=λy (h:0<=y)=>And.intro (a3U n h) (a3F y (show 0<n by omega));refine kN (E:=[hI c x gK]) (R':=R) TW ?aG ?b3 ?b8;case aG=>exact⟨_,gK,rfl,(FV _ D).1,λ_=>(FV _ D).2,λ_=>by omega,by omega,λh=>by omega,rfl,rfl⟩
  case b3=>subst r8;exact bC
  case b8=>exact oV _
 replace j3:=cP j3;obtain⟨gK,r8⟩:∃gK,gK=k+1:=⟨_,rfl⟩;iterate 10 apply(tV)
 apply(C7);refine CT rfl ?_;apply gI∘wF∘Gc∘sO;have FV:=λy (h:0<=y)=>And.intro (a3U n h) (a3F y (show 0<n by omega));refine kN (E:=[hI c x gK]) (R':=R) TW ?aG ?b3 ?b8;case aG=>exact⟨_,gK,rfl,(FV _ D).1,λ_=>(FV _ D).2,λ_=>by omega,by omega,λh=>by omega,rfl,rfl⟩
 case b3=>subst r8;exact bC
 case b8=>exact oV _
def aGi(c:Nat)(x:bP Int)(k:Nat)(n:Int)(R:aP)(K:nL x R)(Y:k<=x.l.length)(bA:n<=1000000):
 aM prog 19 [.pointer (some ⟨c,0,none⟩),.int .i64 n].toArray [hI c x k] R
  (λv E R'=>∃(r:Int) (c3:Nat),v=.int .i64 r/\0<=r/\(1<=n->r<n)/\(n<1->r=0)/\c3<=x.l.length/\[hI c x c3]=E/\R=R'):=
 (a47 c x k n R K Y bA).mono λv E R' ⟨r,c3,G,U,aO,bW,dV,_,gY,j1⟩=>⟨r,c3,G,U,aO,bW,dV,gY,j1⟩
def aWQ(c:Nat)(x:bP Int)(k:Nat)(n:Int)(R:aP)(K:nL x R)(Y:k<=x.l.length)(bA:-1000000<=n/\n<=1000000):
 aM prog 18 [.pointer (some ⟨c,0,none⟩),.int .i64 n].toArray [hI c x k] R
  (λv E R'=>∃(b:Bool) (c3:Nat),v=.bool b/\c3<=x.l.length/\[hI c x c3]=E/\R=R'):=by refine cX 11 call18 func18 rfl rfl rfl ?_;apply E8∘OC∘cJ;refine dN rfl (aGi c x k n _ K Y D) rfl ?_;rintro v E R' ⟨r,c3,rfl,G,U,aO,Z0,rfl,rfl⟩;apply a0C∘PZ∘sP;refine m5 [hI c x c3] R ?_;exact⟨_,c3,rfl,Z0,rfl,rfl⟩
def aIa(c:Nat)(x:bP Int)(k:Nat)(cN aB:Int)(R:aP)(K:nL x R)(Y:k<=x.l.length)(aZ:-400000<=cN/\cN<=aB/\aB<=400000):
 aM prog 20 [.pointer (some ⟨c,0,none⟩),.int .i64 cN,.int .i64 aB].toArray [hI c x k] R
  (λv E R'=>∃(r:Int) (c3:Nat),v=.int .i64 r/\cN<=r/\r<=aB/\c3<=x.l.length/\(x.l.length<=k->r=cN/\c3=k)/\[hI c x c3]=E/\R=R'):=by refine cX 15 call20 func20 rfl rfl rfl ?_;apply oO∘iG∘cJ∘iS∘wF∘oD∘oE;refine dN rfl (a47 c x k (aB-cN+1) _ K Y D) rfl ?_;rintro v E R' ⟨r,c3,rfl,G,U,aO,Z0,V,rfl,rfl⟩;have bW:=U D;apply oE∘sO;refine eL [hI c x c3] R ?_;exact⟨_,c3,rfl,by omega,by omega,Z0,λh=>by have:=V h;omega,rfl,rfl⟩
def aRR(c:Nat)(x:bP Int)(k:Nat)(cN aB:Int)(R:aP)(K:nL x R)(Y:k<=x.l.length)(aZ:-400000<=cN/\cN<=aB/\aB<=400000):
 aM prog 20 [.pointer (some ⟨c,0,none⟩),.int .i64 cN,.int .i64 aB].toArray [hI c x k] R
  (λv E R'=>∃(r:Int) (c3:Nat),v=.int .i64 r/\cN<=r/\r<=aB/\c3<=x.l.length/\[hI c x c3]=E/\R=R'):=
 (aIa c x k cN aB R K Y aZ).mono λv E R' ⟨r,c3,G,U,aO,dV,_,gY,j1⟩=>⟨r,c3,G,U,aO,dV,gY,j1⟩
abbrev vF(x:bP Int)(k:Nat):List Value:=[x.val,.int .i64 (k:Int)]
def AP{c:Nat}{x:bP Int}{k:Nat}{n:Int}{L:aW}{F:List Value->aW}{R:aP}(cZ:AE c (vF x k) 72 L F)(K:nL x R)(Y:k<=x.l.length)(bA:n<=1000000):
 aM prog 19 [.pointer (some ⟨c,0,none⟩),.int .i64 n].toArray L R
  (λv E R'=>∃(r:Int) (c3:Nat),v=.int .i64 r/\0<=r/\(1<=n->r<n)/\(n<1->r=0)/\c3<=x.l.length/\F (vF x c3)=E/\R=R'):=
 (aM.ZE (tC:=λv gM R'=> ∃(r:Int) (c3:Nat),v= .int .i64 r/\0<=r/\(1<=n->r<n)/\(n<1->r=0)/\c3<=x.l.length/\gM=vF x c3/\R=R') cZ (aGi c x k n R K Y bA)
  (λv E R' ⟨r,c3,G,U,aO,bW,dV,gY,j1⟩=>⟨_,gY,r,c3,G,U,aO,bW,dV,rfl,j1⟩)).mono
  (λv E R' ⟨gM,bV,r,c3,G,U,aO,bW,dV,gY,j1⟩=>⟨r,c3,G,U,aO,bW,dV,by rw[<-gY];exact bV,j1⟩)
def aRg{c:Nat}{x:bP Int}{k:Nat}{n:Int}{L:aW}{F:List Value->aW}{R:aP}(cZ:AE c (vF x k) 72 L F)(K:nL x R)(Y:k<=x.l.length)(bA:n<=1000000):
 aM prog 19 [.pointer (some ⟨c,0,none⟩),.int .i64 n].toArray L R
  (λv E R'=>∃(r:Int) (c3:Nat),v=.int .i64 r/\0<=r/\(1<=n->r<n)/\(n<1->r=0)/\c3<=x.l.length/\(x.l.length<=k->r=0/\c3=k)/\F (vF x c3)=E/\R=R'):=
 (aM.ZE (tC:=λv gM R'=> ∃(r:Int) (c3:Nat),v= .int .i64 r/\0<=r/\(1<=n->r<n)/\(n<1->r=0)/\c3<=x.l.length/\(x.l.length<=k->r=0/\c3=k)/\gM=vF x c3/\R=R') cZ (a47 c x k n R K Y bA)
  (λv E R' ⟨r,c3,G,U,aO,bW,dV,V,gY,j1⟩=>⟨_,gY,r,c3,G,U,aO,bW,dV,V,rfl,j1⟩)).mono
  (λv E R' ⟨gM,bV,r,c3,G,U,aO,bW,dV,V,gY,j1⟩=>⟨r,c3,G,U,aO,bW,dV,V,by rw[<-gY];exact bV,j1⟩)
def YL{c:Nat}{x:bP Int}{k:Nat}{n:Int}{L:aW}{F:List Value->aW}{R:aP}(cZ:AE c (vF x k) 72 L F)(K:nL x R)(Y:k<=x.l.length)(bA:-1000000<=n/\n<=1000000):
 aM prog 18 [.pointer (some ⟨c,0,none⟩),.int .i64 n].toArray L R
  (λv E R'=>∃(b:Bool) (c3:Nat),v=.bool b/\c3<=x.l.length/\F (vF x c3)=E/\R=R'):=
 (aM.ZE (tC:=λv gM R'=> ∃(b:Bool) (c3:Nat),v= .bool b/\c3<=x.l.length/\gM=vF x c3/\R=R') cZ (aWQ c x k n R K Y bA)
  (λv E R' ⟨b,c3,G,dV,gY,j1⟩=>⟨_,gY,b,c3,G,dV,rfl,j1⟩)).mono
  (λv E R' ⟨gM,bV,b,c3,G,dV,gY,j1⟩=>⟨b,c3,G,dV,by rw[<-gY];exact bV,j1⟩)
def OW{c:Nat}{x:bP Int}{k:Nat}{cN aB:Int}{L:aW}{F:List Value->aW}{R:aP}(cZ:AE c (vF x k) 72 L F)(K:nL x R)(Y:k<=x.l.length)(aZ:-400000<=cN/\cN<=aB/\aB<=400000):
 aM prog 20 [.pointer (some ⟨c,0,none⟩),.int .i64 cN,.int .i64 aB].toArray L R
  (λv E R'=>∃(r:Int) (c3:Nat),v=.int .i64 r/\cN<=r/\r<=aB/\c3<=x.l.length/\F (vF x c3)=E/\R=R'):=
 (aM.ZE (tC:=λv gM R'=> ∃(r:Int) (c3:Nat),v= .int .i64 r/\cN<=r/\r<=aB/\c3<=x.l.length/\gM=vF x c3/\R=R') cZ (aRR c x k cN aB R K Y aZ)
  (λv E R' ⟨r,c3,G,U,aO,dV,gY,j1⟩=>⟨_,gY,r,c3,G,U,aO,dV,rfl,j1⟩)).mono
  (λv E R' ⟨gM,bV,r,c3,G,U,aO,dV,gY,j1⟩=>⟨r,c3,G,U,aO,dV,by rw[<-gY];exact bV,j1⟩)
def a6o{c:Nat}{x:bP Int}{k:Nat}{cN aB:Int}{L:aW}{F:List Value->aW}{R:aP}(cZ:AE c (vF x k) 72 L F)(K:nL x R)(Y:k<=x.l.length)(aZ:-400000<=cN/\cN<=aB/\aB<=400000):
 aM prog 20 [.pointer (some ⟨c,0,none⟩),.int .i64 cN,.int .i64 aB].toArray L R
  (λv E R'=>∃(r:Int) (c3:Nat),v=.int .i64 r/\cN<=r/\r<=aB/\c3<=x.l.length/\(x.l.length<=k->r=cN/\c3=k)/\F (vF x c3)=E/\R=R'):=
 (aM.ZE (tC:=λv gM R'=> ∃(r:Int) (c3:Nat),v= .int .i64 r/\cN<=r/\r<=aB/\c3<=x.l.length/\(x.l.length<=k->r=cN/\c3=k)/\gM=vF x c3/\R=R') cZ (aIa c x k cN aB R K Y aZ)
  (λv E R' ⟨r,c3,G,U,aO,dV,V,gY,j1⟩=>⟨_,gY,r,c3,G,U,aO,dV,V,rfl,j1⟩)).mono
  (λv E R' ⟨gM,bV,r,c3,G,U,aO,dV,V,gY,j1⟩=>⟨r,c3,G,U,aO,dV,V,by rw[<-gY];exact bV,j1⟩)
end Go.Proofs.YtdiajbdaadlfhaaGreatDoor
