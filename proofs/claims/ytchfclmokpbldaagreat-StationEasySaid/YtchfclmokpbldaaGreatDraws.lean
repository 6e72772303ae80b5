-- By an AI agent; no person has read it.
import Derived.Test.YtchfclmokpbldaaGreatFans
import Derived.Test.YtchfclmokpbldaaGreatOwn
set_option linter.all false
set_option maxHeartbeats 4000000
variable{A B:Prop}
namespace Go.Proofs.YtchfclmokpbldaaGreat
open Go.Aw Go Go.Proofs.Tryz
set_option maxRecDepth 20000
attribute [local irreducible] cQ dF dV aM cP eC e5 e1 e2 e6 eX e4
def tN(p:Int):Option Int:=if p< -70368744177664\/70368744177664<p then some 1 else none
def aV2(q:Int):Option Int:=if q< -1048576\/1048576<q then some 1 else none
def Jo(a:b3)(x:SG):Nat->List Int
 |0=>List.replicate x.c8.l.length 0
 |k+1=>
  let A1:=(Jo a x k).set (a.aC.aJ.l.getD k default).cR.toNat ((Jo a x k).getD (a.aC.aJ.l.getD k default).cR.toNat 0+x.vI.l.getD k 0)
  A1.set (a.aC.aJ.l.getD k default).to.toNat (A1.getD (a.aC.aJ.l.getD k default).to.toNat 0-x.vI.l.getD k 0)
def aZ1(a:b3)(s:cS)(x:SG)(i:Nat):Option Int:=
 let r:=a.aC.aJ.l.getD i default
 let d:=x.c8.l.getD r.cR.toNat 0-x.c8.l.getD r.to.toNat 0
 if(r.eJ=true/\x.vI.l.getD i 0≠0)\/(r.eJ=false/\(d<(mN a s i (x.vI.l.getD i 0)).bU\/(mN a s i (x.vI.l.getD i 0)).bW<d))then some 10 else none
def aXh(a:b3)(x:SG)(aBz:List Int)(i:Nat):Option Int:=
 if((a.aC.places.l.getD i default).tG=true/\x.c8.l.getD i 0≠0)\/((a.aC.places.l.getD i default).tG=false/\aBz.getD i 0≠0)then some 10 else none
def aXt(a:b3)(s:cS)(x:SG):Int:=
 if h5 a≠0 then h5 a else if l0 a s=false then 21
 else if x.c8.l.length≠a.aC.places.l.length\/x.vI.l.length≠a.aC.aJ.l.length then 11
 else match x.c8.l.findSome? tN with
  |some e=>e
  |none=>match x.vI.l.findSome? aV2 with
   |some e=>e
   |none=>match(List.range x.vI.l.length).findSome? (aZ1 a s x)with
    |some e=>e
    |none=>((List.range x.c8.l.length).findSome? (aXh a x (Jo a x x.vI.l.length))).getD 0
def aWP(a:b3)(x:SG): ∀k,(Jo a x k).length=x.c8.l.length
 |0=>by simp[Jo]
 |k+1=>by simp only[Jo,q0];exact aWP a x k
end Go.Proofs.YtchfclmokpbldaaGreat
namespace Go.Proofs.YtchfclmokpbldaaGreat
open Go.Aw Go Go.Proofs.Tryz
def H2(a:b3)(s:cS)(r:Int):Nat->List BJ
 |0=>[]
 |k+1=>if s.c3.l.getD k 0≠0/\(a.c3.l.getD k default).cV=r then H2 a s r k++[⟨a.c3.l.getD k default,s.c3.l.getD k 0⟩]else H2 a s r k
structure Ji(a:b3)(s:cS)(r:Int)(p:lI):Prop where
 cV:p.cV={a.aC.aJ.l.getD r.toNat default with aD:=oF a s r a.cM.l.length}
 pY:p.pY=r
 c3:p.c3.l=H2 a s r a.c3.l.length
def aHY(q:Int)(s:bC)(b:BJ):bC:=⟨s.bU-(vF b.qR b.state q).bW,s.bW-(vF b.qR b.state q).bU⟩
def aE9(p:lI)(q:Int): ∀k,k<=p.c3.l.length->FI p q k=(p.c3.l.take k).foldl (aHY q) (FI p q 0)
 |0,_=>by simp
 |k+1,aG=>by
  have K:=bJ (l:=p.c3.l) (k:=k) default D
  have e:p.c3.l.take (k+1)=p.c3.l.take k++[p.c3.l.getD k default]:=by
   rw[ME,K];rfl
  rw[e,Bu,<-aE9 p q k D]
  rfl
def aU8(f:lR)(q:Int):vF f 0 q=⟨0,0⟩:=by rw[vF,if_neg aW,if_neg aW,if_neg aW]
def aJj(a:b3)(s:cS)(r q:Int): ∀k,tC a s r q k=(H2 a s r k).foldl (aHY q) (tC a s r q 0)
 |0=>rfl
 |k+1=>by
  have c6:=aJj a s r q k
  rw[tC.eq_2,H2.eq_2]
  by_cases M:(a.c3.l.getD k default).cV=r
  ·by_cases b2:s.c3.l.getD k 0=0
   ·rw[if_pos M,if_neg (λh=>h.1 b2),b2,aU8,<-c6]
    simp only[Int.sub_zero]
   ·rw[if_pos M,if_pos ⟨b2,M⟩,Bu,<-c6]
    rfl
  ·rw[if_neg M,if_neg (λh=>M h.2),<-c6]
def aF3{a:b3}{s:cS}{r:Int}{p:lI}(h:Ji a s r p)(q:Int):HK p q=mN a s r q:=by
 have Si:FI p q 0=tC a s r q 0:=by
  by_cases cJ:q<0;·rw[aHy cJ,a6D cJ,h.cV,Nm,Nm,XS,XS]
  ·rw[aHI cJ,a7A cJ,h.cV,XS,XS]
 rw[HK,aE9 p q _ (iK _),Hv,Si,h.c3,mN,aJj a s r q a.c3.l.length]
def a02{a:b3}{s:cS}{r:Int}: ∀(k:Nat),k<=a.c3.l.length->∀b∈H2 a s r k,∃i:Nat,a.c3.l[i]? =some b.qR
 |0,_,b,a5=>by simp[H2]at a5
 |k+1,aG,b,a5=>by
  rw[H2]at a5
  split at a5
  ·rcases List.mem_append.1 a5 with h|h
   ·exact a02 k D b h
   ·rw[List.mem_singleton.1 h];exact⟨k,bJ default D⟩
  ·exact a02 k D b a5
def a6u{a:b3}{s:cS}{r:Int}: ∀(k:Nat),(H2 a s r k).length<=k
 |0=>by simp[H2]
 |k+1=>by
  have:=a6u (a:=a) (s:=s) (r:=r) k
  rw[H2]
  split
  ·simp;omega
  ·omega
def aHK{a:b3}{s:cS}{r:Int}{p:lI}(bT:p3 a)(M:0<=r/\r<a.aC.aJ.l.length)(h:Ji a s r p):Jj p:=by
 have mJ:=bT.aC.cV r.toNat _ X4;have TR:=ZD (s:=s) bT M a.cM.l.length (iK _);have tW:=bT.T3;have QT:=bT.XF;have aX:=a6u (a:=a) (s:=s) (r:=r) a.c3.l.length;refine⟨?_,?_,?_,λi b a5=>?_⟩;·rw[h.cV];dsimp only;omega
 ·rw[h.cV];exact mJ.k9
 ·rw[h.c3];omega
 ·rw[h.c3]at a5;obtain⟨j,a6⟩:=a02 a.c3.l.length (iK _) b (hV a5);exact(bT.qR j _ a6).1
def Jk(f:Int->Int):Prop:=∀x y:Int,-1048577<=x->x<y->y<=1048577->f x<f y
def Db(s t:bC):Prop:=s.bU<=t.bU/\s.bW<=t.bW
def aFK{a b:j6}{q:Int}(dH:a.dP<b.dP):(yS a b q).bU=a.c8+(-((a.c8-b.c8)*(q-a.dP)))/(b.dP-a.dP):=by rw[a5h D];unfold yS;dsimp only;omega
def aWH{a b:j6}{q mL:Int}(aP:b.c8<=a.c8)(dH:a.dP<b.dP)(h:q<=mL):Db (yS a b mL) (yS a b q):=by
 have a3:(a.c8-b.c8)*(q-a.dP)<=(a.c8-b.c8)*(mL-a.dP):=Wn D D;constructor;·rw[aFK dH,aFK dH];have:=Int.ediv_le_ediv (a:= -((a.c8-b.c8)*(mL-a.dP))) (b:= -((a.c8-b.c8)*(q-a.dP))) (c:=b.dP-a.dP) D D;omega
 ·have:=Int.ediv_le_ediv (a:=(a.c8-b.c8)*(q-a.dP)) (b:=(a.c8-b.c8)*(mL-a.dP)) (c:=b.dP-a.dP) D a3;unfold yS;dsimp only;omega
def aIZ: ∀(l:List j6) (p:j6) (q mL:Int),DV (p::l)->p.dP<=q->q<=mL->Db (C1 p l mL) (C1 p l q)
 |[],p,q,mL,_,_,_=>⟨pJ _,pJ _⟩
 |r::aD,p,q,mL,h,cJ,QW=>by
  have b2:=h.zL 0 p rfl
  have O:=h.zL 1 r rfl
  have X:=h.hZ 0 p r rfl rfl
  have L1:DV (r::aD):=⟨λi=>h.zL (i+1),λi=>h.hZ (i+1)⟩
  unfold C1
  by_cases AK:q<=r.dP
  ·by_cases jK:mL<=r.dP
   ·rw[if_pos AK,if_pos jK];exact aWH X.2 X.1 QW
   ·rw[if_pos AK,if_neg jK]
    have gL:=aF7 (a:=p) (b:=r) (q:=q) D D
    have eH:=Yn aD r mL L1 D
    exact⟨by omega,by omega⟩
  ·rw[if_neg AK,if_neg D]
   exact aIZ aD r q mL L1 D QW
def aDY{l:List j6}(h:DV l){q mL:Int}(QW:q<=mL):Db (xU l mL) (xU l q):=by
 cases l with
 |nil=>exact⟨pJ _,pJ _⟩
 |cons p aD=>
  unfold xU;dsimp only;by_cases AK:q<=p.dP;·
   by_cases jK:mL<=p.dP;·rw[if_pos AK,if_pos jK];exact⟨pJ _,pJ _⟩
   ·rw[if_pos AK,if_neg jK];have eH:=Yn aD p mL h D;exact⟨by dsimp only;omega,by dsimp only;omega⟩
  ·rw[if_neg AK,if_neg D];exact aIZ aD p q mL h D QW
def a1l{l:List j6}(h:DV l)(n4:Bool){q mL:Int}(QW:q<=mL):Db (zX l n4 mL) (zX l n4 q):=by
 unfold zX;cases n4 with
 |false=>exact aDY h QW
 |true=>have:=aDY h (q:= -mL) (mL:= -q) D;exact⟨by simp only[if_true,Jb];have:=this.2;omega,by simp only[if_true,Jb];have:=this.1;omega⟩
def aZd{f:lR}(h:DV f.iA.l)(s:Int){q mL:Int}(QW:q<=mL):Db (vF f s mL) (vF f s q):=by
 have OG:=a1l h f.n4 QW;have Mo:=a1l h (!f.n4) QW;have bAC:=a1l h false QW;have bAD:=a1l h true QW;unfold Db at*;unfold vF;split;·exact OG
 ·
  split;·exact Mo
  ·
   split;·dsimp only;omega
   ·exact⟨pJ _,pJ _⟩
def Pu(s t:bC):Prop:=s.bU<t.bU/\s.bW<t.bW
def Kd{r x y:Int}(M:0<r)(K:0<=x)(h:x<y):r*x*x<r*y*y:=by have O:r*x<=r*y:=Wn D D;have b2:0<=r*x:=CG D K;have X:r*x*x<=r*x*y:=Wn D b2;have aU:r*x<r*y:=Int.mul_lt_mul_of_pos_left h M;have cK:r*x*y<r*y*y:=Int.mul_lt_mul_of_pos_right aU D;omega
def aYg{aD k9:bC}(M:1<=aD.bU/\aD.bU<=aD.bW){q mL:Int}(h:q<mL):Pu (a0D aD k9 q) (a0D aD k9 mL):=by
 unfold a0D Pu;have neg:∀(r x:Int),r*x*x=r*(-x)*(-x):=λr x=>by rw[Wh (r* -x),Wh r,Nm,Int.neg_neg]
 by_cases AK:q<0;·
  by_cases jK:mL<0;·rw[if_pos AK,if_pos jK];have k7:=Kd (r:=aD.bW) (x:= -mL) (y:= -q) D D D;have lJ:=Kd (r:=aD.bU) (x:= -mL) (y:= -q) D D D;rw[<-neg,<-neg]at k7 lJ;dsimp only;omega
  ·rw[if_pos AK,if_neg jK];have k7:=Kd (r:=aD.bW) (x:=0) (y:= -q) D D D;have lJ:=Kd (r:=aD.bU) (x:=0) (y:= -q) D D D;rw[<-neg]at k7 lJ;have gL:0<=aD.bU*mL*mL:=CG (CG D D) D;have eH:0<=aD.bW*mL*mL:=CG (CG D D) D;simp only[a3B]at k7 lJ;dsimp only;omega
 ·rw[if_neg AK,if_neg D];have k7:=Kd (r:=aD.bW) (x:=q) (y:=mL) D D h;have lJ:=Kd (r:=aD.bU) (x:=q) (y:=mL) D D h;dsimp only;omega
def aKV{a:b3}{s:cS}(bT:p3 a){r:Int}(M:0<=r/\r<a.aC.aJ.l.length){q mL:Int}(h:q<mL): ∀k,k<=a.c3.l.length->Pu (tC a s r q k) (tC a s r mL k)
 |0,_=>by
  have a5:=ZD (s:=s) bT M a.cM.l.length (iK _)
  exact aYg ⟨a5.1,a5.2.1⟩ h
 |k+1,aG=>by
  have c6:=aKV (s:=s) bT M h k D
  have m:=aZd (bT.qR k _ X4).1.ok (s.c3.l.getD k 0) (show q<=mL by omega)
  unfold Pu Db at*
  rw[tC.eq_2,tC.eq_2]
  split
  ·dsimp only;omega
  ·exact c6
def aGs{a:b3}{s:cS}(bT:p3 a){r:Int}(M:0<=r/\r<a.aC.aJ.l.length){q mL:Int}(h:q<mL):Pu (mN a s r q) (mN a s r mL):=aKV bT M h _ (iK _)
def Jk.le{f:Int->Int}(h:Jk f){x y:Int}(O:-1048577<=x)(X:x<=y)(aU:y<=1048577):f x<=f y:=by
 rcases Int.lt_or_eq_of_le X with c4|c4;·exact Int.le_of_lt (h x y O c4 aU)
 ·rw[c4];exact pJ _
def a4E{f:Int->Int}{hU:Int}(aF:Jk f):∀(n:Nat) (b5 aE:Int),(aE-b5).toNat=n->-1048577<=b5->b5<=aE->aE<=1048577->
 b5<=D0 f hU b5 aE/\D0 f hU b5 aE<=aE/\(∀x,b5<x->x<=D0 f hU b5 aE->f x<=hU)/\(∀x,D0 f hU b5 aE<x->x<=aE->hU<f x)
 |n,b5,aE,b1,O,IF,X=>by
  by_cases h:b5<aE
  ·have W:=SE (x:=aE-b5+1) D
   by_cases cG:f (b5+(aE-b5+1).tdiv 2)<=hU
   ·rw[aKz h cG]
    obtain⟨k7,lJ,m4,vG⟩:=a4E (hU:=hU) aF _ (b5+(aE-b5+1).tdiv 2) aE rfl D D X
    refine⟨by omega,lJ,λx DE QY=>?_,vG⟩
    rcases IY (b5+(aE-b5+1).tdiv 2) x with K|K
    ·exact m4 x K QY
    ·exact Int.le_trans (aF.le D K D) cG
   ·rw[aKT h cG]
    obtain⟨k7,lJ,m4,vG⟩:=a4E (hU:=hU) aF _ b5 (b5+(aE-b5+1).tdiv 2-1) rfl O D D
    refine⟨k7,by omega,m4,λx DE QY=>?_⟩
    rcases IY (b5+(aE-b5+1).tdiv 2-1) x with K|K
    ·have:=aF.le (x:=b5+(aE-b5+1).tdiv 2) (y:=x) D D D
     omega
    ·exact vG x DE K
  ·rw[aKM h]
   exact⟨by omega,by omega,λx _ _=>by omega,λx _ _=>by omega⟩
termination_by n=>n
decreasing_by all_goals (have:=SE (x:=aE-b5+1) D;omega)
def a5F{f:Int->Int}{hU:Int}(aF:Jk f):∀(n:Nat) (b5 aE:Int),(aE-b5).toNat=n->-1048577<=b5->b5<=aE->aE<=1048577->
 b5<=EE f hU b5 aE/\EE f hU b5 aE<=aE/\(∀x,b5<=x->x<EE f hU b5 aE->f x<hU)/\(∀x,EE f hU b5 aE<=x->x<aE->hU<=f x)
 |n,b5,aE,b1,O,IF,X=>by
  by_cases h:b5<aE
  ·have W:=SE (x:=aE-b5) D
   by_cases cG:hU<=f (b5+(aE-b5).tdiv 2)
   ·rw[aK3 h cG]
    obtain⟨k7,lJ,m4,vG⟩:=a5F (hU:=hU) aF _ b5 (b5+(aE-b5).tdiv 2) rfl O D D
    refine⟨k7,by omega,m4,λx DE QY=>?_⟩
    rcases IY x (b5+(aE-b5).tdiv 2)with K|K
    ·exact vG x DE K
    ·exact Int.le_trans cG (aF.le D K D)
   ·rw[aEc h cG]
    obtain⟨k7,lJ,m4,vG⟩:=a5F (hU:=hU) aF _ (b5+(aE-b5).tdiv 2+1) aE rfl D D X
    refine⟨by omega,lJ,λx DE QY=>?_,vG⟩
    rcases IY x (b5+(aE-b5).tdiv 2+1)with K|K
    ·have:=aF.le (x:=x) (y:=b5+(aE-b5).tdiv 2) D D D
     omega
    ·exact m4 x K QY
  ·rw[aD4 h]
   exact⟨by omega,by omega,λx _ _=>by omega,λx _ _=>by omega⟩
termination_by n=>n
decreasing_by all_goals (have:=SE (x:=aE-b5) D;omega)
def b0n{a:b3}{s:cS}(bT:p3 a){r:Int}(M:0<=r/\r<a.aC.aJ.l.length):Jk λq=>(mN a s r q).bU:=λ_ _ _ h _=>(aGs bT M h).1
def aXR{a:b3}{s:cS}(bT:p3 a){r:Int}(M:0<=r/\r<a.aC.aJ.l.length):Jk λq=>(mN a s r q).bW:=λ_ _ _ h _=>(aGs bT M h).2
end Go.Proofs.YtchfclmokpbldaaGreat
namespace Go.Proofs.YtchfclmokpbldaaGreat
open Go.Aw Go Go.Proofs.Tryz
set_option maxRecDepth 20000
attribute [local irreducible] cQ dF dV aM cP eC e5 e1 e2 e6 eX e4
def rL(n:Int):List Value:=[.int .u8 n]
abbrev gX(x:a4 Int):fJ:=x.gN 1 rL []
abbrev sK(c:Nat)(x:a4 Int)(k:Nat):bN:=⟨c,[x.val,.int .i64 (k:Int)],168⟩
structure wE(x:a4 Int)(R:aO):Prop where
 gN:aL (gX x) R
 a1H:∀(i:Nat) (b:Int),x.l[i]?=some b->0<=b/\b<=255
def a5b(c:Nat)(x:a4 Int)(k:Nat)(n:Int)(R:aO)(K:wE x R)(aG:k<=x.l.length)(b1:n<=1000000):
 aM prog 20 [.pointer (some ⟨c,0,none⟩),.int .i64 n].toArray [sK c x k] R
  (λv E G=>∃(r:Int) (g3:Nat),v=.int .i64 r/\0<=r/\(1<=n->r<n)/\(n<1->r=0)/\g3<=x.l.length/\(x.l.length<=k->r=0/\g3=k)/\[sK c x g3]=E/\R=G):=by
 have m6:=K.gN;refine m1 call20 m6 λQZ=>?_;refine b6 77 call20 func20 rfl rfl rfl ?_;apply m3∘CB;refine gZ N [0,1,2,3,4,5,6,7,8,9,10,11,12,13] _ dO bI hA ?_;apply(hK);refine bE E0 rfl rfl rfl ?_;apply(sS);refine lQ (k:=8) aY (λjL=>?_) (λjL=>?_);·
  replace jL:=bB jL;iterate 10 apply(iU)
  apply(l2);refine vS rfl ?_;exact aS6
 replace jL:=bB jL;apply PS∘PS;refine bE yG rfl rfl rfl ?_;refine bE G4 rfl rfl rfl ?_;apply(l2);refine U ?_ ?_<;>intro aQ;·exact aS6
 have a5:=bJ (l:=x.l) (k:=k) 0 D;have TE:=K.a1H _ _ a5;apply e0∘lX;refine aI jV rfl ?_;apply fD∘k3;refine aI jV rfl ?_;apply vZ∘j2;refine gZ N [0,1,2,3,4,5,6,7,8,9,10,11,12] _ dO bI hA ?_;apply PS∘PS∘vQ∘aB1∘k4∘My∘qV;refine g5 (a8 (bK (bK ?_)));refine gZ N [0,1,2,3,4,5,6,7,8,9,10,11,12,13] _ dO bI hA ?_;apply(hK);refine bE UK rfl rfl rfl ?_;apply(sS);refine lQ (k:=41) aY (λjL=>?_) (λjL=>?_);·
  replace jL:=bB jL;apply PS∘PS;refine bE yG rfl rfl rfl ?_;refine bE E0 rfl rfl rfl ?_;apply(l2);refine U ?_ ?_<;>intro bL;·
   obtain⟨iB,Tr⟩:∃iB,iB=k+2:=⟨_,rfl⟩;have y8:=bJ (l:=x.l) (k:=k+1) 0 D;have b9s:=K.a1H _ _ y8;refine bK ?_;refine gZ N [0,1,2,3,4,5,6,7,8,9,10,11,12,13,14] _ dO bI hA ?_;apply hK∘Hl∘PS∘PS∘aOr∘k4∘My∘GR∘qV;refine g5 (a8 (c2 ?_));apply(lX);refine aI jV rfl ?_;apply fD∘k3;refine aI jV rfl ?_;apply NB∘lD∘Mw∘vB;have r2:=λy (h:0<=y)=>And.intro (a3v n h) (a3I y (show 0<n by omega));refine lH (E:=[sK c x iB]) (G:=R) OZ ?aP ?dI ?bO;case aP=>exact⟨_,iB,rfl,(r2 _ D).1,λ_=>(r2 _ D).2,λ_=>by omega,by omega,λh=>by omega,rfl,rfl⟩
   case dI=>subst Tr;exact bA
   case bO=>exact n1 _
  obtain⟨iB,Tr⟩:∃iB,iB=k+1:=⟨_,rfl⟩;apply e0∘lD∘Mw∘vB;have r2:=λy (h:0<=y)=>And.intro (a3v n h) (a3I y (show 0<n by omega));refine lH (E:=[sK c x iB]) (G:=R) OZ ?aP ?dI ?bO;case aP=>exact⟨_,iB,rfl,(r2 _ D).1,λ_=>(r2 _ D).2,λ_=>by omega,by omega,λh=>by omega,rfl,rfl⟩
  case dI=>subst Tr;exact bA
  case bO=>exact n1 _
 replace jL:=bB jL;obtain⟨iB,Tr⟩:∃iB,iB=k+1:=⟨_,rfl⟩;iterate 10 apply(iU)
 apply(l2);refine MX rfl ?_;apply e0∘lD∘Mw∘vB;have r2:=λy (h:0<=y)=>And.intro (a3v n h) (a3I y (show 0<n by omega));refine lH (E:=[sK c x iB]) (G:=R) OZ ?aP ?dI ?bO;case aP=>exact⟨_,iB,rfl,(r2 _ D).1,λ_=>(r2 _ D).2,λ_=>by omega,by omega,λh=>by omega,rfl,rfl⟩
 case dI=>subst Tr;exact bA
 case bO=>exact n1 _
def aXS(c:Nat)(x:a4 Int)(k:Nat)(n:Int)(R:aO)(K:wE x R)(aG:k<=x.l.length)(b1:n<=1000000):
 aM prog 20 [.pointer (some ⟨c,0,none⟩),.int .i64 n].toArray [sK c x k] R
  (λv E G=>∃(r:Int) (g3:Nat),v=.int .i64 r/\0<=r/\(1<=n->r<n)/\(n<1->r=0)/\g3<=x.l.length/\[sK c x g3]=E/\R=G):=
 (a5b c x k n R K aG b1).mono λv E G ⟨r,g3,O,X,aU,cK,fY,_,i7,nL⟩=>⟨r,g3,O,X,aU,cK,fY,i7,nL⟩
def aIX(c:Nat)(x:a4 Int)(k:Nat)(b5 aE:Int)(R:aO)(K:wE x R)(aG:k<=x.l.length)(aX:-400000<=b5/\b5<=aE/\aE<=400000):
 aM prog 73 [.pointer (some ⟨c,0,none⟩),.int .i64 b5,.int .i64 aE].toArray [sK c x k] R
  (λv E G=>∃(r:Int) (g3:Nat),v=.int .i64 r/\b5<=r/\r<=aE/\g3<=x.l.length/\(x.l.length<=k->r=b5/\g3=k)/\[sK c x g3]=E/\R=G):=by refine b6 15 call73 func73 rfl rfl rfl ?_;apply m3∘FX∘lX∘lD∘j3∘k3;refine dT rfl (a5b c x k (aE-b5+1) _ K aG D) rfl ?_;rintro v E G ⟨r,g3,rfl,O,X,aU,Lw,W,rfl,rfl⟩;have cK:=X D;apply k3∘vB;refine cX [sK c x g3] R ?_;exact⟨_,g3,rfl,by omega,by omega,Lw,λh=>by have:=W h;omega,rfl,rfl⟩
def aZK(c:Nat)(x:a4 Int)(k:Nat)(b5 aE:Int)(R:aO)(K:wE x R)(aG:k<=x.l.length)(aX:-400000<=b5/\b5<=aE/\aE<=400000):
 aM prog 73 [.pointer (some ⟨c,0,none⟩),.int .i64 b5,.int .i64 aE].toArray [sK c x k] R
  (λv E G=>∃(r:Int) (g3:Nat),v=.int .i64 r/\b5<=r/\r<=aE/\g3<=x.l.length/\[sK c x g3]=E/\R=G):=
 (aIX c x k b5 aE R K aG aX).mono λv E G ⟨r,g3,O,X,aU,fY,_,i7,nL⟩=>⟨r,g3,O,X,aU,fY,i7,nL⟩
abbrev NP(x:a4 Int)(k:Nat):List Value:=[x.val,.int .i64 (k:Int)]
def V2{c:Nat}{x:a4 Int}{k:Nat}{n:Int}{L:aR}{F:List Value->aR}{R:aO}(dL:HI c (NP x k) 168 L F)(K:wE x R)(aG:k<=x.l.length)(b1:n<=1000000):
 aM prog 20 [.pointer (some ⟨c,0,none⟩),.int .i64 n].toArray L R
  (λv E G=>∃(r:Int) (g3:Nat),v=.int .i64 r/\0<=r/\(1<=n->r<n)/\(n<1->r=0)/\g3<=x.l.length/\F (NP x g3)=E/\R=G):=
 (aM.a1C (CM:=λv hR G=> ∃(r:Int) (g3:Nat),v= .int .i64 r/\0<=r/\(1<=n->r<n)/\(n<1->r=0)/\g3<=x.l.length/\hR=NP x g3/\R=G) dL (aXS c x k n R K aG b1)
  (λv E G ⟨r,g3,O,X,aU,cK,fY,i7,nL⟩=>⟨_,i7,r,g3,O,X,aU,cK,fY,rfl,nL⟩)).mono
  (λv E G ⟨hR,b2,r,g3,O,X,aU,cK,fY,i7,nL⟩=>⟨r,g3,O,X,aU,cK,fY,by rw[<-i7];exact b2,nL⟩)
def aVs{c:Nat}{x:a4 Int}{k:Nat}{n:Int}{L:aR}{F:List Value->aR}{R:aO}(dL:HI c (NP x k) 168 L F)(K:wE x R)(aG:k<=x.l.length)(b1:n<=1000000):
 aM prog 20 [.pointer (some ⟨c,0,none⟩),.int .i64 n].toArray L R
  (λv E G=>∃(r:Int) (g3:Nat),v=.int .i64 r/\0<=r/\(1<=n->r<n)/\(n<1->r=0)/\g3<=x.l.length/\(x.l.length<=k->r=0/\g3=k)/\F (NP x g3)=E/\R=G):=
 (aM.a1C (CM:=λv hR G=> ∃(r:Int) (g3:Nat),v= .int .i64 r/\0<=r/\(1<=n->r<n)/\(n<1->r=0)/\g3<=x.l.length/\(x.l.length<=k->r=0/\g3=k)/\hR=NP x g3/\R=G) dL (a5b c x k n R K aG b1)
  (λv E G ⟨r,g3,O,X,aU,cK,fY,W,i7,nL⟩=>⟨_,i7,r,g3,O,X,aU,cK,fY,W,rfl,nL⟩)).mono
  (λv E G ⟨hR,b2,r,g3,O,X,aU,cK,fY,W,i7,nL⟩=>⟨r,g3,O,X,aU,cK,fY,W,by rw[<-i7];exact b2,nL⟩)
def aVO{c:Nat}{x:a4 Int}{k:Nat}{b5 aE:Int}{L:aR}{F:List Value->aR}{R:aO}(dL:HI c (NP x k) 168 L F)(K:wE x R)(aG:k<=x.l.length)(aX:-400000<=b5/\b5<=aE/\aE<=400000):
 aM prog 73 [.pointer (some ⟨c,0,none⟩),.int .i64 b5,.int .i64 aE].toArray L R
  (λv E G=>∃(r:Int) (g3:Nat),v=.int .i64 r/\b5<=r/\r<=aE/\g3<=x.l.length/\F (NP x g3)=E/\R=G):=
 (aM.a1C (CM:=λv hR G=> ∃(r:Int) (g3:Nat),v= .int .i64 r/\b5<=r/\r<=aE/\g3<=x.l.length/\hR=NP x g3/\R=G) dL (aZK c x k b5 aE R K aG aX)
  (λv E G ⟨r,g3,O,X,aU,fY,i7,nL⟩=>⟨_,i7,r,g3,O,X,aU,fY,rfl,nL⟩)).mono
  (λv E G ⟨hR,b2,r,g3,O,X,aU,fY,i7,nL⟩=>⟨r,g3,O,X,aU,fY,by rw[<-i7];exact b2,nL⟩)
def a68{c:Nat}{x:a4 Int}{k:Nat}{b5 aE:Int}{L:aR}{F:List Value->aR}{R:aO}(dL:HI c (NP x k) 168 L F)(K:wE x R)(aG:k<=x.l.length)(aX:-400000<=b5/\b5<=aE/\aE<=400000):
 aM prog 73 [.pointer (some ⟨c,0,none⟩),.int .i64 b5,.int .i64 aE].toArray L R
  (λv E G=>∃(r:Int) (g3:Nat),v=.int .i64 r/\b5<=r/\r<=aE/\g3<=x.l.length/\(x.l.length<=k->r=b5/\g3=k)/\F (NP x g3)=E/\R=G):=
 (aM.a1C (CM:=λv hR G=> ∃(r:Int) (g3:Nat),v= .int .i64 r/\b5<=r/\r<=aE/\g3<=x.l.length/\(x.l.length<=k->r=b5/\g3=k)/\hR=NP x g3/\R=G) dL (aIX c x k b5 aE R K aG aX)
  (λv E G ⟨r,g3,O,X,aU,fY,W,i7,nL⟩=>⟨_,i7,r,g3,O,X,aU,fY,W,rfl,nL⟩)).mono
  (λv E G ⟨hR,b2,r,g3,O,X,aU,fY,W,i7,nL⟩=>⟨r,g3,O,X,aU,fY,W,by rw[<-i7];exact b2,nL⟩)
end Go.Proofs.YtchfclmokpbldaaGreat
def a0S(h:A->B:=by exact fP (i5 N rfl rfl rfl rfl (i:=(a.cM.l.getD k default).cV.toNat) dA D) rfl rfl rfl rfl):=h
def a5l(h:A->B:=by exact fP (i5 N rfl rfl rfl rfl (i:=k) dA D) rfl rfl rfl rfl):=h
def aFq(h:A->B:=by exact iS N [] [0,1,2,3,4,5,6,7,8,9,10] [11] (_) _ dO bI bA (by(repeat(first|apply List.Sublist.cons (a:=bN.mk AG _ _)|apply List.Sublist.cons_cons));exact rH _)):=h
def aI1(h:A->B:=by exact iS N [] [0,1,2,3,4,5,6,7,8,9,10] [11] (_) _ dO bI bA (by(repeat(first|apply List.Sublist.cons (a:=bN.mk rU _ _)|apply List.Sublist.cons_cons));exact rH _)):=h
namespace Go.Proofs.YtchfclmokpbldaaGreat
open Go.Aw Go Go.Proofs.Tryz
def E9(a:b3)(s:cS):Nat->List bC
 |0=>List.replicate a.aC.aJ.l.length ⟨0,0⟩
 |k+1=>
  let d:=a.cM.l.getD k default
  let x:=AA d (s.cM.l.getD k 0)
  let y:=(E9 a s k).getD d.cV.toNat default
  (E9 a s k).set d.cV.toNat ⟨y.bU+x.bU,y.bW+x.bW⟩
def Yp(a:b3)(s:cS): ∀k,(E9 a s k).length=a.aC.aJ.l.length
 |0=>by simp[E9]
 |k+1=>by simp only[E9,q0];exact Yp a s k
def a55{a:b3}{s:cS}(bT:p3 a){r:Nat}(M:r<a.aC.aJ.l.length):∀k,k<=a.cM.l.length->∃x:bC,(E9 a s k)[r]?=some x/\
 (oF a s r k).bU=(a.aC.aJ.l.getD r default).aD.bU+x.bU/\(oF a s r k).bW=(a.aC.aJ.l.getD r default).aD.bW+x.bW
 |0,_=>⟨⟨0,0⟩,by simp[E9,M],by simp[oF],by simp[oF]⟩
 |k+1,aG=>by
  obtain⟨x,O,X,aU⟩:=a55 (s:=s) bT M k D
  have bM:=bT.H4 k _ (bJ default (show k<a.cM.l.length by omega))
  have b9y:=bM.1.cV
  simp only[E9,oF]
  by_cases W:(a.cM.l.getD k default).cV=(r:Int)
  ·rw[if_pos W]
   have uU:(a.cM.l.getD k default).cV.toNat=r:=by omega
   rw[uU]
   have b7:(E9 a s k).getD r default=x:=by rw[m8,O];rfl
   refine⟨_,tJ (by rw[Yp];exact M),?_,?_⟩<;>rw[b7]<;>dsimp only<;>omega
  ·rw[if_neg W]
   have uU:¬(a.cM.l.getD k default).cV.toNat=r:=by omega
   exact⟨x,by rw[KN uU];exact O,X,aU⟩
def pD(a:b3):Nat->List Nat
 |0=>[]
 |k+1=>if(a.aC.aJ.l.getD k default).eJ=true then pD a k else pD a k++[k]
def HZ(a:b3)(v:Nat):Nat->List Int
 |0=>[]
 |k+1=>
  if(a.aC.aJ.l.getD k default).eJ=true then HZ a v k
  else if(a.aC.aJ.l.getD k default).cR=(v:Int)\/(a.aC.aJ.l.getD k default).to=(v:Int)then HZ a v k++[((pD a k).length:Int)]
  else HZ a v k
def a7v(a:b3): ∀k,(pD a k).length<=k
 |0=>by simp[pD]
 |k+1=>by
  have:=a7v a k
  simp only[pD]
  split
  ·omega
  ·simp;omega
def Qd(a:b3)(v:Nat): ∀k,(HZ a v k).length<=k
 |0=>by simp[HZ]
 |k+1=>by
  have:=Qd a v k
  simp only[HZ]
  split
  ·omega
  ·split
   ·simp;omega
   ·omega
structure s5 where
 lN:a4 lI
 l3:a4 (a4 Int)
abbrev s5.val(n:s5):Value:=.agg #[n.lN.val,n.l3.val]
def s5.cells(n:s5):List Value:=[n.lN.val,n.l3.val]
def a7P(x:a4 Int):List Value:=[x.val]
abbrev q3(x:a4 lI):fJ:=x.gN 12 lI.cells (x.l.map lI.gN)
abbrev qA(x:a4 (a4 Int)):fJ:=x.gN 1 a7P (x.l.map dU)
structure K5(a:b3)(s:cS)(n:s5):Prop where
 XG:n.lN.l.map lI.pY=(pD a a.aC.aJ.l.length).map λ(i:Nat)=>(i:Int)
 RB:∀p∈n.lN.l,Ji a s p.pY p
 a1D:n.l3.l.length=a.aC.places.l.length
 l3:∀(v:Nat) (x:a4 Int),n.l3.l[v]?=some x->x.l=HZ a v a.aC.aJ.l.length
structure RY(a:b3)(s:cS)(k:Nat)(F:List (J BJ)):Prop where
 len:F.length=a.aC.aJ.l.length
 ok:∀(r:Nat) (p:J BJ),F[r]?=some p->p.ok 5 BJ.cells/\p.l=H2 a s r k
def RY.zero(a:b3)(s:cS):RY a s 0 (List.replicate a.aC.aJ.l.length J.nil):=by exact aCd
def RY.EX{a:b3}{s:cS}{k:Nat}{F:List (J BJ)}(h:RY a s k F)(aH:s.c3.l.getD k 0=0):RY a s (k+1) F:=by refine⟨h.len,λr p aP=>?_⟩;rw[H2,if_neg (λh=>h.1 aH)];exact h.ok r p aP
def RY.next{a:b3}{s:cS}{k:Nat}{F:List (J BJ)}(h:RY a s k F)(aH: ¬s.c3.l.getD k 0=0){i:Nat}(aE:(i:Int)=(a.c3.l.getD k default).cV){p:J BJ}(aP:F[i]? =some p){o:g6}
 (dG:(⟨o,p.l++[⟨a.c3.l.getD k default,s.c3.l.getD k 0⟩]⟩:J BJ).ok 5 BJ.cells):RY a s (k+1) (F.set i ⟨o,p.l++[⟨a.c3.l.getD k default,s.c3.l.getD k 0⟩]⟩):=by
 refine⟨by simp[h.len],λr q cJ=>?_⟩;rw[IW]at cJ;split at cJ;·
  rename_i aAV;subst aAV;split at cJ;·cases cJ;refine⟨dG,?_⟩;dsimp only;rw[H2,if_pos ⟨aH,aE.symm⟩,(h.ok i p aP).2]
  ·cases cJ
 ·rename_i aAV;rw[H2,if_neg (λh=>aAV D)];exact h.ok r q cJ
structure RX(a:b3)(k:Nat)(Z:List (J Int)):Prop where
 len:Z.length=a.aC.places.l.length
 ok:∀(v:Nat) (p:J Int),Z[v]?=some p->p.ok 1 a1/\p.l=HZ a v k
def RX.zero(a:b3):RX a 0 (List.replicate a.aC.places.l.length J.nil):=by exact aCd
def RX.EX{a:b3}{k:Nat}{Z:List (J Int)}(h:RX a k Z)(cG:(a.aC.aJ.l.getD k default).eJ=true):RX a (k+1) Z:=by refine⟨h.len,λv p aP=>?_⟩;rw[HZ,if_pos cG];exact h.ok v p aP
def RX.next{a:b3}{k:Nat}{Z:List (J Int)}(h:RX a k Z)(cG: ¬(a.aC.aJ.l.getD k default).eJ=true){i j:Nat}(aE:(i:Int)=(a.aC.aJ.l.getD k default).cR)(a6:(j:Int)=(a.aC.aJ.l.getD k default).to)(jF:i≠j)
 {p q:J Int} (aP:Z[i]?=some p) (cJ:Z[j]?=some q) {o o':g6} {n:Int} (b1:n=((pD a k).length:Int)) (dG:(⟨o,p.l++[n]⟩:J Int).ok 1 a1) (Gg:(⟨o',q.l++[n]⟩:J Int).ok 1 a1):
 RX a (k+1) ((Z.set i ⟨o,p.l++[n]⟩).set j ⟨o',q.l++[n]⟩):=by
 refine⟨by simp[h.len],λv x K=>?_⟩;rw[HZ,if_neg cG];rw[IW]at K;split at K;·
  rename_i cY;subst cY;split at K;·cases K;refine⟨Gg,?_⟩;dsimp only;rw[if_pos (.inr a6.symm),(h.ok j q cJ).2,b1]
  ·cases K
 ·
  rename_i cY;rw[IW]at K;split at K;·
   rename_i KB;subst KB;split at K;·cases K;refine⟨dG,?_⟩;dsimp only;rw[if_pos (.inl aE.symm),(h.ok i p aP).2,b1]
   ·cases K
  ·rename_i KB;rw[if_neg D];exact h.ok v x K
structure MU(a:b3)(s:cS)(S:aO)(k:Nat)(P:J lI):Prop where
 ok:P.ok 12 lI.cells
 XG:P.l.map lI.pY=(pD a k).map λ(i:Nat)=>(i:Int)
 RB:∀p∈P.l,Ji a s p.pY p/\aL p.gN S
def MU.length{a:b3}{s:cS}{S:aO}{k:Nat}{P:J lI}(h:MU a s S k P):P.l.length=(pD a k).length:=by have:=congrArg List.length h.XG;simpa using this
def MU.zero(a:b3)(s:cS)(S:aO):MU a s S 0 J.nil:=⟨J.iJ,rfl,λ_ h=>by cases h⟩
def MU.EX{a:b3}{s:cS}{S:aO}{k:Nat}{P:J lI}(h:MU a s S k P)(cG:(a.aC.aJ.l.getD k default).eJ=true):MU a s S (k+1) P:=
 ⟨h.ok,by rw[pD,if_pos cG];exact h.XG,h.RB⟩
def MU.next{a:b3}{s:cS}{S:aO}{k:Nat}{P:J lI}(h:MU a s S k P)(cG:¬(a.aC.aJ.l.getD k default).eJ=true){p:lI}(aP:Ji a s k p)(aH:aL p.gN S){o:g6}(dG:(⟨o,P.l++[p]⟩:J lI).ok 12 lI.cells):
 MU a s S (k+1) ⟨o,P.l++[p]⟩:=by
 refine⟨dG,?_,λq cJ=>?_⟩;·rw[pD,if_neg cG];simp[h.XG,aP.pY]
 ·
  rcases List.mem_append.1 cJ with cJ|cJ;·exact h.RB q cJ
  ·rw[List.mem_singleton.1 cJ];refine⟨?_,aH⟩;rw[aP.pY];exact aP
def a7w{a7:Type}{T:TypeId}{f:a7->List Value}(n:Nat):(List.replicate n (J.nil:J a7)).flatMap (J.L T f)=[]:=by
 induction n with
 |zero=>rfl
 |succ n c6=>rw[a3G,CF,c6];rfl
def a7e{a7:Type}(n:Nat):z3 [.slice none 0 0] n=(List.replicate n (J.nil:J a7)).flatMap JF:=a59 (f:=JF) (x:=J.nil) rfl n
def aUn(n:Nat):z3 [.int .i64 0,.int .i64 0] n=(List.replicate n (⟨0,0⟩:bC)).flatMap bC.cells:=a59 (f:=bC.cells) (x:=⟨0,0⟩) rfl n
end Go.Proofs.YtchfclmokpbldaaGreat
namespace Go.Proofs.YtchfclmokpbldaaGreat
open Go.Aw Go Go.Proofs.Tryz
set_option maxRecDepth 20000
attribute [local irreducible] cQ dF dV aM cP eC e5 e1 e2 e6 eX e4 J.L
def a7O(a:b3)(s:cS)(L:aR)(R:aO)(a3:mZ a R)(aH:pQ s R)(bT:p3 a)(aF:UQ a s):
 aM prog 113 [a.val,s.val].toArray L R (λv E G=>∃n:s5,v=n.val/\K5 a s n/\L=E/\q3 n.lN::qA n.l3::R=G):=by
 have QR:=a3.aJ;have B7:=a3.places;have uV:=a3.c3;have nD:=a3.cM;have Gt:=aH.c3;have Uo:=aH.cM;have tW:=bT.T3;have QT:=bT.XF;have a9Y:=aF.aBx;have b35:=aF.aBv;have N7:=bT.aC.aJ;have r0:=bT.aC.places;refine b6 181 call113 func113 rfl rfl rfl ?_;apply(dB);intro eH;apply(iV);intro eS;apply(dZ);intro eD;apply j8∘CT∘GS;rintro v E G ⟨AG,rfl,rfl,H8⟩;replace H8:=H8.symm;subst H8;apply vD∘CT∘GS;rintro v E G ⟨ZI,rfl,rfl,Fa⟩;replace Fa:=Fa.symm;subst Fa;apply v1∘qP;refine dS [(2,.pointer _),(3,.pointer _),(4,.pointer _),(5,.slice _ _ _),(6,.slice _ _ _),(27,.slice _ _ _),(28,.int _ _),(29,.int _ _)] bV λfK=>?_;refine qK ([7,8,9]++cN 29 35) ((⟨λg=>[(29,.int .i64 ((g.1:Nat):Int))],λg=>⟨ZI,z3 [.slice none 0 0] a.aC.aJ.l.length,223⟩::⟨AG,(E9 a s g.1).flatMap bC.cells,90⟩::⟨eD,[.slice none 0 0,.slice none 0 0],221⟩::⟨eS,s.cells,80⟩::⟨eH,a.cells,32⟩::L,λ_=>R,λg=>a.cM.l.length-g.1⟩:fB {k:Nat//k<=a.cM.l.length})) (⟨0,by omega⟩) bV (by dsimp only;rw[E9,<-aUn];exact rH _) eN ?_;rintro⟨k,aG⟩ cH;try dsimp only
 apply(h0);refine U ?_ ?_<;>intro aQ;·
  have bM:=bJ (l:=a.cM.l) (k:=k) default D;have xH:=bJ (l:=s.cM.l) (k:=k) 0 D;have GC:=bT.H4 _ _ bM;have QK:=GC.1.cV;have Aj:=Yp a s k;obtain⟨y,aS,a2A,OB⟩:=a55 (s:=s) bT (r:=(a.cM.l.getD k default).cV.toNat) D k D;have b5Z:=ZD (s:=s) bT (r:=(((a.cM.l.getD k default).cV.toNat:Nat):Int)) D k D;have TR:=a4A GC.1 (s.cM.l.getD k 0);have J9:=(bT.aC.cV _ _ (bJ (l:=a.aC.aJ.l) (k:=(a.cM.l.getD k default).cV.toNat) default D)).aD;have W8:(E9 a s k).getD (a.cM.l.getD k default).cV.toNat default=y:=getD_some aS;apply oJ∘GO∘Hm∘dZ;intro h6;apply dM∘HT;refine gZ N [0,1,2,3,4,5,6,7,8] _ dO bI hA ?_;refine bE mM rfl rfl rfl ?_;apply l1∘Mv∘k4;refine lW rfl (aX7 (a.cM.l.getD k default) (s.cM.l.getD k 0) _ _ (nD.H4 bM)) ?_;apply(qH);intro jR;apply uC∘IP∘aFq∘NH∘a0S∘CC∘UA∘mH∘XL∘a0S∘CC∘zN;refine U4 (v:=Value.int _ _) rfl rfl rfl rfl sX Ij (by exact De (wY:=⟨y.bU+(AA (a.cM.l.getD k default) (s.cM.l.getD k 0)).bU,y.bW⟩) bD aW bR aB) aB bA ?_;apply(wV);obtain⟨DJ,aBf⟩:∃DJ:bC,DJ=⟨y.bU+(AA (a.cM.l.getD k default) (s.cM.l.getD k 0)).bU,y.bW⟩:=⟨_,rfl⟩;have Va:((E9 a s k).set (a.cM.l.getD k default).cV.toNat ⟨y.bU+(AA (a.cM.l.getD k default) (s.cM.l.getD k 0)).bU,y.bW⟩)[(a.cM.l.getD k default).cV.toNat]?=some DJ:=by rw[aBf];exact tJ D
  have bAh:DJ.bW=y.bW:=by rw[aBf]
  apply aFq∘NH∘a0S∘CC∘UA∘mH∘XL∘a0S∘CC∘zN;refine U4 (v:=Value.int _ _) rfl rfl rfl rfl sX Ij (by exact De (wY:=⟨DJ.bU,DJ.bW+(AA (a.cM.l.getD k default) (s.cM.l.getD k 0)).bW⟩) bD aW bR aB) aB bA ?_;apply(PV);subst aBf;exact hP ⟨k+1,by omega⟩ gW bV (by dsimp only;rw[xQ,E9];(try dsimp only);rw[W8];exact bA) eN hO
 obtain rfl:k=a.cM.l.length:=by omega
 apply xN∘qP;refine dS [(2,.pointer _),(3,.pointer _),(4,.pointer _),(5,.slice _ _ _),(6,.slice _ _ _),(65,.slice _ _ _),(66,.int _ _),(67,.int _ _)] bV λoA=>?_;refine qK ([10,11]++cN 67 30) ((⟨λg=>[(67,.int .i64 ((g.1.1:Nat):Int))],λg=>⟨ZI,g.1.2.flatMap JF,223⟩::⟨AG,(E9 a s a.cM.l.length).flatMap bC.cells,90⟩::⟨eD,[.slice none 0 0,.slice none 0 0],221⟩::⟨eS,s.cells,80⟩::⟨eH,a.cells,32⟩::(g.1.2.flatMap (J.L 292 BJ.cells)++L),λ_=>R,λg=>a.c3.l.length-g.1.1⟩:fB {g:Nat×List (J BJ)//g.1<=a.c3.l.length/\RY a s g.1 g.2})) (⟨(0,List.replicate a.aC.aJ.l.length J.nil),by omega,RY.zero a s⟩) bV (by dsimp only;rw[a7w,<-a7e];exact rH _) eN ?_;rintro⟨⟨k,F⟩,aG,kN⟩ cH;try dsimp only
 dsimp only at aG kN;apply(h0);refine U ?_ ?_<;>intro bL;·
  have bM:=bJ (l:=a.c3.l) (k:=k) default D;have xH:=bJ (l:=s.c3.l) (k:=k) 0 D;have GC:=bT.qR _ _ bM;have QK:=GC.1.cV;have a8j:=kN.len;have gA:(a.c3.l.getD k default).cV.toNat<F.length:=by omega
  obtain⟨p,aP⟩:=jW gA;have iF:=kN.ok _ _ aP;have eI:=a6u (a:=a) (s:=s) (r:=(((a.c3.l.getD k default).cV.toNat:Nat):Int)) k;rw[<-iF.2]at eI;apply oJ∘GO∘LG;intro H1;apply dM∘sI∘gK∘GO∘jG∘rR;refine U ?_ ?_<;>intro cC;·refine iS N [78,79,80] [0,1,2,3,4,5,6,7,8,9,10,11,12,13,14,15] [16,17,18] ([bN.mk H1 _ _,bN.mk ZI _ _,bN.mk eS _ _]) _ dO bI bA (by(repeat(first|apply List.Sublist.cons (a:=bN.mk ZI _ _)|apply List.Sublist.cons_cons));exact rH _) ?_;refine m2 oS rfl rfl rfl rfl ?_;apply FZ∘NH;refine fP aQ5 rfl rfl rfl rfl ?_;apply UA∘aBZ∘BO∘aBV∘tE;refine fP (oU (iD:=[(0,(Value.agg _).cells.toList),(1,(Value.int _ _).cells.toList)]) (dD:=[_,_,_,_,_]) N rfl rfl rfl rfl) rfl rfl rfl rfl ?_;refine Eb aCM rfl rfl rfl ?_;rintro v E G ⟨b8U,rfl,rfl,a81⟩;replace a81:=a81.symm;subst a81;apply(NG);refine uN (pO (f:=BJ.cells) (a:=⟨a.c3.l.getD k default,s.c3.l.getD k 0⟩) N rfl rfl rfl rfl (iF.1) cF p2 rfl qI) rfl rfl rfl ?_;rintro v E G ⟨a2P,rfl,aAk,rfl,rfl⟩;apply(gJ);refine bE aQ5 rfl rfl rfl ?_;refine U4 (v:=Value.slice _ _ _) rfl rfl rfl rfl sX Ij (by exact De (wY:=⟨a2P,p.l++[⟨a.c3.l.getD k default,s.c3.l.getD k 0⟩]⟩) bD aW bR aB) aB bA ?_;apply(PV);exact aPX
  apply(mU);exact aPX
 obtain rfl:k=a.c3.l.length:=by omega
 apply n9∘CT∘GS;rintro v E G ⟨ZH,rfl,rfl,Ex⟩;replace Ex:=Ex.symm;subst Ex;refine aI (oU (iD:=[(1,(Value.slice _ _ _).cells.toList)]) (dD:=[_,_]) N rfl rfl rfl rfl) rfl ?_;apply(dZ);intro n3;apply rT∘e7∘qP;refine dS [(4,.pointer _),(5,.slice _ _ _),(6,.slice _ _ _),(12,.pointer _),(105,.slice _ _ _),(106,.int _ _),(107,.int _ _)] bV λUD=>?_;have mem:∀p∈F,∃r:Nat,F[r]?=some p:=λp aP=>List.mem_iff_getElem?.1 aP;refine aZf (A:=[_,_,_,_,_,_,_]) (aN:=5) (λb=>b.qR.gN) bD aW (λp aP=>?b6J) (λp aP x K=>?b66) λS eL=>?_;case b6J=>obtain⟨r,M⟩:=mem p aP;exact(kN.ok r p M).1
 case b66=>obtain⟨r,M⟩:=mem p aP;rw[(kN.ok r p M).2]at K;obtain⟨i,aE⟩:=a02 _ (iK _) x K;exact uV.qR aE
 apply(L3);have aMG:aL (Bm a.aC.aJ) (S++R):=QR.mono λr h=>aT (by simp[h]);refine qK ([13,14,15]++cN 107 73) ((⟨λg=>[(107,.int .i64 ((g.1.1:Nat):Int))],λg=>⟨n3,[g.1.2.1.val,.slice (some ⟨ZH,0,none⟩) a.aC.places.l.length a.aC.places.l.length],221⟩::⟨ZH,g.1.2.2.flatMap JF,40⟩::⟨ZI,F.flatMap JF,223⟩::⟨AG,(E9 a s a.cM.l.length).flatMap bC.cells,90⟩::⟨eD,[.slice none 0 0,.slice none 0 0],221⟩::⟨eS,s.cells,80⟩::⟨eH,a.cells,32⟩::(g.1.2.1.L 225 lI.cells++(g.1.2.2.flatMap (J.L 3 a1)++L)),λ_=>S++R,λg=>a.aC.aJ.l.length-g.1.1⟩:fB {g:Nat×J lI×List (J Int)//g.1<=a.aC.aJ.l.length/\MU a s S g.1 g.2.1/\RX a g.1 g.2.2})) (⟨(0,J.nil,List.replicate a.aC.places.l.length J.nil),by dsimp only;omega,MU.zero a s S,RX.zero a⟩) bV (by dsimp only;rw[mE,a7w,<-a7e];exact rH _) eN ?_;rintro⟨⟨k,P,Z⟩,aG,kX,n7⟩ cH;try dsimp only
 dsimp only at aG kX n7;apply(h0);refine U ?_ ?_<;>intro dX;·
  have M:=bJ (l:=a.aC.aJ.l) (k:=k) default D;have mJ:=bT.aC.cV _ _ M;have N8:=mJ.cR;have TQ:=mJ.to;have a2q:=mJ.ne;have J9:=mJ.aD;have Es:=n7.len;have a8j:=kN.len;have b9n:=kX.length;have b9T:=a7v a k;have b3T:k<F.length:=by omega
  obtain⟨aLC,TH⟩:=jW b3T;have b3x:=kN.ok _ _ TH;have B3:(a.aC.aJ.l.getD k default).cR.toNat<Z.length:=by omega
  have jL:(a.aC.aJ.l.getD k default).to.toNat<Z.length:=by omega
  obtain⟨p,aP⟩:=jW B3;obtain⟨q,cJ⟩:=jW jL;have iF:=n7.ok _ _ aP;have gR:=n7.ok _ _ cJ;have eI:=Qd a (a.aC.aJ.l.getD k default).cR.toNat k;have fT:=Qd a (a.aC.aJ.l.getD k default).to.toNat k;rw[<-iF.2]at eI;rw[<-gR.2]at fT;have jF:(a.aC.aJ.l.getD k default).cR.toNat≠(a.aC.aJ.l.getD k default).to.toNat:=by omega
  obtain⟨y,aS,a2A,OB⟩:=a55 (s:=s) bT (r:=k) D a.cM.l.length D;have b5Z:=ZD (s:=s) bT (r:=((k:Nat):Int)) D a.cM.l.length D;have Aj:=Yp a s a.cM.l.length;apply oJ∘GO∘SR;intro rU;apply dM∘F0∘b9;refine U ?_ ?_<;>intro dY;·refine mD (mF (mB (a8 (c2 ?_))));apply(s6);exact aPd
  apply e0∘kD∘x2;refine iS N [117,118,119,120] [0,1,2,3,4,5,6,7,8,9,10,11] [12,13,14] ([bN.mk rU _ _,bN.mk n3 _ _,bN.mk ZH _ _]) _ dO bI bA aSU ?_;apply FZ∘FZ∘PY;refine fP aQN rfl rfl rfl rfl ?_;apply UA∘zO∘Bf;rintro v E G ⟨b8H,rfl,rfl,a8x⟩;replace a8x:=a8x.symm;subst a8x;apply(NG);refine uN (pO (f:=a1) (a:=(P.l.length:Int)) N rfl rfl rfl rfl (iF.1) cF p2 rfl qI) rfl rfl rfl ?_;rintro v E G ⟨aNJ,rfl,b4s,rfl,rfl⟩;apply(gJ);refine bE aQN rfl rfl rfl ?_;refine U4 (v:=Value.slice _ _ _) rfl rfl rfl rfl sX Ij (by exact De (wY:=⟨aNJ,p.l++[(P.l.length:Int)]⟩) bD aW bR aB) aB bA ?_;apply(IP);have b47:(Z.set (a.aC.aJ.l.getD k default).cR.toNat ⟨aNJ,p.l++[(P.l.length:Int)]⟩)[(a.aC.aJ.l.getD k default).to.toNat]?=some q:=by rw[KN jF];exact cJ
  refine iS N [131,132,133,134] [0,1,2,3,4,5,6,7,8,9,10,11] [12,13,14] ([bN.mk rU _ _,bN.mk n3 _ _,bN.mk ZH _ _]) _ dO bI bA aSU ?_;apply FZ∘FZ∘PY;refine fP aQR rfl rfl rfl rfl ?_;apply UA∘zO∘Bf;rintro v E G ⟨b8I,rfl,rfl,a8z⟩;replace a8z:=a8z.symm;subst a8z;apply(NG);refine uN (pO (f:=a1) (a:=(P.l.length:Int)) N rfl rfl rfl rfl (gR.1) cF p2 rfl qI) rfl rfl rfl ?_;rintro v E G ⟨b6v,rfl,b4t,rfl,rfl⟩;apply(gJ);refine bE aQR rfl rfl rfl ?_;refine U4 (v:=Value.slice _ _ _) rfl rfl rfl rfl sX Ij (by exact De (wY:=⟨b6v,q.l++[(P.l.length:Int)]⟩) bD aW bR aB) aB bA ?_;apply IP∘aI1∘zM∘mH∘EA∘a5l∘CC∘UA∘XL∘zM∘VS∘IP∘aI1∘zM∘mH∘EA∘a5l∘CC∘UA∘XL∘zM∘VS∘wV;refine iS N [] [0,1,2,3,4,5,6,7,8,9] [10,11,12] ([bN.mk rU _ _,bN.mk n3 _ _,bN.mk ZI _ _]) _ dO bI bA fM ?_;apply(mH);refine fP (u4 (row:=[_,_,_,_,_,_,_,_,_,_]) N rfl rfl rfl n0 aB aB) rfl rfl rfl rfl ?_;apply zO∘EA∘a5l∘UA;refine fP (oU (iD:=[(0,(Value.agg _).cells.toList),(1,(Value.int _ _).cells.toList),(2,(Value.slice _ _ _).cells.toList)]) (dD:=[_,_,_,_,_,_,_,_,_,_,_,_]) N rfl rfl rfl rfl) rfl rfl rfl rfl ?_;refine Eb (I5 (iD:=[(0,(Value.agg _).cells.toList)]) (dD:=[_,_,_,_,_,_,_,_,_,_,_,_]) N rfl rfl rfl rfl rfl rfl rfl) rfl rfl rfl ?_;rintro v E G ⟨b8J,rfl,rfl,a8C⟩;replace a8C:=a8C.symm;subst a8C;apply(NG);refine uN (pO (f:=lI.cells) (a:=⟨{a.aC.aJ.l.getD k default with aD:=⟨(a.aC.aJ.l.getD k default).aD.bU+y.bU,(a.aC.aJ.l.getD k default).aD.bW+y.bW⟩},(k:Int),aLC.V⟩) N rfl rfl rfl rfl (kX.ok) cF p2 rfl qI) rfl rfl rfl ?_;rintro v E G ⟨bAH,rfl,b4v,rfl,rfl⟩;apply gJ∘PQ∘PV;exact aPd
 obtain rfl:k=a.aC.aJ.l.length:=by omega
 apply(Hk);have Es:=n7.len;refine E7 (A:=[_,_,_,_,_,_,_]) (aN:=12) (P.l.map lI.gN) bD aW kX.ok (λx K=>?b67) ?_;case b67=>obtain⟨p,aP,rfl⟩:=List.mem_map.1 K;exact(kX.RB p aP).2.mono λr h=>aT (by simp[h])
 apply(L3);refine aHB (A:=[_,_,_,_,_,_,_]) (aN:=1) bD aW (λp aP=>?aBP) λe3 tA=>?_;case aBP=>obtain⟨r,M⟩:=List.mem_iff_getElem?.1 aP;exact(n7.ok r p M).1
 apply(L3);refine Pd (A:=[_]) (aN:=1) (len:=(Z.map J.V).length) (cap:=a.aC.places.l.length) (rows:=(Z.map J.V).map a7P) (eU:=(Z.map J.V).map dU) g2 DQ D (λr M=>?rG) aW ?a70 (λx K=>?aB9) ?_;case rG=>obtain⟨y,_,rfl⟩:=List.mem_map.1 M;rfl
 case a70=>rw[Qr,List.flatMap_map,DK (by rw[JG (aN:=1) (λ_=>rfl)];simp)];rfl
 case aB9=>exact aQY
 apply L3∘eB∘JP;refine lH (E:=L) (G:=q3 P.V::qA ⟨some ⟨ZH,0,none⟩,a.aC.places.l.length,Z.map J.V⟩::R) kS ?aP ?dI ?bO;case aP=>
  refine⟨⟨P.V,⟨some ⟨ZH,0,none⟩,a.aC.places.l.length,Z.map J.V⟩⟩,?_,⟨kX.XG,λp aP=>(kX.RB p aP).1,by simp[Es],λv x K=>?_⟩,rfl,rfl⟩;·simp only[s5.val,a4.val,sV,Es];rfl
  ·dsimp only at K;exact aTn
 case dI=>exact bA
 case bO=>exact λr M=>aT (by simp only[sW,Hw]at M|-;rcases M with h|h|h<;>simp[h])
def Xz{a:b3}{i:Nat}: ∀{k:Nat},i∈pD a k↔i<k/\(a.aC.aJ.l.getD i default).eJ=false
 |0=>by simp[pD]
 |k+1=>by
  have c6:=Xz (a:=a) (i:=i) (k:=k)
  simp only[pD]
  by_cases cG:(a.aC.aJ.l.getD k default).eJ=true
  ·rw[if_pos cG,c6]
   constructor
   ·rintro⟨O,X⟩;exact⟨by omega,X⟩
   ·rintro⟨O,X⟩
    refine⟨?_,X⟩
    rcases Nat.lt_or_eq_of_le (Nat.le_of_lt_succ O)with h|h
    ·exact h
    ·subst h;rw[cG]at X;cases X
  ·rw[if_neg cG,Hw,c6,aCv]
   constructor
   ·rintro(⟨O,X⟩|rfl)
    ·exact⟨by omega,X⟩
    ·exact⟨by omega,by simpa using cG⟩
   ·rintro⟨O,X⟩
    rcases Nat.lt_or_eq_of_le (Nat.le_of_lt_succ O)with h|h
    ·exact .inl ⟨h,X⟩
    ·exact .inr h
def K5.find{a:b3}{s:cS}{n:s5}(h:K5 a s n){r:Int}(M:0<=r/\r<a.aC.aJ.l.length)(cG:(a.aC.aJ.l.getD r.toNat default).eJ=false):∃(j:Nat) (p:lI),n.lN.l[j]?=some p/\p.pY=r:=by
 have O:r.toNat∈pD a a.aC.aJ.l.length:=Xz.2 ⟨by omega,cG⟩;have X:r∈n.lN.l.map lI.pY:=by rw[h.XG];exact List.mem_map.2 ⟨_,O,by omega⟩
 obtain⟨p,aP,W⟩:=List.mem_map.1 X;obtain⟨j,a6⟩:=List.mem_iff_getElem?.1 aP;exact⟨j,p,a6,W⟩
def K5.open{a:b3}{s:cS}{n:s5}(h:K5 a s n){p:lI}(aP:p∈n.lN.l):(0<=p.pY/\p.pY<a.aC.aJ.l.length)/\(a.aC.aJ.l.getD p.pY.toNat default).eJ=false:=by have X:p.pY∈n.lN.l.map lI.pY:=List.mem_map.2 ⟨p,aP,rfl⟩;rw[h.XG]at X;obtain⟨i,aE,W⟩:=List.mem_map.1 X;obtain⟨aU,cK⟩:=Xz.1 aE;rw[<-W];exact⟨by omega,by simpa using cK⟩
def K5.length{a:b3}{s:cS}{n:s5}(h:K5 a s n):n.lN.l.length<=a.aC.aJ.l.length:=by have:=congrArg List.length h.XG;simp only[sV]at this;have:=a7v a a.aC.aJ.l.length;omega
def aL.RB{x:a4 lI}{R:aO}(h:aL (q3 x) R){i:Nat}{p:lI}(aE:x.l[i]?=some p):aL p.gN R:=
 h.sub (.S3 (List.mem_map.2 ⟨p,hV aE,rfl⟩) .lT)
def aYL{l:List Int}(h:l.findSome? tN=none):∀(i:Nat) (p:Int),l[i]?=some p->-70368744177664<=p/\p<=70368744177664:=λi p aP=>by
 have:=List.findSome?_eq_none_iff.1 h p (hV aP)
 unfold tN at this
 split at this
 ·cases this
 ·omega
def wE.mono{x:a4 Int}{R G:aO}(h:wE x R)(k:∀r∈R,aL r G):wE x G:=⟨h.gN.mono k,h.a1H⟩
structure aV5(l:List j6):Prop where
 len:1<=l.length/\l.length<=4
 ok:DV l
 bAW:(l.getD 0 default).c8<=3000
structure aV6(cV:Int)(d:kI):Prop where
 cV:d.cV=cV
 zJ:d.zJ= -1
 len:2<=d.hS.l.length/\d.hS.l.length<=4
 aD:∀(i:Nat) (v:Int),d.hS.l[i]?=some v->0<=v/\v<=900
 b1I:zV d.hS.l d.hS.l.length=true
end Go.Proofs.YtchfclmokpbldaaGreat
namespace Go.Proofs.YtchfclmokpbldaaGreat
open Go.Aw Go Go.Proofs.Tryz
end Go.Proofs.YtchfclmokpbldaaGreat
namespace Go.Proofs.YtchfclmokpbldaaGreat
open Go.Aw Go Go.Proofs.Tryz
set_option maxRecDepth 20000
attribute [local irreducible] cQ dF dV aM cP eC e5 e1 e2 e6 eX e4 J.L
end Go.Proofs.YtchfclmokpbldaaGreat
namespace Go.Proofs.YtchfclmokpbldaaGreat
open Go.Aw Go Go.Proofs.Tryz
def aGk{a7 rK:Type}{f:a7->Option rK}{l:List a7}(h:∀x∈l,f x=none):l.findSome? f=none:=List.findSome?_eq_none_iff.2 h
def aZA{a:b3}{s:cS}(h:UQ a s):l0 a s=true:=by
 have O:=h.aBx;have X:=h.aBv;rw[Dx O X,aGk (λx K=>?_),aGk (λi aE=>?_)];·rfl
 ·have aE:=List.mem_range.1 aE;obtain⟨y,aS⟩:=jW aE;obtain⟨d,bM⟩:=jW (l:=a.cM.l) (k:=i) D;have:=h.H4 i y d aS bM;rw[a0B aS bM];exact if_neg D
 ·obtain⟨j,a6⟩:=List.mem_iff_getElem?.1 K;have:=h.qR j x a6;unfold Iq;exact if_neg D
structure Zk(a:b3)(t:cS)(x:SG):Prop where
 AM:h5 a=0
 LO:l0 a t=true
 a77:aXt a t x=0
 bAF:1<=a.aC.places.l.length/\a.aC.places.l.length<=6
 bAG:a.aC.aJ.l.length<=9
 XF:a.c3.l.length<=2
 T3:a.cM.l.length<=2
 Hr:∀(i:Nat) (r:qN),a.aC.aJ.l[i]?=some r->(-260000000<=r.k9.bU/\r.k9.bW<=260000000)/\r.aD.bW<=22
 iA:∀f∈a.c3.l,aV5 f.iA.l
 hS:∀d∈a.cM.l,aV6 d.cV d
 bAM:∀p∈x.c8.l,-4000<=p/\p<=4000
 bAU:(a.aC.places.l.getD 0 default).tG=true
 bAT:∀v:Nat,v<a.aC.places.l.length->(a.aC.places.l.getD v default).tG=false->∃k u:Nat,k<a.aC.aJ.l.length/\(a.aC.places.l.getD u default).tG=true/\(a.aC.aJ.l.getD k default).eJ=false/\(((a.aC.aJ.l.getD k default).cR=(v:Int)/\(a.aC.aJ.l.getD k default).to=(u:Int))\/((a.aC.aJ.l.getD k default).cR=(u:Int)/\(a.aC.aJ.l.getD k default).to=(v:Int)))
end Go.Proofs.YtchfclmokpbldaaGreat
namespace Go.Proofs.YtchfclmokpbldaaGreat
open Go.Aw Go Go.Proofs.Tryz
set_option maxRecDepth 20000
attribute [local irreducible] cQ dF dV aM cP eC e5 e1 e2 e6 eX e4 J.L
abbrev Iv(y:a4 Int):a4 Int:=⟨y.a,y.cap,y.l.take 300⟩
def aDB(y:a4 Int)(L:aR)(R:aO)(aS:wE y R):
 aM prog 14 [y.val].toArray L R (λv E G=>∃c,v=.pointer (some ⟨c,0,none⟩)/\wE (Iv y) G/\sK c (Iv y) 0::L=E/\gX (Iv y)::R=G):=by have m6:=aS.gN;refine G9 call14 m6 λbAi=>?_;refine b6 10 call14 func14 rfl rfl rfl ?_;apply dC∘T8∘j2;refine aFf 300 m6 ?_;apply BL∘pR;refine aI KT rfl ?_;refine aI (a6V N rfl rfl rfl rfl (n:=(y.l.take 300).length) (by rw[Hu];omega) (by rw[Hu];omega)) rfl ?_;refine aI (oU (iD:=[(0,(Value.slice _ _ _).cells.toList)]) (dD:=[_,_]) N rfl rfl rfl rfl) rfl ?_;apply(iV);intro jR;apply T8∘DH;refine bQ (sK jR (Iv y) 0::L) (gX (Iv y)::R) (sD rfl (I7 Cc)) ?_;exact⟨jR,rfl,⟨aT g2,λi b a5=>by rw[XX]at a5;split at a5;exact aS.a1H i b a5;cases a5⟩,rfl,rfl⟩
def Kh:Zo prog 90:=
 aYT (I:=3) bI bI bI bI bI
def FN{a:b3}{R G:aO}(h:mZ a R)(k:∀r∈R,aL r G):mZ a G:=⟨h.places.mono k,h.aJ.mono k,h.c3.mono k,h.cM.mono k⟩
def NS{s:cS}{R G:aO}(h:pQ s R)(k:∀r∈R,aL r G):pQ s G:=⟨h.c3.mono k,h.cM.mono k⟩
end Go.Proofs.YtchfclmokpbldaaGreat
