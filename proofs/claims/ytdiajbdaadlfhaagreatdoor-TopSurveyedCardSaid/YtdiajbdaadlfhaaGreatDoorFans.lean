-- By an AI agent; no person has read it.
import Derived.Test.YtdiajbdaadlfhaaGreatDoorChecks
set_option linter.all false
set_option maxHeartbeats 4000000
namespace Go.Proofs.YtdiajbdaadlfhaaGreatDoor
open Go.Aw Go Go.Proofs.Tryz
set_option maxRecDepth 20000
attribute [local irreducible] cO dG dP aM cI dR fA e2 e5 fB eQ e9
def aQ6(x y:Int)(L:aW)(R:aP)(K:0<=x)(CB:x<=2199023255552)(bB:0<=y)(WV:y<=4194304):
 aM prog 212 [.int .u64 x,.int .u64 y].toArray L R (λv E R'=>v=.tuple #[.int .u64 0,.int .u64 (x*y)]/\L=E/\R=R'):=by
 have dH:y%4294967296=y:=by omega
 have eH:y/4294967296=0:=by omega
 have a1C:0<=x%4294967296*y:=x3 D bB;have fT:x%4294967296*y<=4294967296*4194304:=JA D WV bB D;have Dj:0<=x/4294967296*y:=x3 D bB;have wN:x/4294967296*y<=512*4194304:=JA D WV bB D;have SE:0<=x*y:=x3 K bB;have VN:x*y<=2199023255552*4194304:=JA CB WV bB D;refine cX 51 call212 func212 rfl rfl rfl ?_;apply oO∘q4;refine aA (a7K rfl rfl D D) rfl ?_;apply(q4);refine aA (Pl rfl rfl) rfl ?_;apply(q4);refine aA (a7K rfl rfl D D) rfl ?_;apply(q4);refine aA (Pl rfl rfl) rfl ?_;apply(E9);simp only[dH,eH];apply nP∘LU∘q4∘LU∘cJ;refine aA (Pl rfl rfl) rfl ?_;apply oE∘q4;refine aA (a7K rfl rfl D D) rfl ?_;apply(q4);refine aA (Pl rfl rfl) rfl ?_;apply(p5);iterate 3 apply(cJ)
 apply XD∘oE∘q4∘LU∘cJ∘a6U;refine aA (Pl rfl rfl) rfl ?_;apply oE∘q4∘LU∘sO;have key:(x/4294967296*y+x%4294967296*y/4294967296)/4294967296+(x/4294967296*y+x%4294967296*y/4294967296)%4294967296/4294967296=0:=by omega
 refine cF L R TV ?_;exact⟨by simp[key],rfl,rfl⟩
def aYq(cN y:Int)(L:aW)(R:aP)(K:0<=cN)(CB:cN<=18446744073709551615)(bB:0<y)(WV:y<=18446744073709551615):
 aM prog 213 [.int .u64 0,.int .u64 cN,.int .u64 y].toArray L R (λv E R'=>v=.tuple #[.int .u64 (cN/y),.int .u64 (cN%y)]/\L=E/\R=R'):=by refine cX 135 call213 func213 rfl rfl rfl ?_;apply oO∘FA∘AL;refine OU b2 EB ?_;apply k5∘wF∘D0∘dD;refine OU b2 EB ?_;apply FC∘AL;refine aUR b2 eY ?_;refine cC ?_;refine jR M [0,1,2,3,4,5,6,7] _ mixed aQ iP ?_;apply j7∘j7;refine b7 aQw rfl rfl rfl ?_;apply j7∘j7;refine b7 (by first|exact aE3 rfl rfl D D|exact a7B rfl rfl D) rfl rfl rfl ?_;apply(a0D);refine jI (bY (mE (i7 ?_)));refine cF L R TV ?_;exact BJ
def x8(a b:hU)(q:Int):bG:=
 ⟨a.b5-(a.b5-b.b5)*(q-a.c8)/(b.c8-a.c8)-(if 0<(a.b5-b.b5)*(q-a.c8)%(b.c8-a.c8)then 1 else 0),a.b5-(a.b5-b.b5)*(q-a.c8)/(b.c8-a.c8)⟩
def aYv(a b:hU)(q:Int)(L:aW)(R:aP)(aG:0<=b.b5/\b.b5<=a.b5/\a.b5<=2199023255552)(aH:-1048576<=a.c8/\a.c8<=q/\q<=b.c8/\a.c8<b.c8/\b.c8<=1048576):
 aM prog 211 [a.val,b.val,.int .i64 q].toArray L R (λv E R'=>v=(x8 a b q).val/\L=E/\R=R'):=by
 have SE:0<=(a.b5-b.b5)*(q-a.c8):=x3 D D;have VN:(a.b5-b.b5)*(q-a.c8)<=2199023255552*4194304:=JA D D D D;have Si:0<=(a.b5-b.b5)*(q-a.c8)/(b.c8-a.c8):=Mz SE D;have Sj:(a.b5-b.b5)*(q-a.c8)/(b.c8-a.c8)<=a.b5-b.b5:=by refine Int.ediv_le_of_le_mul D ?_;exact Wp D D
 refine cX 57 call211 func211 rfl rfl rfl ?_;apply(fC);intro e4;apply(nW);intro dU;apply(dO);intro jN;apply iG∘nZ∘oD∘yR∘cJ∘gB∘oD∘yR;refine eD rfl (aQ6 _ _ _ _ D D D D) ?_;refine aA jE rfl ?_;apply UZ∘q4∘cJ∘nZ∘oD∘yR;refine eD rfl (aYq _ _ _ _ D D D D) ?_;refine aA jE rfl ?_;apply UZ∘p5∘h1∘yR∘oD∘h1∘yR∘oD∘CH∘dO;intro GY;apply uI∘cJ∘y8;refine aJ ?_ ?_<;>intro bI;·apply e1∘gB∘Rd∘iG∘LP;refine cF L R mM ?_;exact⟨by simp[x8,bG.val,bI],rfl,rfl⟩
 apply gI∘LP;refine cF L R mM ?_;exact⟨by simp[x8,bG.val,bI],rfl,rfl⟩
end Go.Proofs.YtdiajbdaadlfhaaGreatDoor
namespace Go.Proofs.YtdiajbdaadlfhaaGreatDoor
open Go.Aw Go Go.Proofs.Tryz
structure x4(l:List hU):Prop where
 vV:∀(i:Nat) (p:hU),l[i]?=some p->-1048576<=p.c8/\p.c8<=1048576/\0<=p.b5/\p.b5<=2199023255552
 eM:∀(i:Nat) (p r:hU),l[i]?=some p->l[i+1]?=some r->p.c8<r.c8/\r.b5<=p.b5
structure JH(f:hT):Prop where
 aS:0<=f.aS
 aA5:1<=f.hJ.l.length
 a29:f.hJ.l.length<=8
 ok:x4 f.hJ.l
def aZu{f:hT}(h:L6 f=0):JH f:=by
 unfold L6 at h;split at h;·cases h
 rename_i G;split at h;·cases h
 rename_i U;have bA:(List.range f.hJ.l.length).findSome? (GS f.hJ.l)=none:=by
  cases aH:(List.range f.hJ.l.length).findSome? (GS f.hJ.l)with
  |none=>rfl
  |some e=>
   rw[aH]at h;simp only[aCf]at h;subst h;obtain⟨i,_,aB⟩:=K3 aH;unfold GS at aB;split at aB;·cases aB
   ·
    split at aB;·cases aB
    ·
     split at aB;·cases aB
     ·
      split at aB;·cases aB
      ·split at aB<;>cases aB
 have pS:∀(i:Nat) (p:hU),f.hJ.l[i]?=some p->GS f.hJ.l i=none:=λi p aG=>by obtain⟨aB,_⟩:=List.getElem?_eq_some_iff.1 aG;exact List.findSome?_eq_none_iff.1 bA i (List.mem_range.2 aB)
 have Ez:∀(i:Nat) (p:hU),f.hJ.l[i]?=some p->-1048576<=p.c8/\p.c8<=1048576/\0<=p.b5/\p.b5<=2199023255552:=λi p aG=>by
  have:=pS i p aG;by_cases O:p.c8< -1048576\/1048576<p.c8\/p.b5<0\/2199023255552<p.b5;·rw[aGQ aG O]at this;cases this
  ·omega
 refine⟨by omega,by omega,by omega,Ez,λi p r aG O=>?_⟩;have:=pS (i+1) r O;have b:=Ez _ _ O;by_cases aT:r.c8<=p.c8\/p.b5<r.b5;·rw[aDR O D D (by simpa using aG) aT]at this;cases this
 ·omega
def BU(p:hU):List hU->Int->bG
 |[],_=>⟨p.b5,p.b5⟩
 |r::aC,q=>if q<=r.c8 then x8 p r q else BU r aC q
def r4(l:List hU)(q:Int):bG:=
 match l with
 |[]=>⟨0,0⟩
 |p::aC=>if q<=p.c8 then⟨p.b5,p.b5⟩else BU p aC q
def Ch(s:bG):bG:=⟨-s.bN,-s.bJ⟩
def tK(l:List hU)(hX:Bool)(q:Int):bG:=if hX then Ch (r4 l (-q))else r4 l q
def nB(f:hT)(s q:Int):bG:=
 if s=1 then tK f.hJ.l f.hX q else if s=2 then tK f.hJ.l (!f.hX) q
 else if s= -1 then⟨min (min 0 (tK f.hJ.l false q).bJ) (tK f.hJ.l true q).bJ,max (max 0 (tK f.hJ.l false q).bN) (tK f.hJ.l true q).bN⟩
 else⟨0,0⟩
def aFB{a b:hU}{q:Int}(aG:0<=b.b5/\b.b5<=a.b5/\a.b5<=2199023255552)(aH:-1048576<=a.c8/\a.c8<=q/\q<=b.c8/\a.c8<b.c8/\b.c8<=1048576):
 b.b5<=(x8 a b q).bJ/\(x8 a b q).bJ<=(x8 a b q).bN/\(x8 a b q).bN<=a.b5:=by
 unfold x8;have SE:0<=(a.b5-b.b5)*(q-a.c8):=x3 D D;have VN:(a.b5-b.b5)*(q-a.c8)<=(a.b5-b.b5)*(b.c8-a.c8):=Wp D D;generalize (a.b5-b.b5)*(q-a.c8)=N at*;have cE:0<b.c8-a.c8:=by omega
 generalize b.c8-a.c8=w at*;have Si:0<=N/w:=Mz SE D;have Sj:N/w<=a.b5-b.b5:=Int.ediv_le_of_le_mul cE VN;have a1F:=Int.mul_ediv_add_emod N w;have b0d:0<=N%w:=a3T _ D;dsimp only;split;·
  rename_i O;have:N/w<a.b5-b.b5:=by
   rcases HT (N/w) (a.b5-b.b5)with h|h;·exact h
   ·(have e:N/w=a.b5-b.b5:=by omega);rw[e]at a1F;rw[Int.mul_comm]at a1F;omega
  omega
 ·omega
def Ry:∀(l:List hU) (p:hU) (q:Int),x4 (p::l)->p.c8<=q->
 0<=(BU p l q).bJ/\(BU p l q).bJ<=(BU p l q).bN/\(BU p l q).bN<=p.b5
 |[],p,q,h,_=>by have:=h.vV 0 p rfl;simp only[BU];omega
 |r::aC,p,q,h,bZ=>by
  have bV:=h.vV 0 p rfl
  have G:=h.vV 1 r rfl
  have U:=h.eM 0 p r rfl rfl
  unfold BU
  split
  ·have:=aFB (a:=p) (b:=r) (q:=q) D D
   omega
  ·have:=Ry aC r q ⟨λi=>h.vV (i+1),λi=>h.eM (i+1)⟩ D
   omega
def Yw{l:List hU}(h:x4 l)(q:Int):0<=(r4 l q).bJ/\(r4 l q).bJ<=(r4 l q).bN/\(r4 l q).bN<=2199023255552:=by
 cases l with
 |nil=>simp[r4]
 |cons p aC=>
  have bV:=h.vV 0 p rfl;unfold r4;dsimp only;split;·(first|omega|(dsimp only;omega))
  ·have:=Ry aC p q h D;omega
def Yz{l:List hU}(h:x4 l)(hX:Bool)(q:Int):-2199023255552<=(tK l hX q).bJ/\(tK l hX q).bJ<=(tK l hX q).bN/\(tK l hX q).bN<=2199023255552:=by have G:=Yw h q;have U:=Yw h (-q);unfold tK Ch;exact aBT
def aJA{f:hT}(h:JH f)(s q:Int):-2199023255552<=(nB f s q).bJ/\(nB f s q).bJ<=(nB f s q).bN/\(nB f s q).bN<=2199023255552:=by
 have G:=Yz h.ok f.hX q;have U:=Yz h.ok (!f.hX) q;have aO:=Yz h.ok false q;have bW:=Yz h.ok true q;unfold nB;split;·omega
 ·
  split;·omega
  ·exact aBT
def aWb{a b:Int}(aT:0<b):(if a.tmod b<0 then a.tdiv b-1 else a.tdiv b)=a/b:=by
 have G:=Int.mul_tdiv_add_tmod a b;have U:-b<a.tmod b:=by have:=Int.lt_tmod_of_pos a aT;omega
 have aO:a.tmod b<b:=a3F a aT;split;·have:=(a38 (a:=a) (b:=b) (q:=a.tdiv b-1) (r:=a.tmod b+b) aT).2 ⟨by rw[Int.mul_sub];omega,by omega,by omega⟩;exact this.1.symm
 ·have:=(a38 (a:=a) (b:=b) (q:=a.tdiv b) (r:=a.tmod b) aT).2 ⟨by omega,by omega,by omega⟩;exact this.1.symm
def a5t{N w:Int}(cE:0<w):(-N)/w= -(N/w)-(if 0<N%w then 1 else 0):=by
 have G:=Int.mul_ediv_add_emod N w;have U:=a3T N (show w≠0 by omega);have aO:=aB4 N cE;split;·have:=(a38 (a:= -N) (b:=w) (q:= -(N/w)-1) (r:=w-N%w) cE).2 ⟨by rw[Int.mul_sub,Mt];omega,by omega,by omega⟩;exact this.1
 ·have:=(a38 (a:= -N) (b:=w) (q:= -(N/w)) (r:=0) cE).2 ⟨by rw[Mt];omega,by omega,by omega⟩;rw[this.1];omega
def aRQ{a b:hU}{q:Int}(cE:a.c8<b.c8):
 (⟨a.b5+(b.b5-a.b5)*(q-a.c8)/(b.c8-a.c8),a.b5+ -(-((b.b5-a.b5)*(q-a.c8))/(b.c8-a.c8))⟩:bG)=x8 a b q:=by
 have e:(b.b5-a.b5)*(q-a.c8)= -((a.b5-b.b5)*(q-a.c8)):=by rw[<-Gn];congr 1;omega
 rw[e,Int.neg_neg,a5t D];unfold x8;congr 1<;>omega
def a7h: ∀(l:List hU) (r sZ:hU),x4 (r::l)->(r::l)[l.length]? =some sZ->r.c8<=sZ.c8/\(l≠[]->r.c8<sZ.c8)
 |[],r,sZ,_,bA=>by simp at bA;subst bA;exact⟨oH _,λh=>absurd rfl h⟩
 |s::l,r,sZ,ok,bA=>by
  have aF:=ok.eM 0 r s rfl rfl
  have:=a7h l s sZ ⟨λi=>ok.vV (i+1),λi=>ok.eM (i+1)⟩ (by simpa using bA)
  exact⟨by omega,λ_=>by omega⟩
def aJH: ∀(l:List hU) (p sZ:hU) (q:Int),x4 (p::l)->(p::l)[l.length]? =some sZ->sZ.c8<=q->(l=[]\/p.c8<q)->BU p l q=⟨sZ.b5,sZ.b5⟩
 |[],p,sZ,q,_,bA,_,_=>by simp at bA;subst bA;rfl
 |r::aC,p,sZ,q,h,bA,bZ,_=>by
  have U:=h.eM 0 p r rfl rfl
  have KJ:(r::aC)[aC.length]?=some sZ:=by simpa using bA
  have KQ:x4 (r::aC):=⟨λi=>h.vV (i+1),λi=>h.eM (i+1)⟩
  have yI:=a7h aC r sZ KQ KJ
  unfold BU
  split
  ·rename_i aMH
   have zR:aC=[]:=by
    rcases aC with _|⟨s,aC⟩
    ·rfl
    ·have:=yI.2 eY;omega
   subst zR
   simp at KJ;subst KJ
   have WN:q=r.c8:=by omega
   subst WN
   unfold x8
   have cE:0<r.c8-p.c8:=by omega
   rw[Int.mul_ediv_cancel _ D,Int.mul_emod_left]
   simp
   omega
  ·exact aJH aC r sZ q KQ KJ bZ (.inr D)
def aWt{l:List hU}(h:x4 l)(G:1<=l.length){sZ:hU}(bA:l[l.length-1]?=some sZ)(q:Int)(bZ:sZ.c8<=q):r4 l q=⟨sZ.b5,sZ.b5⟩:=by
 cases l with
 |nil=>simp at G
 |cons p aC=>
  have KJ:(p::aC)[aC.length]?=some sZ:=by simpa using bA
  unfold r4;dsimp only;split;·
   rename_i aG;have zR:aC=[]:=by
    rcases aC with _|⟨s,aC⟩;·rfl
    ·exfalso;have U:=h.eM 0 p s rfl rfl;have:=a7h aC s sZ ⟨λi=>h.vV (i+1),λi=>h.eM (i+1)⟩ (by simpa using KJ);omega
   subst zR;simp at KJ;subst KJ;rfl
  ·exact aJH aC p sZ q h KJ bZ (.inr D)
def aIn: ∀(l:List hU) (rC:hU) (k:Nat) (p r:hU) (q:Int),x4 (rC::l)->(rC::l)[k]? =some p->(rC::l)[k+1]? =some r->p.c8<=q->q<r.c8->rC.c8<q->BU rC l q=x8 p r q
 |[],rC,k,p,r,q,_,_,O,_,_,_=>by simp at O
 |s::aC,rC,0,p,r,q,h,aG,O,G,U,aO=>by
  simp at aG O;subst aG;subst O
  unfold BU
  rw[if_pos D]
 |s::aC,rC,k+1,p,r,q,h,aG,O,G,U,aO=>by
  have KQ:x4 (s::aC):=⟨λi=>h.vV (i+1),λi=>h.eM (i+1)⟩
  have bW:=h.eM 0 rC s rfl rfl
  have Um:(s::aC)[k]?=some p:=by simpa using aG
  have xV:(s::aC)[k+1]?=some r:=by simpa using O
  have Lh:=KQ.eM k p r Um xV
  unfold BU
  split
  ·rename_i aMI
   -- then the point at k is this one, and the flow is its own
   have mono:∀(j:Nat) (x y:hU),(s::aC)[0]?=some x->(s::aC)[j]?=some y->x.c8+j<=y.c8:=by
    intro j
    induction j with
    |zero=>intro x y K bB;rw[K]at bB;cases bB;omega
    |succ j cA=>
     intro x y K bB
     obtain⟨a6,_⟩:=List.getElem?_eq_some_iff.1 bB
     obtain⟨z,dI⟩:=lQ (l:=s::aC) (k:=j) D
     have:=cA x z K dI
     have:=KQ.eM j z y dI bB
     omega
   have a1:=mono k s p rfl Um
   have Y:k=0:=by omega
   subst Y
   simp at Um;subst Um
   have WN:q=s.c8:=by omega
   subst WN
   have Lg:=KQ.vV 0 s rfl
   unfold x8
   have cE:0<s.c8-rC.c8:=by omega
   rw[Int.mul_ediv_cancel _ D,Int.mul_emod_left,Int.sub_self,a39,Int.zero_ediv,Int.zero_emod]
   simp
   omega
  ·exact aIn aC s k p r q KQ Um xV G U D
def aUo{l:List hU}(h:x4 l){k:Nat}{p r:hU}{q:Int}(aG:l[k]?=some p)(O:l[k+1]?=some r)(G:p.c8<=q)(U:q<r.c8):r4 l q=x8 p r q:=by
 cases l with
 |nil=>simp at aG
 |cons rC aC=>
  unfold r4;dsimp only;split;·
   rename_i bZ;have mono:∀(j:Nat) (y:hU),(rC::aC)[j]?=some y->rC.c8+j<=y.c8:=by
    intro j;induction j with
    |zero=>intro y bB;simp at bB;subst bB;omega
    |succ j cA=>intro y bB;obtain⟨a6,_⟩:=List.getElem?_eq_some_iff.1 bB;obtain⟨z,dI⟩:=lQ (l:=rC::aC) (k:=j) D;have:=cA z dI;have:=h.eM j z y dI bB;omega
   have a1:=mono k p aG;(have Y:k=0:=by omega);subst Y;simp at aG;subst aG;(have WN:q=rC.c8:=by omega);subst WN;unfold x8;rw[Int.sub_self,a39,Int.zero_ediv,Int.zero_emod];simp
  ·exact aIn aC rC k p r q h aG O G U D
end Go.Proofs.YtdiajbdaadlfhaaGreatDoor
namespace Go.Proofs.YtdiajbdaadlfhaaGreatDoor
open Go.Aw Go Go.Proofs.Tryz
set_option maxRecDepth 20000
attribute [local irreducible] cO dG dP aM cI dR fA e2 e5 fB eQ e9
def aGW(f:hT)(q:Int)(L:aW)(R:aP)(a1:aN f.eJ R)(aH:JH f)(bZ:-1048577<=q/\q<=1048577):
 aM prog 207 [f.val,.int .i64 q].toArray L R (λv E R'=>v=(r4 f.hJ.l q).val/\L=E/\R=R'):=by
 have WB:=aH.aA5;have b24:=aH.a29;obtain⟨rC,i1⟩:=lQ (l:=f.hJ.l) (k:=0) D;obtain⟨sZ,l2⟩:=lQ (l:=f.hJ.l) (k:=f.hJ.l.length-1) D;refine cX 62 call207 func207 rfl rfl rfl ?_;apply(fC);intro eN;apply(dO);intro dU;apply(j6);refine jR M [0,1,2,3,4,5,6,7,8,9,10,11,12,13,14,15] _ mixed aQ iP ?_;apply nQ∘aBx∘XH∘nQ∘nQ;refine b7 CP rfl rfl rfl ?_;apply(A7);refine b7 aCx rfl rfl rfl ?_;apply XH∘uZ;intro fK;apply(uZ);intro jN;apply uY∘uY∘XB∘cJ∘gB∘D0∘dD;refine aJ ?_ ?_<;>intro bI;·apply eV∘nZ∘CH∘RV;obtain⟨aC,zS⟩:∃aC,f.hJ.l=rC::aC:=⟨_,by have:=OT i1;simpa using this⟩;refine cF L R mM ?_;exact⟨by rw[zS];simp only[r4,if_pos bI],rfl,rfl⟩
 apply k5∘pR;refine e3 [(1,.int _ _),(2,.pointer _),(4,.pointer _),(6,.pointer _),(7,.int _ _)] cB λg9=>?_;refine lF ([7]++dJ 29 28) (λg:{k:Nat//1<=k/\k<=f.hJ.l.length/\∃p,f.hJ.l[k-1]?=some p/\p.c8<q/\r4 f.hJ.l q=BU p (f.hJ.l.drop k) q}=>[(7,.int .i64 ((g.1:Nat):Int))]) (λg=>f.hJ.l.length-g.1) (⟨1,by omega,by omega,rC,i1,by omega,by have h:=OT i1;simp only[Na,K7]at h;rw[h];simp only[r4,if_neg bI,List.drop_one,List.tail_cons]⟩) ?_;rintro⟨k,g6,j4,p,aG,aMA,aF⟩ c1;try dsimp only
 apply nR∘jM∘nD;refine aJ ?_ ?_<;>intro cK;·
  obtain⟨r,O⟩:=lQ (l:=f.hJ.l) (k:=k) D;have mQ:=aH.ok.vV _ _ aG;have DO:=aH.ok.vV _ _ O;have aLC:=aH.ok.eM (k-1) p r aG (by rw[show k-1+1=k by omega];exact O);rw[OT O]at aF;simp only[BU]at aF;apply nC∘h1∘A6∘tG∘D0∘dD;refine aJ ?_ ?_<;>intro dE;·refine cC ?_;refine jV M [] [0,1,2,3,4,5,6,7,8,9,10,11,12] [13] (_) _ mixed aQ bC Gx ?_;apply BR∘Aq;refine fE aQR rfl rfl rfl rfl ?_;apply aBt∘BR∘aBr∘aBt∘DY;refine mW rfl (aYv p r q _ _ D D) rfl rfl ?_;rintro v E R' ⟨rfl,rfl,rfl⟩;refine⟨bC,hC,?_⟩;apply(FB);refine jI (bY (mE (lO (i7 (E1 (lO (i7 ?_)))))));refine cF L R mM ?_;exact⟨by rw[aF,if_pos dE],rfl,rfl⟩
  apply(Cs);exact eG (⟨k+1,by omega,by omega,r,by simpa using O,by omega,by rw[aF,if_neg dE]⟩)
 obtain rfl:k=f.hJ.l.length:=by omega
 obtain rfl:p=sZ:=by rw[aG]at l2;exact uA l2
 rw[Wf (gS _)]at aF;apply oS∘nZ∘CH∘y5;refine cF L R mM ?_;exact⟨by rw[aF];rfl,rfl,rfl⟩
def Zy(f:hT)(hX:Bool)(q:Int)(L:aW)(R:aP)(a1:aN f.eJ R)(aH:JH f)(bZ:-1048577<=q/\q<=1048577):
 aM prog 192 [f.val,.bool hX,.int .i64 q].toArray L R (λv E R'=>v=(tK f.hJ.l hX q).val/\L=E/\R=R'):=by
 have mQ:=Yw aH.ok (-q);refine cX 24 call192 func192 rfl rfl rfl ?_;apply(fC);intro e4;apply(dO);intro jN;apply mY∘J5;refine aJ ?_ ?_<;>intro bI;·apply eV∘vX∘cJ;refine eD rfl (aGW f q _ _ a1 aH bZ) ?_;apply(RV);refine cF L R mM ?_;exact⟨by simp[tK,bI],rfl,rfl⟩
 apply gI∘vX∘cJ∘CJ;refine eD rfl (aGW f (-q) _ _ a1 aH D) ?_;apply(dO);intro lT;apply BP∘CJ∘gB∘CJ∘CH∘y5;refine cF L R mM ?_;exact⟨by simp[tK,bI,Ch],rfl,rfl⟩
def aSX(f:hT)(s q:Int)(L:aW)(R:aP)(a1:aN f.eJ R)(aH:JH f)(bZ:-1048577<=q/\q<=1048577):
 aM prog 155 [f.val,.int .i64 s,.int .i64 q].toArray L R (λv E R'=>v=(nB f s q).val/\L=E/\R=R'):=by
 refine cX 45 call155 func155 rfl rfl rfl ?_;apply(fC);intro e4;apply(dO);intro jN;apply(U2);refine eS (bY (iH (cC (dM ?_))));apply(q3);refine aJ ?_ ?_<;>intro bI;·apply eV∘vX∘h1;refine eD rfl (Zy f f.hX q _ _ a1 aH bZ) ?_;apply l5∘D4;refine cF L R mM ?_;exact⟨by rw[nB,if_pos bI],rfl,rfl⟩
 apply(sQ);refine aJ ?_ ?_<;>intro cK;·apply eV∘vX∘gB∘NB∘cJ;refine eD rfl (Zy f (!f.hX) q _ _ a1 aH bZ) ?_;apply l5∘D4;refine cF L R mM ?_;exact⟨by rw[nB,if_neg bI,if_pos cK],rfl,rfl⟩
 apply(sQ);refine aJ ?_ ?_<;>intro dE;·refine cC ?_;refine jR M [0,1,3,4,2,5,6,7,8,9] _ mixed aQ iP ?_;apply An∘j7∘An∘j7;refine xZ rfl (Zy f false q _ _ a1 aH bZ) ?_;refine xZ rfl (Zy f true q _ _ a1 aH bZ) ?_;apply(uZ);intro lT;apply(uZ);intro mF;apply uY∘uY;refine jI (bY (cC (dM ?_)));apply(nZ);refine aA (aGv rfl rfl rfl) rfl ?_;apply(nZ);refine aA (aEx rfl rfl rfl) rfl ?_;apply CH∘l5∘D4;refine cF L R mM ?_;exact⟨by rw[nB,if_neg bI,if_neg cK,if_pos dE],rfl,rfl⟩
 refine gG (hG (bY (cC (dM ?_))));apply a3r∘y5;refine cF L R mM ?_;exact⟨by rw[nB,if_neg bI,if_neg cK,if_neg dE],rfl,rfl⟩
def aHE(a b:Int)(L:aW)(R:aP)(bX:-9223372036854775807<=a/\a<=9223372036854775807)(aT:0<b/\b<=9223372036854775807):
 aM prog 178 [.int .i64 a,.int .i64 b].toArray L R (λv E R'=>v=.int .i64 (a/b)/\L=E/\R=R'):=by
 have iF:=aWb (a:=a) aT.1;have bU:-9223372036854775807<=a/b/\a/b<=9223372036854775807:=by
  rcases HT a 0 with h|h;·have G:a/b<=0:=aPw D aT.1;(have U:a<=a/b:=by refine Int.le_ediv_of_mul_le aT.1 ?_;have:=Int.mul_le_mul_of_nonpos_left (a:=a) (b:=b) (c:=1) D D;omega);omega
  ·have G:=Mz h (show 0<=b by omega);have U:=Wm b h;omega
 have a7:-9223372036854775807<=a.tdiv b/\a.tdiv b<=9223372036854775807:=by
  split at iF;·
   constructor;·omega
   ·
    have G:=Int.mul_tdiv_add_tmod a b;rename_i h;have:a<0:=by
     rcases HT a 0 with cD|cD;·exact cD
     ·have:=a3U b cD;omega
    have aO:a/b<=0:=aPw D aT.1;omega
  ·omega
 refine cX 16 call178 func178 rfl rfl rfl ?_;apply oO∘iG∘wF∘Gd∘kB∘wF∘Gc∘nD;refine aJ ?_ ?_<;>intro bI;·rw[if_pos bI]at iF;apply nP∘oD∘q4∘sO;refine eL L R ?_;exact⟨by rw[iF],rfl,rfl⟩
 rw[if_neg bI]at iF;apply gI∘aI1;refine eL L R ?_;exact⟨by rw[iF],rfl,rfl⟩
def aY8(a b:Int)(L:aW)(R:aP)(bX:-9223372036854775807<=a/\a<=9223372036854775807)(aT:0<b/\b<=9223372036854775807)(bZ:-9223372036854775807<=(-a)/b/\(-a)/b<=9223372036854775807):
 aM prog 179 [.int .i64 a,.int .i64 b].toArray L R (λv E R'=>v=.int .i64 (-((-a)/b))/\L=E/\R=R'):=by refine cX 10 call179 func179 rfl rfl rfl ?_;apply oO∘iG∘cJ∘CJ∘cJ;refine eD rfl (aHE (-a) b _ _ D aT) ?_;apply CJ∘sO;refine eL L R ?_;exact BJ
def aHB(f:hT)(q:Int)(L:aW)(R:aP)(a1:aN f.eJ R)(aH:JH f)(bZ:-1048577<=q/\q<=1048577):
 aM prog 142 [f.val,.int .i64 q].toArray L R (λv E R'=>v=(r4 f.hJ.l q).val/\L=E/\R=R'):=by
 have WB:=aH.aA5;have b24:=aH.a29;obtain⟨rC,i1⟩:=lQ (l:=f.hJ.l) (k:=0) D;obtain⟨sZ,l2⟩:=lQ (l:=f.hJ.l) (k:=f.hJ.l.length-1) D;have jO:=aWt aH.ok D l2;have a2b:q<=rC.c8->r4 f.hJ.l q=⟨rC.b5,rC.b5⟩:=λh=>by have cD:=OT i1;simp only[Na,K7]at cD;rw[cD];simp only[r4,if_pos h]
 refine cX 106 call142 func142 rfl rfl rfl ?_;apply(fC);intro eN;apply(dO);intro dU;apply iG∘jM∘FA∘gB∘Vr∘tG∘D0∘dD;refine aJ ?_ ?_<;>intro bI;·refine cC ?_;refine jV M [] [0,1,2,3,4,5,6,7,8,9,10] [11] (_) _ mixed aQ bC Gx ?_;apply lS∘aBu∘F2∘D3∘lS∘aBu∘F2∘D3∘XG∘FB;refine jI (bY (mE (i7 ?_)));refine cF L R mM ?_;exact⟨by rw[a2b bI],rfl,rfl⟩
 apply FC∘Cr;refine aA aCx rfl ?_;apply tG∘IF;refine aJ ?_ ?_<;>intro cK;·refine cC ?_;refine jV M [] [0,1,2,3,4,5,6,7,8,9,10,11,12,13,14] [15] (_) _ mixed aQ bC Gx ?_;apply BR∘Aq∘aN9∘F2∘D3∘BR∘Aq∘aN9∘F2∘D3∘XG∘FB;refine jI (bY (mE (i7 ?_)));refine cF L R mM ?_;exact⟨by rw[jO q cK],rfl,rfl⟩
 apply gI∘eA;refine eS (bY (cC (iH ?_)));refine e3 [(1,.int _ _),(2,.pointer _),(4,.pointer _),(6,.int _ _)] cB λg9=>?_;refine lF ([6]++dJ 56 11) (λg:{k:Nat//k+1<f.hJ.l.length/\∃p,f.hJ.l[k]?=some p/\p.c8<=q}=>[(6,.int .i64 ((g.1:Nat):Int))]) (λg=>f.hJ.l.length-g.1) (⟨0,by rcases gX 1 f.hJ.l.length with h|h;exact h;exfalso;rw[show f.hJ.l.length-1=0 by omega,i1]at l2;cases l2;omega,rC,i1,by omega⟩) ?_;rintro⟨k,Y,p,aG,aMA⟩ c1;try dsimp only
 refine cC (cC ?_);obtain⟨r,O⟩:=lQ (l:=f.hJ.l) (k:=k+1) D;apply e1∘h1∘oE;refine aA aQS rfl ?_;apply tG∘cJ∘D0∘dD;refine aJ ?_ ?_<;>intro dE;·refine gG (bY (iH (dM ?_)));apply Y4∘eA;refine eS (hG ?_);exact eG (⟨k+1,by rcases gX (k+1+1) f.hJ.l.length with h|h;exact h;exfalso;rw[show f.hJ.l.length-1=k+1 by omega,O]at l2;cases l2;omega,r,O,by omega⟩)
 have mQ:=aH.ok.vV _ _ aG;have DO:=aH.ok.vV _ _ O;have aLC:=aH.ok.eM k p r aG O;have Eh:=aUo aH.ok aG O aMA D;have SE:0<=(p.b5-r.b5)*(q-p.c8):=x3 D D;have VN:(p.b5-r.b5)*(q-p.c8)<=2199023255552*2097153:=JA D D D D;have aKG:(r.b5-p.b5)*(q-p.c8)= -((p.b5-r.b5)*(q-p.c8)):=by rw[<-Gn];congr 1;omega
 have Si:0<=(p.b5-r.b5)*(q-p.c8)/(r.c8-p.c8):=Mz SE D;have Sj:(p.b5-r.b5)*(q-p.c8)/(r.c8-p.c8)<=(p.b5-r.b5)*(q-p.c8):=Wm _ SE;have a1F:=a5t (N:=(p.b5-r.b5)*(q-p.c8)) (w:=r.c8-p.c8) D;have b8j:-((p.b5-r.b5)*(q-p.c8))-1<= -((p.b5-r.b5)*(q-p.c8))/(r.c8-p.c8)/\-((p.b5-r.b5)*(q-p.c8))/(r.c8-p.c8)<=0:=by split at a1F<;>omega
 have b0d:-((r.b5-p.b5)*(q-p.c8))/(r.c8-p.c8)=(p.b5-r.b5)*(q-p.c8)/(r.c8-p.c8):=by rw[aKG,Int.neg_neg]
 have b8i:(r.b5-p.b5)*(q-p.c8)/(r.c8-p.c8)= -((p.b5-r.b5)*(q-p.c8))/(r.c8-p.c8):=by rw[aKG]
 apply(ND);refine jR M [0,1,2,3,4,5,6,7,8,9,10,11,12,13,14] _ mixed aQ iP ?_;apply uH∘XI∘XH∘uH∘P1∘aOc∘XH∘uZ;intro lT;apply(uZ);intro mF;apply uY∘uY∘KU;refine jR M [0,1,2,3,4,5,6,7,8,9,10,11,12,13,14,15,16] _ mixed aQ iP ?_;apply nQ∘nQ∘A7∘j7∘nQ∘A7∘a3t∘nQ∘nQ∘A7∘a0D∘KU;refine jV M [] [0,1,2,3,6,7,8,9,4,5,10,11,12] [13] (_) _ mixed aQ bC Gx ?_;apply BR∘DY∘BR∘DY;refine mW rfl (aHE _ _ _ _ D D) rfl rfl ?_;rintro v E R' ⟨rfl,rfl,rfl⟩;refine⟨bC,hC,?_⟩;apply(NE);refine mW rfl (aY8 _ _ _ _ D D D) rfl rfl ?_;rintro v E R' ⟨rfl,rfl,rfl⟩;refine⟨bC,hC,?_⟩;apply NE∘XG∘FB;refine jI (bY (mE ?_));refine cF L R mM ?_;exact⟨by rw[Eh,<-aRQ D],rfl,rfl⟩
def a0X(f:hT)(hX:Bool)(q:Int)(L:aW)(R:aP)(a1:aN f.eJ R)(aH:JH f)(bZ:-1048577<=q/\q<=1048577):
 aM prog 96 [f.val,.bool hX,.int .i64 q].toArray L R (λv E R'=>v=(tK f.hJ.l hX q).val/\L=E/\R=R'):=by
 have mQ:=Yw aH.ok (-q);refine cX 23 call96 func96 rfl rfl rfl ?_;apply(fC);intro e4;apply(dO);intro jN;apply mY∘fD∘dD;refine aJ ?_ ?_<;>intro bI;·apply eV∘vX∘cJ∘CJ;refine eD rfl (aHB f (-q) _ _ a1 aH D) ?_;apply(dO);intro lT;apply BP∘CJ∘gB∘CJ∘CH∘RV;refine cF L R mM ?_;exact⟨by simp[tK,bI,Ch],rfl,rfl⟩
 apply gI∘vX∘cJ;refine eD rfl (aHB f q _ _ a1 aH bZ) ?_;apply(y5);refine cF L R mM ?_;exact⟨by simp[tK,bI],rfl,rfl⟩
def aYK(f:hT)(s q:Int)(L:aW)(R:aP)(a1:aN f.eJ R)(aH:JH f)(bZ:-1048577<=q/\q<=1048577)(aF:-1<=s/\s<=2):
 aM prog 54 [f.val,.int .i64 s,.int .i64 q].toArray L R (λv E R'=>v=(nB f s q).val/\L=E/\R=R'):=by
 refine cX 45 call54 func54 rfl rfl rfl ?_;apply(fC);intro e4;apply(dO);intro jN;apply(U2);refine eS (bY (iH (cC (dM ?_))));apply(q3);refine aJ ?_ ?_<;>intro bI;·apply RS∘l5∘D4;refine cF L R mM ?_;exact⟨by rw[nB,if_neg D,if_neg D,if_neg D],rfl,rfl⟩
 apply(sQ);refine aJ ?_ ?_<;>intro cK;·apply eV∘vX∘h1;refine eD rfl (a0X f f.hX q _ _ a1 aH bZ) ?_;apply l5∘D4;refine cF L R mM ?_;exact⟨by rw[nB,if_pos cK],rfl,rfl⟩
 apply(sQ);refine aJ ?_ ?_<;>intro dE;·apply eV∘vX∘gB∘NB∘cJ;refine eD rfl (a0X f (!f.hX) q _ _ a1 aH bZ) ?_;apply l5∘D4;refine cF L R mM ?_;exact⟨by rw[nB,if_neg cK,if_pos dE],rfl,rfl⟩
 refine gG (hG (bY (cC ?_)));refine jR M [0,1,3,4,2,5,6,7,8,9] _ mixed aQ iP ?_;apply An∘j7∘An∘j7;refine xZ rfl (a0X f false q _ _ a1 aH bZ) ?_;refine xZ rfl (a0X f true q _ _ a1 aH bZ) ?_;apply(uZ);intro lT;apply(uZ);intro mF;apply uY∘uY;refine jI (bY (cC (dM ?_)));apply(nZ);refine aA (aGv rfl rfl rfl) rfl ?_;apply(nZ);refine aA (aEx rfl rfl rfl) rfl ?_;apply CH∘y5;refine cF L R mM ?_;exact⟨by rw[nB,if_neg cK,if_neg dE,if_pos D,Int.min_comm 0,Int.max_comm 0];simp only[Int.min_assoc,Int.max_assoc,Int.min_comm 0,Int.max_comm 0],rfl,rfl⟩
structure Hh(p:k7):Prop where
 aC:0<=p.aS.aC.bJ/\p.aS.aC.bJ<=p.aS.aC.bN/\p.aS.aC.bN<=4456448
 fQ:-2199023255552<=p.aS.fQ.bJ/\p.aS.fQ.bJ<=p.aS.fQ.bN/\p.aS.fQ.bN<=2199023255552
 len:p.bD.l.length<=8
 nF:∀(i:Nat) (b:AH),p.bD.l[i]?=some b->JH b.nF
def EM(p:k7)(q:Int):Nat->bG
 |0=>if q<0 then⟨-p.aS.aC.bN*(q*q)-p.aS.fQ.bN,-p.aS.aC.bJ*(q*q)-p.aS.fQ.bJ⟩else⟨p.aS.aC.bJ*(q*q)-p.aS.fQ.bN,p.aS.aC.bN*(q*q)-p.aS.fQ.bJ⟩
 |k+1=>⟨(EM p q k).bJ-(nB (p.bD.l.getD k default).nF (p.bD.l.getD k default).state q).bN,(EM p q k).bN-(nB (p.bD.l.getD k default).nF (p.bD.l.getD k default).state q).bJ⟩
def GD(p:k7)(q:Int):bG:=EM p q p.bD.l.length
def aHV{q:Int}(bZ:-1048577<=q/\q<=1048577):0<=q*q/\q*q<=1099513724929:=by
 rcases HT q 0 with h|h;·have G:=x3 Xa Xa;have U:=JA (show -q<=1048577 by omega) (show -q<=1048577 by omega) D D;rw[Int.neg_mul_neg]at G U;omega
 ·have G:=x3 h h;have U:=JA bZ.2 bZ.2 h D;omega
def a0P{r s:Int}(O:0<=r/\r<=4456448)(aF:0<=s/\s<=1099513724929):0<=r*s/\r*s<=4899925740432392192/\-r*s= -(r*s):=by have G:=x3 O.1 aF.1;have U:=JA O.2 aF.2 aF.1 D;exact⟨G,by omega,Gn r s⟩
def aII{p:k7}{q:Int}(h:q<0):EM p q 0=⟨-p.aS.aC.bN*(q*q)-p.aS.fQ.bN,-p.aS.aC.bJ*(q*q)-p.aS.fQ.bJ⟩:=if_pos h
def aIB{p:k7}{q:Int}(h:¬q<0):EM p q 0=⟨p.aS.aC.bJ*(q*q)-p.aS.fQ.bN,p.aS.aC.bN*(q*q)-p.aS.fQ.bJ⟩:=if_neg h
def aI7{p:k7}(h:Hh p){q:Int}(bZ:-1048577<=q/\q<=1048577):∀(k:Nat),k<=p.bD.l.length->
 -4899925740432392192-2199023255552*(k+1)<=(EM p q k).bJ/\(EM p q k).bJ<=(EM p q k).bN/\(EM p q k).bN<=4899925740432392192+2199023255552*(k+1)
 |0,_=>by
  have aF:=aHV bZ
  have O:=h.aC
  have aZ:=h.fQ
  have G:=a0P (r:=p.aS.aC.bJ) D aF
  have U:=a0P (r:=p.aS.aC.bN) D aF
  have aO:p.aS.aC.bJ*(q*q)<=p.aS.aC.bN*(q*q):=a3K O.2.1 aF.1
  unfold EM
  split<;>dsimp only<;>omega
 |k+1,Y=>by
  have cA:=aI7 h bZ k D
  have aT:=aJA (h.nF k _ Bj) (p.bD.l.getD k default).state q
  simp only[EM]
  omega
def aHg(p:k7)(q:Int)(L:aW)(R:aP)(a1:aN p.eJ R)(aG:Hh p)(bZ:-1048577<=q/\q<=1048577):
 aM prog 108 [p.val,.int .i64 q].toArray L R (λv E R'=>v=(GD p q).val/\L=E/\R=R'):=by
 have aF:=aHV bZ;have O:=aG.aC;have aZ:=aG.fQ;have lL:=aG.len;have G:=a0P (r:=p.aS.aC.bJ) D aF;have U:=a0P (r:=p.aS.aC.bN) D aF;refine cX 86 call108 func108 rfl rfl rfl ?_;apply(fC);intro eN;apply(dO);intro dU;apply iG∘wF∘XD∘p5;iterate 3 apply(gF)
 apply kZ∘LU;iterate 3 apply(gF)
 apply kZ∘LU∘CH∘dO;intro jN;apply uI∘cJ∘nD;refine aJ ?_ ?_<;>intro bI;·
  apply(e1);iterate 3 apply(gF)
  apply kZ∘CJ∘LU;iterate 3 apply(gF)
  apply kZ∘CJ∘LU∘CH∘BP;exact aOR
 apply gI∘gB;exact aOR
def ZD{x:Int}(h:0<=x):x.tdiv 2=x/2:=XP h
def E5(f:Int->Int)(fX cN aB:Int):Int:=
 if h:cN<aB then(if f (cN+(aB-cN+1).tdiv 2)<=fX then E5 f fX (cN+(aB-cN+1).tdiv 2) aB else E5 f fX cN (cN+(aB-cN+1).tdiv 2-1))else cN
termination_by (aB-cN).toNat
decreasing_by all_goals (have:=ZD (x:=aB-cN+1) D;omega)
def EQ(f:Int->Int)(fX cN aB:Int):Int:=
 if h:cN<aB then(if fX<=f (cN+(aB-cN).tdiv 2)then EQ f fX cN (cN+(aB-cN).tdiv 2)else EQ f fX (cN+(aB-cN).tdiv 2+1) aB)else cN
termination_by (aB-cN).toNat
decreasing_by all_goals (have:=ZD (x:=aB-cN) D;omega)
def aDj{f:Int->Int}{fX cN aB:Int}(h:cN<aB)(aH:f (cN+(aB-cN+1).tdiv 2)<=fX):E5 f fX cN aB=E5 f fX (cN+(aB-cN+1).tdiv 2) aB:=by rw[E5,dif_pos h,if_pos aH]
def aJ0{f:Int->Int}{fX cN aB:Int}(h:cN<aB)(aH:¬f (cN+(aB-cN+1).tdiv 2)<=fX):E5 f fX cN aB=E5 f fX cN (cN+(aB-cN+1).tdiv 2-1):=by rw[E5,dif_pos h,if_neg aH]
def aEp{f:Int->Int}{fX cN aB:Int}(h:¬cN<aB):E5 f fX cN aB=cN:=by rw[E5,dif_neg h]
def aD2{f:Int->Int}{fX cN aB:Int}(h:cN<aB)(aH:fX<=f (cN+(aB-cN).tdiv 2)):EQ f fX cN aB=EQ f fX cN (cN+(aB-cN).tdiv 2):=by rw[EQ,dif_pos h,if_pos aH]
def aF0{f:Int->Int}{fX cN aB:Int}(h:cN<aB)(aH:¬fX<=f (cN+(aB-cN).tdiv 2)):EQ f fX cN aB=EQ f fX (cN+(aB-cN).tdiv 2+1) aB:=by rw[EQ,dif_pos h,if_neg aH]
def aF4{f:Int->Int}{fX cN aB:Int}(h:¬cN<aB):EQ f fX cN aB=cN:=by rw[EQ,dif_neg h]
def u9(f:Int->bG)(fX:Int):Int:=E5 (λq=>(f q).bN) fX (-1048577) 1048576
def u6(f:Int->bG)(fX:Int):Int:=EQ (λq=>(f q).bJ) fX (-1048576) 1048577
def aGr(p:k7)(fX:Int)(L:aW)(R:aP)(a1:aN p.eJ R)(aG:Hh p):
 aM prog 70 [p.val,.int .i64 fX].toArray L R (λv E R'=>v=.int .i64 (u9 (GD p) fX)/\L=E/\R=R'):=by
 refine cX 28 call70 func70 rfl rfl rfl ?_;apply(fC);intro eN;apply p5∘LQ;refine eS (bY (cC (iH ?_)));refine e3 [(1,.int _ _),(2,.pointer _),(5,.int _ _),(6,.int _ _)] cB λg9=>?_;refine lF (dJ 5 22) (λg:{g:Int×Int// -1048577<=g.1/\g.1<=g.2/\g.2<=1048576/\u9 (GD p) fX=E5 (λq=>(GD p q).bN) fX g.1 g.2}=>[(5,.int .i64 g.1.1),(6,.int .i64 g.1.2)]) (λg=>(g.1.2-g.1.1).toNat) (⟨(-1048577,1048576),by omega,by omega,by omega,rfl⟩) ?_;rintro⟨⟨cN,aB⟩,G,U,aO,bW⟩ c1;try dsimp only
 apply nR∘cJ∘nD;refine aJ ?_ ?_<;>intro bI;·
  dsimp only at G U aO bW bI;have V:=ZD (x:=aB-cN+1) D;refine gG (bY (iH (cC (dM ?_))));iterate 3 apply(cJ)
  apply oD∘oE∘Gd∘oE∘p5∘Lz∘cJ;refine eD rfl (aHg p (cN+(aB-cN+1).tdiv 2) _ _ a1 aG D) ?_;apply aN7∘cJ∘D0∘dD;refine aJ ?_ ?_<;>intro cK;·have e:=bW.trans (aDj bI cK);exact(nP) a4r
  have e:=bW.trans (aJ0 bI cK);exact(nP∘oD) a4r
 dsimp only at G U aO bW bI;apply(Ct);refine eL L R ?_;exact⟨by rw[bW,aEp bI],rfl,rfl⟩
def aKf(p:k7)(fX:Int)(L:aW)(R:aP)(a1:aN p.eJ R)(aG:Hh p):
 aM prog 71 [p.val,.int .i64 fX].toArray L R (λv E R'=>v=.int .i64 (u6 (GD p) fX)/\L=E/\R=R'):=by
 refine cX 27 call71 func71 rfl rfl rfl ?_;apply(fC);intro eN;apply p5∘LQ;refine eS (bY (cC (iH ?_)));refine e3 [(1,.int _ _),(2,.pointer _),(5,.int _ _),(6,.int _ _)] cB λg9=>?_;refine lF (dJ 5 21) (λg:{g:Int×Int// -1048576<=g.1/\g.1<=g.2/\g.2<=1048577/\u6 (GD p) fX=EQ (λq=>(GD p q).bJ) fX g.1 g.2}=>[(5,.int .i64 g.1.1),(6,.int .i64 g.1.2)]) (λg=>(g.1.2-g.1.1).toNat) (⟨(-1048576,1048577),by omega,by omega,by omega,rfl⟩) ?_;rintro⟨⟨cN,aB⟩,G,U,aO,bW⟩ c1;try dsimp only
 apply nR∘cJ∘nD;refine aJ ?_ ?_<;>intro bI;·
  dsimp only at G U aO bW bI;have V:=ZD (x:=aB-cN) D;refine gG (bY (iH (cC (dM ?_))));iterate 3 apply(cJ)
  apply oD∘Gd∘oE∘p5∘Lz∘cJ;refine eD rfl (aHg p (cN+(aB-cN).tdiv 2) _ _ a1 aG D) ?_;apply aN7∘cJ∘IF;refine aJ ?_ ?_<;>intro cK;·have e:=bW.trans (aD2 bI cK);exact(nP) a4r
  have e:=bW.trans (aF0 bI cK);exact(nP∘oE) a4r
 dsimp only at G U aO bW bI;apply(Ct);refine eL L R ?_;exact⟨by rw[bW,aF4 bI],rfl,rfl⟩
end Go.Proofs.YtdiajbdaadlfhaaGreatDoor
namespace Go.Proofs.YtdiajbdaadlfhaaGreatDoor
open Go.Aw Go Go.Proofs.Tryz
def YY{aY:Type}{f:aY->Option Int}{l:List aY}(aH:∀x e,f x=some e->e≠0)(h:(l.findSome? f).getD 0=0):∀x∈l,f x=none:=by
 have bA:l.findSome? f=none:=by
  cases aF:l.findSome? f with
  |none=>rfl
  |some e=>rw[aF]at h;obtain⟨x,_,K⟩:=K3 aF;exact absurd h (aH x e K)
 exact List.findSome?_eq_none_iff.1 bA
structure Zk(n:Nat)(r:cR):Prop where
 bK:0<=r.bK/\r.bK<n
 to:0<=r.to/\r.to<n
 ne:r.bK≠r.to
 aC:1<=r.aC.bJ/\r.aC.bJ<=r.aC.bN/\r.aC.bN<=262144
 fQ:-2199023255552<=r.fQ.bJ/\r.fQ.bJ<=r.fQ.bN/\r.fQ.bN<=2199023255552
def a0p{s:bG}{cN aB:Int}:RD s cN aB=true↔cN<=s.bJ/\s.bJ<=s.bN/\s.bN<=aB:=by simp[RD]
structure UI(m:eC):Prop where
 places:m.places.l.length<=64
 Z:m.Z.l.length<=128
 aS:∀(i:Nat) (r:cR),m.Z.l[i]?=some r->Zk m.places.l.length r
def R8{m:eC}(h:iB m=0):UI m:=by
 unfold iB at h;split at h;·cases h
 rename_i sU;split at h;·rename_i e V;subst h;obtain⟨x,_,K⟩:=K3 V;unfold C3 at K;split at K<;>cases K
 have pS:=YY (f:=q1 m.places.l.length) (λx e K V=>by
  subst V;unfold q1 at K;split at K;·cases K
  ·split at K<;>cases K) h
 refine⟨by omega,by omega,λi r O=>?_⟩;have:=pS r (hS O);unfold q1 at this;split at this;·cases this
 rename_i G;split at this;·cases this
 rename_i U;have dH:RD r.aC 1 262144=true:=by
  cases aT:RD r.aC 1 262144 with
  |true=>rfl
  |false=>exact absurd (.inr (.inr (.inr (.inr (.inl aT))))) U
 have eH:RD r.fQ (-2199023255552) 2199023255552=true:=by
  cases aT:RD r.fQ (-2199023255552) 2199023255552 with
  |true=>rfl
  |false=>exact absurd (.inr (.inr (.inr (.inr (.inr aT))))) U
 exact⟨by omega,by omega,by omega,a0p.1 dH,a0p.1 eH⟩
structure Gz(d:gV):Prop where
 aS:0<=d.aS
 len:2<=d.hY.l.length/\d.hY.l.length<=6
 aC:∀(i:Nat) (x:Int),d.hY.l[i]?=some x->0<=x/\x<=262144
 Kb:GL d.hY.l d.hY.l.length=true
def aXK{l:List gV}(h:C2 l=0):l.length<=16/\∀(i:Nat) (d:gV),l[i]?=some d->Gz d/\¬It l i d:=by
 unfold C2 at h;split at h;·cases h
 rename_i sU;have zR:∀(x:Int) (e:Int),Bv x=some e->e=1:=λx e V=>by unfold Bv at V;split at V<;>cases V;rfl
 have pS:=YY (f:=JK l) (λi e K V=>by
  subst V;unfold JK at K;split at K;·cases K
  ·
   split at K;·cases K
   ·
    split at K;·cases K
    ·
     split at K;·rename_i r7 uR;obtain⟨x,_,Fg⟩:=K3 uR;have:=zR x _ Fg;cases K;cases this
     ·
      split at K;·cases K
      ·split at K<;>cases K) h
 refine⟨by omega,λi d a7=>?_⟩;obtain⟨aB,_⟩:=List.getElem?_eq_some_iff.1 a7;have:=pS i (List.mem_range.2 aB);rw[a6N a7]at this;split at this;·cases this
 rename_i G;split at this;·cases this
 rename_i U;split at this;·cases this
 rename_i aO;split at this;·cases this
 rename_i bW;split at this;·cases this
 rename_i dV;refine⟨⟨by omega,by omega,λk x K=>?_,by simpa using bW⟩,dV⟩;have:=List.findSome?_eq_none_iff.1 aO x (hS K);unfold Bv at this;exact Vw
def aJf{l:List Int}(h: ∀(i:Nat) (x:Int),l[i]? =some x->0<=x/\x<=262144): ∀(k:Nat),k<=l.length->1<=l.length->0<=N0 l k/\N0 l k<=l.getD 0 0/\l.getD 0 0<=NY l k/\NY l k<=262144
 |0,_,aZ=>by have:=h 0 _ (bR 0 D);simp only[N0,NY];omega
 |k+1,Y,aZ=>by
  have cA:=aJf h k D aZ
  have:=h k _ (bR 0 D)
  simp only[N0,NY]
  omega
def aJI{d:gV}(h:Gz d)(s:Int):0<=(q7 d s).bJ/\(q7 d s).bJ<=(q7 d s).bN/\(q7 d s).bN<=262144:=by
 unfold q7;split;·simp
 ·
  rename_i bU;split;·have:=aJf h.aC d.hY.l.length (gS _) D;dsimp only;omega
  ·have:=h.aC s.toNat _ (bR 0 D);dsimp only;omega
structure sG(a:bT):Prop where
 aE:UI a.aE
 W2:a.bD.l.length<=8
 nF:∀(i:Nat) (f:hT),a.bD.l[i]?=some f->JH f/\f.aS<a.aE.Z.l.length
 Fr:a.a8.l.length<=16
 tN:∀(i:Nat) (d:gV),a.a8.l[i]?=some d->Gz d/\d.aS<a.aE.Z.l.length
def J9{a:bT}(h:h4 a=0):sG a:=by
 unfold h4 at h;split at h;·exact Vy
 rename_i G;split at h;·cases h
 rename_i U;split at h;·
  rename_i e V;subst h;obtain⟨x,_,K⟩:=K3 V;unfold LX at K;split at K;·rename_i jC;exact absurd (uA K) jC
  ·split at K<;>cases K
 rename_i FN;split at h;·rename_i aO;exact absurd h aO
 rename_i aO;have MU:=aXK (by simpa using aO);have b2k:=YY (f:=J1 a.aE.Z.l.length) (λx e K V=>by subst V;unfold J1 at K;split at K<;>cases K) h;refine⟨R8 Xh,by omega,λi f aH=>?_,MU.1,λi d a7=>⟨(MU.2 i d a7).1,?_⟩⟩;·
  have:=List.findSome?_eq_none_iff.1 FN f (hS aH);unfold LX at this;split at this;·cases this
  rename_i bW;split at this;·cases this
  exact⟨aZu (by simpa using bW),by omega⟩
 ·have:=b2k d (hS a7);unfold J1 at this;exact Vw
structure Xz(a:bT)(s:cG):Prop where
 WZ:s.bD.l.length=a.bD.l.length
 aNk:s.a8.l.length=a.a8.l.length
 nF:∀(i:Nat) (x:Int),s.bD.l[i]?=some x->-1<=x/\x<=2
 tN:∀(i:Nat) (x:Int) (d:gV),s.a8.l[i]?=some x->a.a8.l[i]?=some d->-1<=x/\x<d.hY.l.length
def a1b{a:bT}{s:cG}(h:mP a s=true):Xz a s:=by
 unfold mP at h;split at h;·cases h
 rename_i G;simp only[lY,Option.isNone_iff_eq_none]at h;refine⟨by omega,by omega,λi x K=>?_,λi x d K a7=>?_⟩;·have:=List.findSome?_eq_none_iff.1 h.1 x (hS K);unfold Qc at this;exact Vw
 ·obtain⟨aB,_⟩:=List.getElem?_eq_some_iff.1 K;have:=List.findSome?_eq_none_iff.1 h.2 i (List.mem_range.2 aB);rw[a7R K a7]at this;exact Vw
def aE2{a:bT}{s:cG}(h:a73 a s=true):sG a/\Xz a s:=by simp only[a73,lY,decide_eq_true_eq]at h;exact⟨J9 h.1,a1b h.2⟩
end Go.Proofs.YtdiajbdaadlfhaaGreatDoor
namespace Go.Proofs.YtdiajbdaadlfhaaGreatDoor
open Go.Aw Go Go.Proofs.Tryz
set_option maxRecDepth 20000
attribute [local irreducible] cO dG dP aM cI dR fA e2 e5 fB eQ e9
def p3(a:bT)(s:cG)(r:Int):Nat->bG
 |0=>(a.aE.Z.l.getD r.toNat default).aC
 |k+1=>if(a.a8.l.getD k default).aS=r then⟨(p3 a s r k).bJ+(q7 (a.a8.l.getD k default) (s.a8.l.getD k 0)).bJ,(p3 a s r k).bN+(q7 (a.a8.l.getD k default) (s.a8.l.getD k 0)).bN⟩else p3 a s r k
def VC(aC fQ:bG)(q:Int):bG:=
 if q<0 then⟨-(aC.bN*q*q)-fQ.bN,-(aC.bJ*q*q)-fQ.bJ⟩else⟨aC.bJ*q*q-fQ.bN,aC.bN*q*q-fQ.bJ⟩
def qP(a:bT)(s:cG)(r q:Int):Nat->bG
 |0=>VC (p3 a s r a.a8.l.length) (a.aE.Z.l.getD r.toNat default).fQ q
 |k+1=>if(a.bD.l.getD k default).aS=r then⟨(qP a s r q k).bJ-(nB (a.bD.l.getD k default) (s.bD.l.getD k 0) q).bN,(qP a s r q k).bN-(nB (a.bD.l.getD k default) (s.bD.l.getD k 0) q).bJ⟩else qP a s r q k
def kA(a:bT)(s:cG)(r q:Int):bG:=qP a s r q a.bD.l.length
def Oa{a:bT}{s:cG}(h:sG a){r:Int}(O:0<=r/\r<a.aE.Z.l.length):∀(k:Nat),k<=a.a8.l.length->
 1<=(p3 a s r k).bJ/\(p3 a s r k).bJ<=(p3 a s r k).bN/\(p3 a s r k).bN<=262144*(k+1)
 |0,_=>by
  have:=(h.aE.aS r.toNat _ Bj).aC
  simp only[p3];omega
 |k+1,Y=>by
  have cA:=Oa (s:=s) h O k D
  have aT:=aJI (h.tN k _ Bj).1 (s.a8.l.getD k 0)
  simp only[p3]
  split
  ·dsimp only;omega
  ·omega
def aVk{a:bT}{s:cG}{r q:Int}(h:q<0):qP a s r q 0=⟨-((p3 a s r a.a8.l.length).bN*q*q)-(a.aE.Z.l.getD r.toNat default).fQ.bN,-((p3 a s r a.a8.l.length).bJ*q*q)-(a.aE.Z.l.getD r.toNat default).fQ.bJ⟩:=if_pos h
def aWg{a:bT}{s:cG}{r q:Int}(h:¬q<0):qP a s r q 0=⟨(p3 a s r a.a8.l.length).bJ*q*q-(a.aE.Z.l.getD r.toNat default).fQ.bN,(p3 a s r a.a8.l.length).bN*q*q-(a.aE.Z.l.getD r.toNat default).fQ.bJ⟩:=if_neg h
end Go.Proofs.YtdiajbdaadlfhaaGreatDoor
