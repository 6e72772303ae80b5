-- By an AI agent; no person has read it.
import Derived.Test.YtchfclmokpbldaaGreatChecks
set_option linter.all false
set_option maxHeartbeats 4000000
variable{A B:Prop}
def aD6(h:A->B:=by exact iS N [92,93,94,95] [0,1,2,3,4,5,6,7,8,9,10,11,12] [13,14,15] (_) _ dO bI bA aSZ):=h
def aUM(h:A->B:=by exact iS N [132,133,134] [0,1,2,3,4,5,6,7,8,9,10] [11,12,13] (_) _ dO bI bA aSZ):=h
namespace Go.Proofs.YtchfclmokpbldaaGreat
open Go.Aw Go Go.Proofs.Tryz
set_option maxRecDepth 20000
attribute [local irreducible] cQ dF dV aM cP eC e5 e1 e2 e6 eX e4
def aU0(x y:Int)(L:aR)(R:aO)(K:0<=x)(QY:x<=2199023255552)(aS:0<=y)(OB:y<=4194304):
 aM prog 303 [.int .u64 x,.int .u64 y].toArray L R (λv E G=>v=.tuple #[.int .u64 0,.int .u64 (x*y)]/\L=E/\R=G):=by
 have eV:y%4294967296=y:=by omega
 have fN:y/4294967296=0:=by omega
 have a1E:0<=x%4294967296*y:=CG D aS;have gL:x%4294967296*y<=4294967296*4194304:=MF D OB aS D;have aLw:0<=x/4294967296*y:=CG D aS;have AK:x/4294967296*y<=512*4194304:=MF D OB aS D;have S1:0<=x*y:=CG K aS;have d1:x*y<=2199023255552*4194304:=MF QY OB aS D;refine b6 51 call303 func303 rfl rfl rfl ?_;apply m3∘rS;refine aI (a4T rfl rfl D D) rfl ?_;apply(rS);refine aI (Qs rfl rfl) rfl ?_;apply(rS);refine aI (a4T rfl rfl D D) rfl ?_;apply(rS);refine aI (Qs rfl rfl) rfl ?_;apply(x2);simp only[eV,fN];apply eB∘lD∘L5∘rS∘ND∘cE;refine aI (Qs rfl rfl) rfl ?_;apply k3∘rS;refine aI (a4T rfl rfl D D) rfl ?_;apply(rS);refine aI (Qs rfl rfl) rfl ?_;apply(mO);iterate 3 apply(cE)
 apply L5∘k3∘rS∘ND∘M7∘cE;refine aI (Qs rfl rfl) rfl ?_;apply k3∘rS∘ND∘vB;have key:(x/4294967296*y+x%4294967296*y/4294967296)/4294967296+(x/4294967296*y+x%4294967296*y/4294967296)%4294967296/4294967296=0:=by omega
 refine bQ L R BB ?_;exact⟨by simp[key],rfl,rfl⟩
def aUI(b5 y:Int)(L:aR)(R:aO)(K:0<=b5)(QY:b5<=18446744073709551615)(aS:0<y)(OB:y<=18446744073709551615):
 aM prog 304 [.int .u64 0,.int .u64 b5,.int .u64 y].toArray L R (λv E G=>v=.tuple #[.int .u64 (b5/y),.int .u64 (b5%y)]/\L=E/\R=G):=by refine b6 135 call304 func304 rfl rfl rfl ?_;apply m3∘Y3∘nJ;refine Zq aY DQ ?_;apply hN∘lD∘PX;refine Zq aY DQ ?_;apply hN∘cE∘nJ;refine aTH aY g2 ?_;refine bK ?_;refine gZ N [0,1,2,3,4,5,6,7] _ dO bI hA ?_;apply hK∘hK;refine bE aQp rfl rfl rfl ?_;apply hK∘hK;refine bE (by first|exact aJr rfl rfl D D|exact a4K rfl rfl D) rfl rfl rfl ?_;apply(Qy);refine g5 (a8 (iY (gB ?_)));refine bQ L R BB ?_;exact MK
def yS(a b:j6)(q:Int):bC:=
 ⟨a.c8-(a.c8-b.c8)*(q-a.dP)/(b.dP-a.dP)-(if 0<(a.c8-b.c8)*(q-a.dP)%(b.dP-a.dP)then 1 else 0),a.c8-(a.c8-b.c8)*(q-a.dP)/(b.dP-a.dP)⟩
def aT3(a b:j6)(q:Int)(L:aR)(R:aO)(aP:0<=b.c8/\b.c8<=a.c8/\a.c8<=2199023255552)(aF:-1048576<=a.dP/\a.dP<=q/\q<=b.dP/\a.dP<b.dP/\b.dP<=1048576):
 aM prog 294 [a.val,b.val,.int .i64 q].toArray L R (λv E G=>v=(yS a b q).val/\L=E/\R=G):=by
 have S1:0<=(a.c8-b.c8)*(q-a.dP):=CG D D;have d1:(a.c8-b.c8)*(q-a.dP)<=2199023255552*4194304:=MF D D D D;have d2:0<=(a.c8-b.c8)*(q-a.dP)/(b.dP-a.dP):=Nu S1 D;have d3:(a.c8-b.c8)*(q-a.dP)/(b.dP-a.dP)<=a.c8-b.c8:=by refine Int.ediv_le_of_le_mul D ?_;exact Wn D D
 refine b6 57 call294 func294 rfl rfl rfl ?_;apply(dB);intro eS;apply(iV);intro eD;apply(dZ);intro i1;apply j8∘j0∘j3∘A5∘NF∘j3∘A5;refine cD rfl (aU0 _ _ _ _ D D D D) ?_;refine aI iL rfl ?_;apply Y5∘rS∘cE∘j0∘j3∘A5;refine cD rfl (aUI _ _ _ _ D D D D) ?_;refine aI iL rfl ?_;apply Y5∘mO∘gK∘A5∘j3∘gK∘A5∘j3∘A4∘dZ;intro H1;apply rT∘Ds∘b9;refine U ?_ ?_<;>intro aQ;·apply eB∘fD∘j3∘NB∘JP;refine bQ L R kS ?_;exact⟨by simp[yS,bC.val,aQ],rfl,rfl⟩
 apply e0∘JP;refine bQ L R kS ?_;exact⟨by simp[yS,bC.val,aQ],rfl,rfl⟩
end Go.Proofs.YtchfclmokpbldaaGreat
namespace Go.Proofs.YtchfclmokpbldaaGreat
open Go.Aw Go Go.Proofs.Tryz
structure DV(l:List j6):Prop where
 zL:∀(i:Nat) (p:j6),l[i]?=some p->-1048576<=p.dP/\p.dP<=1048576/\0<=p.c8/\p.c8<=2199023255552
 hZ:∀(i:Nat) (p r:j6),l[i]?=some p->l[i+1]?=some r->p.dP<r.dP/\r.c8<=p.c8
structure RL(f:lR):Prop where
 cV:0<=f.cV
 aNB:1<=f.iA.l.length
 aBw:f.iA.l.length<=8
 ok:DV f.iA.l
def aZc{f:lR}(h:M5 f=0):RL f:=by
 unfold M5 at h;split at h;·cases h
 rename_i O;split at h;·cases h
 rename_i X;have b1:(List.range f.iA.l.length).findSome? (H0 f.iA.l)=none:=by
  cases aF:(List.range f.iA.l.length).findSome? (H0 f.iA.l)with
  |none=>rfl
  |some e=>
   rw[aF]at h;simp only[aCB]at h;subst h;obtain⟨i,_,aE⟩:=XR aF;unfold H0 at aE;split at aE;·cases aE
   ·
    split at aE;·cases aE
    ·
     split at aE;·cases aE
     ·
      split at aE;·cases aE
      ·split at aE<;>cases aE
 have qS:∀(i:Nat) (p:j6),f.iA.l[i]?=some p->H0 f.iA.l i=none:=λi p aP=>by obtain⟨aE,_⟩:=List.getElem?_eq_some_iff.1 aP;exact List.findSome?_eq_none_iff.1 b1 i (List.mem_range.2 aE)
 have Ag:∀(i:Nat) (p:j6),f.iA.l[i]?=some p->-1048576<=p.dP/\p.dP<=1048576/\0<=p.c8/\p.c8<=2199023255552:=λi p aP=>by
  have:=qS i p aP;by_cases M:p.dP< -1048576\/1048576<p.dP\/p.c8<0\/2199023255552<p.c8;·rw[aJV aP M]at this;cases this
  ·omega
 refine⟨by omega,by omega,by omega,Ag,λi p r aP M=>?_⟩;have:=qS (i+1) r M;have b:=Ag _ _ M;by_cases a5:r.dP<=p.dP\/p.c8<r.c8;·rw[aGK M D D (by simpa using aP) a5]at this;cases this
 ·omega
def C1(p:j6):List j6->Int->bC
 |[],_=>⟨p.c8,p.c8⟩
 |r::aD,q=>if q<=r.dP then yS p r q else C1 r aD q
def xU(l:List j6)(q:Int):bC:=
 match l with
 |[]=>⟨0,0⟩
 |p::aD=>if q<=p.dP then⟨p.c8,p.c8⟩else C1 p aD q
def Jb(s:bC):bC:=⟨-s.bW,-s.bU⟩
def zX(l:List j6)(n4:Bool)(q:Int):bC:=if n4 then Jb (xU l (-q))else xU l q
def vF(f:lR)(s q:Int):bC:=
 if s=1 then zX f.iA.l f.n4 q else if s=2 then zX f.iA.l (!f.n4) q
 else if s= -1 then⟨min (min 0 (zX f.iA.l false q).bU) (zX f.iA.l true q).bU,max (max 0 (zX f.iA.l false q).bW) (zX f.iA.l true q).bW⟩
 else⟨0,0⟩
def aF7{a b:j6}{q:Int}(aP:0<=b.c8/\b.c8<=a.c8/\a.c8<=2199023255552)(aF:-1048576<=a.dP/\a.dP<=q/\q<=b.dP/\a.dP<b.dP/\b.dP<=1048576):
 b.c8<=(yS a b q).bU/\(yS a b q).bU<=(yS a b q).bW/\(yS a b q).bW<=a.c8:=by
 unfold yS;have S1:0<=(a.c8-b.c8)*(q-a.dP):=CG D D;have d1:(a.c8-b.c8)*(q-a.dP)<=(a.c8-b.c8)*(b.dP-a.dP):=Wn D D;generalize (a.c8-b.c8)*(q-a.dP)=mG at*;have dH:0<b.dP-a.dP:=by omega
 generalize b.dP-a.dP=w at*;have d2:0<=mG/w:=Nu S1 D;have d3:mG/w<=a.c8-b.c8:=Int.ediv_le_of_le_mul dH d1;have a1K:=Int.mul_ediv_add_emod mG w;have b1v:0<=mG%w:=Int.emod_nonneg _ D;dsimp only;split;·
  rename_i M;have:mG/w<a.c8-b.c8:=by
   rcases IY (mG/w) (a.c8-b.c8)with h|h;·exact h
   ·(have e:mG/w=a.c8-b.c8:=by omega);rw[e]at a1K;rw[Int.mul_comm]at a1K;omega
  omega
 ·omega
def Yn:∀(l:List j6) (p:j6) (q:Int),DV (p::l)->p.dP<=q->
 0<=(C1 p l q).bU/\(C1 p l q).bU<=(C1 p l q).bW/\(C1 p l q).bW<=p.c8
 |[],p,q,h,_=>by have:=h.zL 0 p rfl;simp only[C1];omega
 |r::aD,p,q,h,cJ=>by
  have b2:=h.zL 0 p rfl
  have O:=h.zL 1 r rfl
  have X:=h.hZ 0 p r rfl rfl
  unfold C1
  split
  ·have:=aF7 (a:=p) (b:=r) (q:=q) D D
   omega
  ·have:=Yn aD r q ⟨λi=>h.zL (i+1),λi=>h.hZ (i+1)⟩ D
   omega
def a0g{l:List j6}(h:DV l)(q:Int):0<=(xU l q).bU/\(xU l q).bU<=(xU l q).bW/\(xU l q).bW<=2199023255552:=by
 cases l with
 |nil=>simp[xU]
 |cons p aD=>
  have b2:=h.zL 0 p rfl;unfold xU;dsimp only;split;·(first|omega|(dsimp only;omega))
  ·have:=Yn aD p q h D;omega
def a0o{l:List j6}(h:DV l)(n4:Bool)(q:Int):-2199023255552<=(zX l n4 q).bU/\(zX l n4 q).bU<=(zX l n4 q).bW/\(zX l n4 q).bW<=2199023255552:=by have O:=a0g h q;have X:=a0g h (-q);unfold zX Jb;split<;>first|omega|(dsimp only;omega)
def Yg{f:lR}(h:RL f)(s q:Int):-2199023255552<=(vF f s q).bU/\(vF f s q).bU<=(vF f s q).bW/\(vF f s q).bW<=2199023255552:=by
 have O:=a0o h.ok f.n4 q;have X:=a0o h.ok (!f.n4) q;have aU:=a0o h.ok false q;have cK:=a0o h.ok true q;unfold vF;split;·omega
 ·
  split;·omega
  ·(split<;>first|omega|(dsimp only;omega))
def a7F{a b:Int}(a5:0<b):(if a.tmod b<0 then a.tdiv b-1 else a.tdiv b)=a/b:=by
 have O:=Int.mul_tdiv_add_tmod a b;have X:-b<a.tmod b:=by have:=Int.lt_tmod_of_pos a a5;omega
 have aU:a.tmod b<b:=a3I a a5;split;·have:=(a3F (a:=a) (b:=b) (q:=a.tdiv b-1) (r:=a.tmod b+b) a5).2 ⟨by rw[Int.mul_sub];omega,by omega,by omega⟩;exact this.1.symm
 ·have:=(a3F (a:=a) (b:=b) (q:=a.tdiv b) (r:=a.tmod b) a5).2 ⟨by omega,by omega,by omega⟩;exact this.1.symm
def a5h{mG w:Int}(dH:0<w):(-mG)/w= -(mG/w)-(if 0<mG%w then 1 else 0):=by
 have O:=Int.mul_ediv_add_emod mG w;have X:=Int.emod_nonneg mG (show w≠0 by omega);have aU:=Int.emod_lt_of_pos mG dH;split;·have:=(a3F (a:= -mG) (b:=w) (q:= -(mG/w)-1) (r:=w-mG%w) dH).2 ⟨by rw[Int.mul_sub,Wh];omega,by omega,by omega⟩;exact this.1
 ·have:=(a3F (a:= -mG) (b:=w) (q:= -(mG/w)) (r:=0) dH).2 ⟨by rw[Wh];omega,by omega,by omega⟩;rw[this.1];omega
def aUr{a b:j6}{q:Int}(dH:a.dP<b.dP):
 (⟨a.c8+(b.c8-a.c8)*(q-a.dP)/(b.dP-a.dP),a.c8+ -(-((b.c8-a.c8)*(q-a.dP))/(b.dP-a.dP))⟩:bC)=yS a b q:=by
 have e:(b.c8-a.c8)*(q-a.dP)= -((a.c8-b.c8)*(q-a.dP)):=by rw[<-Nm];congr 1;omega
 rw[e,Int.neg_neg,a5h D];unfold yS;congr 1<;>omega
def a6F: ∀(l:List j6) (r uZ:j6),DV (r::l)->(r::l)[l.length]? =some uZ->r.dP<=uZ.dP/\(l≠[]->r.dP<uZ.dP)
 |[],r,uZ,_,b1=>by simp at b1;subst b1;exact⟨pJ _,λh=>absurd rfl h⟩
 |s::l,r,uZ,ok,b1=>by
  have aH:=ok.hZ 0 r s rfl rfl
  have:=a6F l s uZ ⟨λi=>ok.zL (i+1),λi=>ok.hZ (i+1)⟩ (by simpa using b1)
  exact⟨by omega,λ_=>by omega⟩
def aKP: ∀(l:List j6) (p uZ:j6) (q:Int),DV (p::l)->(p::l)[l.length]? =some uZ->uZ.dP<=q->(l=[]\/p.dP<q)->C1 p l q=⟨uZ.c8,uZ.c8⟩
 |[],p,uZ,q,_,b1,_,_=>by simp at b1;subst b1;rfl
 |r::aD,p,uZ,q,h,b1,cJ,_=>by
  have X:=h.hZ 0 p r rfl rfl
  have QS:(r::aD)[aD.length]?=some uZ:=by simpa using b1
  have L1:DV (r::aD):=⟨λi=>h.zL (i+1),λi=>h.hZ (i+1)⟩
  have IF:=a6F aD r uZ L1 QS
  unfold C1
  split
  ·rename_i Uk
   have rD:aD=[]:=by
    rcases aD with _|⟨s,aD⟩
    ·rfl
    ·have:=IF.2 g2;omega
   subst rD
   simp at QS;subst QS
   have Md:q=r.dP:=by omega
   subst Md
   unfold yS
   have dH:0<r.dP-p.dP:=by omega
   rw[Int.mul_ediv_cancel _ D,Int.mul_emod_left]
   simp
   omega
  ·exact aKP aD r uZ q L1 QS cJ (.inr D)
def aYP{l:List j6}(h:DV l)(O:1<=l.length){uZ:j6}(b1:l[l.length-1]?=some uZ)(q:Int)(cJ:uZ.dP<=q):xU l q=⟨uZ.c8,uZ.c8⟩:=by
 cases l with
 |nil=>simp at O
 |cons p aD=>
  have QS:(p::aD)[aD.length]?=some uZ:=by simpa using b1
  unfold xU;dsimp only;split;·
   rename_i aP;have rD:aD=[]:=by
    rcases aD with _|⟨s,aD⟩;·rfl
    ·exfalso;have X:=h.hZ 0 p s rfl rfl;have:=a6F aD s uZ ⟨λi=>h.zL (i+1),λi=>h.hZ (i+1)⟩ (by simpa using QS);omega
   subst rD;simp at QS;subst QS;rfl
  ·exact aKP aD p uZ q h QS cJ (.inr D)
def aHF: ∀(l:List j6) (uA:j6) (k:Nat) (p r:j6) (q:Int),DV (uA::l)->(uA::l)[k]? =some p->(uA::l)[k+1]? =some r->p.dP<=q->q<r.dP->uA.dP<q->C1 uA l q=yS p r q
 |[],uA,k,p,r,q,_,_,M,_,_,_=>by simp at M
 |s::aD,uA,0,p,r,q,h,aP,M,O,X,aU=>by
  simp at aP M;subst aP;subst M
  unfold C1
  rw[if_pos D]
 |s::aD,uA,k+1,p,r,q,h,aP,M,O,X,aU=>by
  have L1:DV (s::aD):=⟨λi=>h.zL (i+1),λi=>h.hZ (i+1)⟩
  have cK:=h.hZ 0 uA s rfl rfl
  have Uf:(s::aD)[k]?=some p:=by simpa using aP
  have QX:(s::aD)[k+1]?=some r:=by simpa using M
  have TQ:=L1.hZ k p r Uf QX
  unfold C1
  split
  ·rename_i b95
   -- then the point at k is this one, and the flow is its own
   have mono:∀(j:Nat) (x y:j6),(s::aD)[0]?=some x->(s::aD)[j]?=some y->x.dP+j<=y.dP:=by
    intro j
    induction j with
    |zero=>intro x y K aS;rw[K]at aS;cases aS;omega
    |succ j c6=>
     intro x y K aS
     obtain⟨a6,_⟩:=List.getElem?_eq_some_iff.1 aS
     obtain⟨z,eW⟩:=jW (l:=s::aD) (k:=j) D
     have:=c6 x z K eW
     have:=L1.hZ j z y eW aS
     omega
   have a3:=mono k s p rfl Uf
   have aG:k=0:=by omega
   subst aG
   simp at Uf;subst Uf
   have Md:q=s.dP:=by omega
   subst Md
   have b9Z:=L1.zL 0 s rfl
   unfold yS
   have dH:0<s.dP-uA.dP:=by omega
   rw[Int.mul_ediv_cancel _ D,Int.mul_emod_left,Int.sub_self,a3B,Int.zero_ediv,Int.zero_emod]
   simp
   omega
  ·exact aHF aD s k p r q L1 Uf QX O X D
def aZn{l:List j6}(h:DV l){k:Nat}{p r:j6}{q:Int}(aP:l[k]?=some p)(M:l[k+1]?=some r)(O:p.dP<=q)(X:q<r.dP):xU l q=yS p r q:=by
 cases l with
 |nil=>simp at aP
 |cons uA aD=>
  unfold xU;dsimp only;split;·
   rename_i cJ;have mono:∀(j:Nat) (y:j6),(uA::aD)[j]?=some y->uA.dP+j<=y.dP:=by
    intro j;induction j with
    |zero=>intro y aS;simp at aS;subst aS;omega
    |succ j c6=>intro y aS;obtain⟨a6,_⟩:=List.getElem?_eq_some_iff.1 aS;obtain⟨z,eW⟩:=jW (l:=uA::aD) (k:=j) D;have:=c6 z eW;have:=h.hZ j z y eW aS;omega
   have a3:=mono k p aP;(have aG:k=0:=by omega);subst aG;simp at aP;subst aP;(have Md:q=uA.dP:=by omega);subst Md;unfold yS;rw[Int.sub_self,a3B,Int.zero_ediv,Int.zero_emod];simp
  ·exact aHF aD uA k p r q h aP M O X D
end Go.Proofs.YtchfclmokpbldaaGreat
namespace Go.Proofs.YtchfclmokpbldaaGreat
open Go.Aw Go Go.Proofs.Tryz
set_option maxRecDepth 20000
attribute [local irreducible] cQ dF dV aM cP eC e5 e1 e2 e6 eX e4
def aIq(f:lR)(q:Int)(L:aR)(R:aO)(a3:aL f.gN R)(aF:RL f)(cJ:-1048577<=q/\q<=1048577):
 aM prog 282 [f.val,.int .i64 q].toArray L R (λv E G=>v=(xU f.iA.l q).val/\L=E/\R=G):=by
 have Ab:=aF.aNB;have b32:=aF.aBw;obtain⟨uA,gM⟩:=jW (l:=f.iA.l) (k:=0) D;obtain⟨uZ,lK⟩:=jW (l:=f.iA.l) (k:=f.iA.l.length-1) D;refine b6 62 call282 func282 rfl rfl rfl ?_;apply(dB);intro eH;apply(dZ);intro eD;apply(j2);refine gZ N [0,1,2,3,4,5,6,7,8,9,10,11,12,13,14,15] _ dO bI hA ?_;apply g7∘aB2∘Bi∘g7∘g7;refine bE yG rfl rfl rfl ?_;apply(vQ);refine bE aDh rfl rfl rfl ?_;apply Bi∘qH;intro gQ;apply(qH);intro i1;apply uC∘uC∘L4∘NF∘PX;refine U ?_ ?_<;>intro aQ;·apply dC∘j0∘A4∘CR;obtain⟨aD,DC⟩:∃aD,f.iA.l=uA::aD:=⟨_,by have:=Km gM;simpa using this⟩;refine bQ L R kS ?_;exact⟨by rw[DC];simp only[xU,if_pos aQ],rfl,rfl⟩
 apply(yZ);refine dS [(1,.int _ _),(2,.pointer _),(4,.pointer _),(6,.pointer _),(7,.int _ _)] bV λfK=>?_;refine gY ([7]++cN 29 28) (λg:{k:Nat//1<=k/\k<=f.iA.l.length/\∃p,f.iA.l[k-1]?=some p/\p.dP<q/\xU f.iA.l q=C1 p (f.iA.l.drop k) q}=>[(7,.int .i64 ((g.1:Nat):Int))]) (λg=>f.iA.l.length-g.1) (⟨1,by omega,by omega,uA,gM,by omega,by have h:=Km gM;simp only[Bx,MD]at h;rw[h];simp only[xU,if_neg aQ,List.drop_one,List.tail_cons]⟩) ?_;rintro⟨k,hE,l5,p,aP,aM0,aH⟩ cH;try dsimp only
 apply(q9);refine U ?_ ?_<;>intro bL;·
  obtain⟨r,M⟩:=jW (l:=f.iA.l) (k:=k) D;have EL:=aF.ok.zL _ _ aP;have y8:=aF.ok.zL _ _ M;have a9j:=aF.ok.hZ (k-1) p r aP (by rw[show k-1+1=k by omega];exact M);rw[Km M]at aH;simp only[C1]at aH;apply oJ∘gK∘GO∘sH∘PX;refine U ?_ ?_<;>intro cC;·refine bK ?_;refine iS N [] [0,1,2,3,4,5,6,7,8,9,10,11,12] [13] (_) _ dO bI bA Ch ?_;apply BO∘T9;refine fP aDo rfl rfl rfl rfl ?_;apply aBY∘BO∘aBV∘aBY∘zO;refine rQ rfl (aT3 p r q _ _ D D) rfl rfl ?_;rintro v E G ⟨rfl,rfl,rfl⟩;refine⟨bA,iQ,?_⟩;apply(oX);refine g5 (a8 (iY (iM (gB (vW (iM (gB ?_)))))));refine bQ L R kS ?_;exact⟨by rw[aH,if_pos cC],rfl,rfl⟩
  apply(mT);exact eO (⟨k+1,by omega,by omega,r,by simpa using M,by omega,by rw[aH,if_neg cC]⟩)
 obtain rfl:k=f.iA.l.length:=by omega
 obtain rfl:p=uZ:=by rw[aP]at lK;exact yF lK
 rw[a3C (iK _)]at aH;apply n9∘j0∘A4∘CQ;refine bQ L R kS ?_;exact⟨by rw[aH];rfl,rfl,rfl⟩
def a0V(f:lR)(n4:Bool)(q:Int)(L:aR)(R:aO)(a3:aL f.gN R)(aF:RL f)(cJ:-1048577<=q/\q<=1048577):
 aM prog 246 [f.val,.bool n4,.int .i64 q].toArray L R (λv E G=>v=(zX f.iA.l n4 q).val/\L=E/\R=G):=by
 have EL:=a0g aF.ok (-q);refine b6 24 call246 func246 rfl rfl rfl ?_;apply(dB);intro eS;apply(dZ);intro i1;apply rF∘SK;refine U ?_ ?_<;>intro aQ;·apply dC∘r5∘cE;refine cD rfl (aIq f q _ _ a3 aF cJ) ?_;apply(CR);refine bQ L R kS ?_;exact⟨by simp[zX,aQ],rfl,rfl⟩
 apply e0∘r5∘cE∘wX;refine cD rfl (aIq f (-q) _ _ a3 aF D) ?_;apply(dZ);intro o0;apply z8∘wX∘fD∘wX∘A4∘CQ;refine bQ L R kS ?_;exact⟨by simp[zX,aQ,Jb],rfl,rfl⟩
def aVH(f:lR)(s q:Int)(L:aR)(R:aO)(a3:aL f.gN R)(aF:RL f)(cJ:-1048577<=q/\q<=1048577):
 aM prog 193 [f.val,.int .i64 s,.int .i64 q].toArray L R (λv E G=>v=(vF f s q).val/\L=E/\R=G):=by
 refine b6 45 call193 func193 rfl rfl rfl ?_;apply(dB);intro eS;apply(dZ);intro i1;apply rF∘cE;refine eZ (a8 (fR (bK (c2 ?_))));apply(vX);refine U ?_ ?_<;>intro aQ;·apply dC∘r5∘gK;refine cD rfl (a0V f f.n4 q _ _ a3 aF cJ) ?_;apply jZ∘KK;refine bQ L R kS ?_;exact⟨by rw[vF,if_pos aQ],rfl,rfl⟩
 apply(oI);refine U ?_ ?_<;>intro bL;·apply dC∘r5∘fD∘XI∘cE;refine cD rfl (a0V f (!f.n4) q _ _ a3 aF cJ) ?_;apply jZ∘KK;refine bQ L R kS ?_;exact⟨by rw[vF,if_neg aQ,if_pos bL],rfl,rfl⟩
 apply(oI);refine U ?_ ?_<;>intro cC;·refine bK ?_;refine gZ N [0,1,3,4,2,5,6,7,8,9] _ dO bI hA ?_;apply KI∘hK∘KI∘hK;refine lW rfl (a0V f false q _ _ a3 aF cJ) ?_;refine lW rfl (a0V f true q _ _ a3 aF cJ) ?_;apply(qH);intro o0;apply(qH);intro h6;apply uC∘uC;refine g5 (a8 (bK (c2 ?_)));apply(j0);refine aI (aEh rfl rfl rfl) rfl ?_;apply(j0);refine aI (aDR rfl rfl rfl) rfl ?_;apply A4∘jZ∘KK;refine bQ L R kS ?_;exact⟨by rw[vF,if_neg aQ,if_neg bL,if_pos cC],rfl,rfl⟩
 refine eP (hI (a8 (bK (c2 ?_))));apply a22∘CQ;refine bQ L R kS ?_;exact⟨by rw[vF,if_neg aQ,if_neg bL,if_neg cC],rfl,rfl⟩
def aGq(a b:Int)(L:aR)(R:aO)(bT:-9223372036854775807<=a/\a<=9223372036854775807)(a5:0<b/\b<=9223372036854775807):
 aM prog 291 [.int .i64 a,.int .i64 b].toArray L R (λv E G=>v=.int .i64 (a/b)/\L=E/\R=G):=by
 have gA:=a7F (a:=a) a5.1;have cG:-9223372036854775807<=a/b/\a/b<=9223372036854775807:=by
  rcases IY a 0 with h|h;·have O:a/b<=0:=aQo D a5.1;(have X:a<=a/b:=by refine Int.le_ediv_of_mul_le a5.1 ?_;have:=Int.mul_le_mul_of_nonpos_left (a:=a) (b:=b) (c:=1) D D;omega);omega
  ·have O:=Nu h (show 0<=b by omega);have X:=Nt b h;omega
 have bM:-9223372036854775807<=a.tdiv b/\a.tdiv b<=9223372036854775807:=by
  split at gA;·
   constructor;·omega
   ·
    have O:=Int.mul_tdiv_add_tmod a b;rename_i h;have:a<0:=by
     rcases IY a 0 with c4|c4;·exact c4
     ·have:=a3v b c4;omega
    have aU:a/b<=0:=aQo D a5.1;omega
  ·omega
 refine b6 16 call291 func291 rfl rfl rfl ?_;apply m3∘j8∘lD∘L6∘hH∘lD∘Mw∘CP;refine U ?_ ?_<;>intro aQ;·rw[if_pos aQ]at gA;apply tR∘j3∘rS∘vB;refine cX L R ?_;exact⟨by rw[gA],rfl,rfl⟩
 rw[if_neg aQ]at gA;apply e0∘Qx;refine cX L R ?_;exact⟨by rw[gA],rfl,rfl⟩
def aXk(a b:Int)(L:aR)(R:aO)(bT:-9223372036854775807<=a/\a<=9223372036854775807)(a5:0<b/\b<=9223372036854775807)(cJ:-9223372036854775807<=(-a)/b/\(-a)/b<=9223372036854775807):
 aM prog 259 [.int .i64 a,.int .i64 b].toArray L R (λv E G=>v=.int .i64 (-((-a)/b))/\L=E/\R=G):=by refine b6 10 call259 func259 rfl rfl rfl ?_;apply m3∘FX∘wX∘cE;refine cD rfl (aGq (-a) b _ _ D a5) ?_;exact(wX∘vB) Oa
def aHU(f:lR)(q:Int)(L:aR)(R:aO)(a3:aL f.gN R)(aF:RL f)(cJ:-1048577<=q/\q<=1048577):
 aM prog 276 [f.val,.int .i64 q].toArray L R (λv E G=>v=(xU f.iA.l q).val/\L=E/\R=G):=by
 have Ab:=aF.aNB;have b32:=aF.aBw;obtain⟨uA,gM⟩:=jW (l:=f.iA.l) (k:=0) D;obtain⟨uZ,lK⟩:=jW (l:=f.iA.l) (k:=f.iA.l.length-1) D;have kK:=aYP aF.ok D lK;have b2R:q<=uA.dP->xU f.iA.l q=⟨uA.c8,uA.c8⟩:=λh=>by have c4:=Km gM;simp only[Bx,MD]at c4;rw[c4];simp only[xU,if_pos h]
 refine b6 106 call276 func276 rfl rfl rfl ?_;apply(dB);intro eH;apply(dZ);intro eD;apply j8∘kD∘Y3∘fD∘Bk∘sH∘PX;refine U ?_ ?_<;>intro aQ;·refine bK ?_;refine iS N [] [0,1,2,3,4,5,6,7,8,9,10] [11] (_) _ dO bI bA Ch ?_;apply mH∘a25∘CC∘tE∘mH∘a25∘CC∘tE∘Bh∘oX;refine g5 (a8 (iY (gB ?_)));refine bQ L R kS ?_;exact⟨by rw[b2R aQ],rfl,rfl⟩
 apply hN∘cE∘a0Y;refine aI aDh rfl ?_;apply sH∘D7;refine U ?_ ?_<;>intro bL;·refine bK ?_;refine iS N [] [0,1,2,3,4,5,6,7,8,9,10,11,12,13,14] [15] (_) _ dO bI bA Ch ?_;apply BO∘T9∘aOo∘CC∘tE∘BO∘T9∘aOo∘CC∘tE∘Bh∘oX;refine g5 (a8 (iY (gB ?_)));refine bQ L R kS ?_;exact⟨by rw[kK q bL],rfl,rfl⟩
 apply e0∘dM;refine eZ (a8 (bK (fR ?_)));refine dS [(1,.int _ _),(2,.pointer _),(4,.pointer _),(6,.int _ _)] bV λfK=>?_;refine gY ([6]++cN 56 11) (λg:{k:Nat//k+1<f.iA.l.length/\∃p,f.iA.l[k]?=some p/\p.dP<=q}=>[(6,.int .i64 ((g.1:Nat):Int))]) (λg=>f.iA.l.length-g.1) (⟨0,by rcases hF 1 f.iA.l.length with h|h;exact h;exfalso;rw[show f.iA.l.length-1=0 by omega,gM]at lK;cases lK;omega,uA,gM,by omega⟩) ?_;rintro⟨k,aG,p,aP,aM0⟩ cH;try dsimp only
 refine bK (bK ?_);obtain⟨r,M⟩:=jW (l:=f.iA.l) (k:=k+1) D;apply eB∘gK∘k3;refine aI aRj rfl ?_;apply VP∘PX;refine U ?_ ?_<;>intro cC;·refine eP (a8 (fR (c2 ?_)));apply M7∘dM;refine eZ (hI ?_);exact eO (⟨k+1,by rcases hF (k+1+1) f.iA.l.length with h|h;exact h;exfalso;rw[show f.iA.l.length-1=k+1 by omega,M]at lK;cases lK;omega,r,M,by omega⟩)
 have EL:=aF.ok.zL _ _ aP;have y8:=aF.ok.zL _ _ M;have a9j:=aF.ok.hZ k p r aP M;have Fs:=aZn aF.ok aP M aM0 D;have S1:0<=(p.c8-r.c8)*(q-p.dP):=CG D D;have d1:(p.c8-r.c8)*(q-p.dP)<=2199023255552*2097153:=MF D D D D;have aLz:(r.c8-p.c8)*(q-p.dP)= -((p.c8-r.c8)*(q-p.dP)):=by rw[<-Nm];congr 1;omega
 have d2:0<=(p.c8-r.c8)*(q-p.dP)/(r.dP-p.dP):=Nu S1 D;have d3:(p.c8-r.c8)*(q-p.dP)/(r.dP-p.dP)<=(p.c8-r.c8)*(q-p.dP):=Nt _ S1;have a1K:=a5h (mG:=(p.c8-r.c8)*(q-p.dP)) (w:=r.dP-p.dP) D;have b83:-((p.c8-r.c8)*(q-p.dP))-1<= -((p.c8-r.c8)*(q-p.dP))/(r.dP-p.dP)/\-((p.c8-r.c8)*(q-p.dP))/(r.dP-p.dP)<=0:=by split at a1K<;>omega
 have b1v:-((r.c8-p.c8)*(q-p.dP))/(r.dP-p.dP)=(p.c8-r.c8)*(q-p.dP)/(r.dP-p.dP):=by rw[aLz,Int.neg_neg]
 have b82:(r.c8-p.c8)*(q-p.dP)/(r.dP-p.dP)= -((p.c8-r.c8)*(q-p.dP))/(r.dP-p.dP):=by rw[aLz]
 apply(Hk);refine gZ N [0,1,2,3,4,5,6,7,8,9,10,11,12,13,14] _ dO bI hA ?_;apply HQ∘Bi∘l1∘GR∘aOr∘Bi∘qH;intro o0;apply(qH);intro h6;apply uC∘uC∘IP;refine gZ N [0,1,2,3,4,5,6,7,8,9,10,11,12,13,14,15,16] _ dO bI hA ?_;apply g7∘g7∘vQ∘hK∘g7∘vQ∘Hl∘g7∘g7∘vQ∘Qy∘IP;refine iS N [] [0,1,2,3,6,7,8,9,4,5,10,11,12] [13] (_) _ dO bI bA Ch ?_;apply BO∘zO∘BO∘zO;refine rQ rfl (aGq _ _ _ _ D D) rfl rfl ?_;rintro v E G ⟨rfl,rfl,rfl⟩;refine⟨bA,iQ,?_⟩;apply(XL);refine rQ rfl (aXk _ _ _ _ D D D) rfl rfl ?_;rintro v E G ⟨rfl,rfl,rfl⟩;refine⟨bA,iQ,?_⟩;apply XL∘Bh∘oX;refine g5 (a8 (iY ?_));refine bQ L R kS ?_;exact⟨by rw[Fs,<-aUr D],rfl,rfl⟩
def a09(f:lR)(n4:Bool)(q:Int)(L:aR)(R:aO)(a3:aL f.gN R)(aF:RL f)(cJ:-1048577<=q/\q<=1048577):
 aM prog 236 [f.val,.bool n4,.int .i64 q].toArray L R (λv E G=>v=(zX f.iA.l n4 q).val/\L=E/\R=G):=by
 have EL:=a0g aF.ok (-q);refine b6 23 call236 func236 rfl rfl rfl ?_;apply(dB);intro eS;apply(dZ);intro i1;apply rF∘dE∘b9;refine U ?_ ?_<;>intro aQ;·apply dC∘r5∘cE∘wX;refine cD rfl (aHU f (-q) _ _ a3 aF D) ?_;apply(dZ);intro o0;apply z8∘wX∘fD∘wX∘A4∘CR;refine bQ L R kS ?_;exact⟨by simp[zX,aQ,Jb],rfl,rfl⟩
 apply e0∘r5∘cE;refine cD rfl (aHU f q _ _ a3 aF cJ) ?_;apply(CQ);refine bQ L R kS ?_;exact⟨by simp[zX,aQ],rfl,rfl⟩
def aVu(f:lR)(s q:Int)(L:aR)(R:aO)(a3:aL f.gN R)(aF:RL f)(cJ:-1048577<=q/\q<=1048577)(aH:-1<=s/\s<=2):
 aM prog 182 [f.val,.int .i64 s,.int .i64 q].toArray L R (λv E G=>v=(vF f s q).val/\L=E/\R=G):=by
 refine b6 45 call182 func182 rfl rfl rfl ?_;apply(dB);intro eS;apply(dZ);intro i1;apply rF∘cE;refine eZ (a8 (fR (bK (c2 ?_))));apply(vX);refine U ?_ ?_<;>intro aQ;·apply VW∘jZ∘KK;refine bQ L R kS ?_;exact⟨by rw[vF,if_neg D,if_neg D,if_neg D],rfl,rfl⟩
 apply(oI);refine U ?_ ?_<;>intro bL;·apply dC∘r5∘gK;refine cD rfl (a09 f f.n4 q _ _ a3 aF cJ) ?_;apply jZ∘KK;refine bQ L R kS ?_;exact⟨by rw[vF,if_pos bL],rfl,rfl⟩
 apply(oI);refine U ?_ ?_<;>intro cC;·apply dC∘r5∘fD∘XI∘cE;refine cD rfl (a09 f (!f.n4) q _ _ a3 aF cJ) ?_;apply jZ∘KK;refine bQ L R kS ?_;exact⟨by rw[vF,if_neg bL,if_pos cC],rfl,rfl⟩
 refine eP (hI (a8 (bK ?_)));refine gZ N [0,1,3,4,2,5,6,7,8,9] _ dO bI hA ?_;apply KI∘hK∘KI∘hK;refine lW rfl (a09 f false q _ _ a3 aF cJ) ?_;refine lW rfl (a09 f true q _ _ a3 aF cJ) ?_;apply(qH);intro o0;apply(qH);intro h6;apply uC∘uC;refine g5 (a8 (bK (c2 ?_)));apply(j0);refine aI (aEh rfl rfl rfl) rfl ?_;apply(j0);refine aI (aDR rfl rfl rfl) rfl ?_;apply A4∘CQ;refine bQ L R kS ?_;exact⟨by rw[vF,if_neg bL,if_neg cC,if_pos D,Int.min_comm 0,Int.max_comm 0];simp only[Int.min_assoc,Int.max_assoc,Int.min_comm 0,Int.max_comm 0],rfl,rfl⟩
structure Jj(p:lI):Prop where
 aD:0<=p.cV.aD.bU/\p.cV.aD.bU<=p.cV.aD.bW/\p.cV.aD.bW<=4456448
 k9:-2199023255552<=p.cV.k9.bU/\p.cV.k9.bU<=p.cV.k9.bW/\p.cV.k9.bW<=2199023255552
 len:p.c3.l.length<=8
 qR:∀(i:Nat) (b:BJ),p.c3.l[i]?=some b->RL b.qR
def FI(p:lI)(q:Int):Nat->bC
 |0=>if q<0 then⟨-p.cV.aD.bW*(q*q)-p.cV.k9.bW,-p.cV.aD.bU*(q*q)-p.cV.k9.bU⟩else⟨p.cV.aD.bU*(q*q)-p.cV.k9.bW,p.cV.aD.bW*(q*q)-p.cV.k9.bU⟩
 |k+1=>⟨(FI p q k).bU-(vF (p.c3.l.getD k default).qR (p.c3.l.getD k default).state q).bW,(FI p q k).bW-(vF (p.c3.l.getD k default).qR (p.c3.l.getD k default).state q).bU⟩
def HK(p:lI)(q:Int):bC:=FI p q p.c3.l.length
def a0j{q:Int}(cJ:-1048577<=q/\q<=1048577):0<=q*q/\q*q<=1099513724929:=by
 rcases IY q 0 with h|h;·have O:=CG (show 0<= -q by omega) (show 0<= -q by omega);have X:=MF (show -q<=1048577 by omega) (show -q<=1048577 by omega) D D;rw[Int.neg_mul_neg]at O X;omega
 ·have O:=CG h h;have X:=MF cJ.2 cJ.2 h D;omega
def ZF{r s:Int}(M:0<=r/\r<=4456448)(aH:0<=s/\s<=1099513724929):0<=r*s/\r*s<=4899925740432392192/\-r*s= -(r*s):=by have O:=CG M.1 aH.1;have X:=MF M.2 aH.2 aH.1 D;exact⟨O,by omega,Nm r s⟩
def aHy{p:lI}{q:Int}(h:q<0):FI p q 0=⟨-p.cV.aD.bW*(q*q)-p.cV.k9.bW,-p.cV.aD.bU*(q*q)-p.cV.k9.bU⟩:=if_pos h
def aHI{p:lI}{q:Int}(h:¬q<0):FI p q 0=⟨p.cV.aD.bU*(q*q)-p.cV.k9.bW,p.cV.aD.bW*(q*q)-p.cV.k9.bU⟩:=if_neg h
def aKH{p:lI}(h:Jj p){q:Int}(cJ:-1048577<=q/\q<=1048577):∀(k:Nat),k<=p.c3.l.length->
 -4899925740432392192-2199023255552*(k+1)<=(FI p q k).bU/\(FI p q k).bU<=(FI p q k).bW/\(FI p q k).bW<=4899925740432392192+2199023255552*(k+1)
 |0,_=>by
  have aH:=a0j cJ
  have M:=h.aD
  have aX:=h.k9
  have O:=ZF (r:=p.cV.aD.bU) D aH
  have X:=ZF (r:=p.cV.aD.bW) D aH
  have aU:p.cV.aD.bU*(q*q)<=p.cV.aD.bW*(q*q):=a3o M.2.1 aH.1
  unfold FI
  split<;>dsimp only<;>omega
 |k+1,aG=>by
  have c6:=aKH h cJ k D
  have a5:=Yg (h.qR k _ X4) (p.c3.l.getD k default).state q
  simp only[FI]
  omega
def aFa(p:lI)(q:Int)(L:aR)(R:aO)(a3:aL p.gN R)(aP:Jj p)(cJ:-1048577<=q/\q<=1048577):
 aM prog 114 [p.val,.int .i64 q].toArray L R (λv E G=>v=(HK p q).val/\L=E/\R=G):=by
 have aH:=a0j cJ;have M:=aP.aD;have aX:=aP.k9;have j1:=aP.len;have O:=ZF (r:=p.cV.aD.bU) D aH;have X:=ZF (r:=p.cV.aD.bW) D aH;refine b6 86 call114 func114 rfl rfl rfl ?_;apply(dB);intro eH;apply(dZ);intro eD;apply j8∘lD∘L5∘mO;iterate 3 apply(e7)
 apply kP∘ND;iterate 3 apply(e7)
 apply kP∘ND∘A4∘dZ;intro i1;apply rT∘Dt;refine U ?_ ?_<;>intro aQ;·
  apply(eB);iterate 3 apply(e7)
  apply kP∘wX∘ND;iterate 3 apply(e7)
  apply kP∘wX∘ND∘A4∘z8;exact aO6
 apply e0∘fD;exact aO6
def SE{x:Int}(h:0<=x):x.tdiv 2=x/2:=GY h
def D0(f:Int->Int)(hU b5 aE:Int):Int:=
 if h:b5<aE then(if f (b5+(aE-b5+1).tdiv 2)<=hU then D0 f hU (b5+(aE-b5+1).tdiv 2) aE else D0 f hU b5 (b5+(aE-b5+1).tdiv 2-1))else b5
termination_by (aE-b5).toNat
decreasing_by all_goals (have:=SE (x:=aE-b5+1) D;omega)
def EE(f:Int->Int)(hU b5 aE:Int):Int:=
 if h:b5<aE then(if hU<=f (b5+(aE-b5).tdiv 2)then EE f hU b5 (b5+(aE-b5).tdiv 2)else EE f hU (b5+(aE-b5).tdiv 2+1) aE)else b5
termination_by (aE-b5).toNat
decreasing_by all_goals (have:=SE (x:=aE-b5) D;omega)
def aKz{f:Int->Int}{hU b5 aE:Int}(h:b5<aE)(aF:f (b5+(aE-b5+1).tdiv 2)<=hU):D0 f hU b5 aE=D0 f hU (b5+(aE-b5+1).tdiv 2) aE:=by rw[D0,dif_pos h,if_pos aF]
def aKT{f:Int->Int}{hU b5 aE:Int}(h:b5<aE)(aF:¬f (b5+(aE-b5+1).tdiv 2)<=hU):D0 f hU b5 aE=D0 f hU b5 (b5+(aE-b5+1).tdiv 2-1):=by rw[D0,dif_pos h,if_neg aF]
def aKM{f:Int->Int}{hU b5 aE:Int}(h:¬b5<aE):D0 f hU b5 aE=b5:=by rw[D0,dif_neg h]
def aK3{f:Int->Int}{hU b5 aE:Int}(h:b5<aE)(aF:hU<=f (b5+(aE-b5).tdiv 2)):EE f hU b5 aE=EE f hU b5 (b5+(aE-b5).tdiv 2):=by rw[EE,dif_pos h,if_pos aF]
def aEc{f:Int->Int}{hU b5 aE:Int}(h:b5<aE)(aF:¬hU<=f (b5+(aE-b5).tdiv 2)):EE f hU b5 aE=EE f hU (b5+(aE-b5).tdiv 2+1) aE:=by rw[EE,dif_pos h,if_neg aF]
def aD4{f:Int->Int}{hU b5 aE:Int}(h:¬b5<aE):EE f hU b5 aE=b5:=by rw[EE,dif_neg h]
def rN(f:Int->bC)(hU:Int):Int:=D0 (λq=>(f q).bW) hU (-1048577) 1048576
def rO(f:Int->bC)(hU:Int):Int:=EE (λq=>(f q).bU) hU (-1048576) 1048577
def aG9(p:lI)(hU:Int)(L:aR)(R:aO)(a3:aL p.gN R)(aP:Jj p):
 aM prog 190 [p.val,.int .i64 hU].toArray L R (λv E G=>v=.int .i64 (rN (HK p) hU)/\L=E/\R=G):=by
 refine b6 28 call190 func190 rfl rfl rfl ?_;apply(dB);intro eH;apply mO∘dM∘dM;refine eZ (a8 (bK (fR ?_)));refine dS [(1,.int _ _),(2,.pointer _),(5,.int _ _),(6,.int _ _)] bV λfK=>?_;refine gY (cN 5 22) (λg:{g:Int×Int// -1048577<=g.1/\g.1<=g.2/\g.2<=1048576/\rN (HK p) hU=D0 (λq=>(HK p q).bW) hU g.1 g.2}=>[(5,.int .i64 g.1.1),(6,.int .i64 g.1.2)]) (λg=>(g.1.2-g.1.1).toNat) (⟨(-1048577,1048576),by omega,by omega,by omega,rfl⟩) ?_;rintro⟨⟨b5,aE⟩,O,X,aU,cK⟩ cH;try dsimp only
 apply(VT);refine U ?_ ?_<;>intro aQ;·
  dsimp only at O X aU cK aQ;have W:=SE (x:=aE-b5+1) D;refine eP (a8 (fR (bK (c2 ?_))));iterate 3 apply(cE)
  apply j3∘k3∘L6∘k3∘mO∘Mx∘cE;refine cD rfl (aFa p (b5+(aE-b5+1).tdiv 2) _ _ a3 aP D) ?_;exact aPR
 exact aRV
def aEj(p:lI)(hU:Int)(L:aR)(R:aO)(a3:aL p.gN R)(aP:Jj p):
 aM prog 191 [p.val,.int .i64 hU].toArray L R (λv E G=>v=.int .i64 (rO (HK p) hU)/\L=E/\R=G):=by
 refine b6 27 call191 func191 rfl rfl rfl ?_;apply(dB);intro eH;apply mO∘dM∘dM;refine eZ (a8 (bK (fR ?_)));refine dS [(1,.int _ _),(2,.pointer _),(5,.int _ _),(6,.int _ _)] bV λfK=>?_;refine gY (cN 5 21) (λg:{g:Int×Int// -1048576<=g.1/\g.1<=g.2/\g.2<=1048577/\rO (HK p) hU=EE (λq=>(HK p q).bU) hU g.1 g.2}=>[(5,.int .i64 g.1.1),(6,.int .i64 g.1.2)]) (λg=>(g.1.2-g.1.1).toNat) (⟨(-1048576,1048577),by omega,by omega,by omega,rfl⟩) ?_;rintro⟨⟨b5,aE⟩,O,X,aU,cK⟩ cH;try dsimp only
 apply(VT);refine U ?_ ?_<;>intro aQ;·
  dsimp only at O X aU cK aQ;have W:=SE (x:=aE-b5) D;refine eP (a8 (fR (bK (c2 ?_))));iterate 3 apply(cE)
  apply j3∘L6∘k3∘mO∘Mx∘cE;refine cD rfl (aFa p (b5+(aE-b5).tdiv 2) _ _ a3 aP D) ?_;exact aPS
 exact aR0
end Go.Proofs.YtchfclmokpbldaaGreat
namespace Go.Proofs.YtchfclmokpbldaaGreat
open Go.Aw Go Go.Proofs.Tryz
def ZB{a7:Type}{f:a7->Option Int}{l:List a7}(aF:∀x e,f x=some e->e≠0)(h:(l.findSome? f).getD 0=0):∀x∈l,f x=none:=by
 have b1:l.findSome? f=none:=by
  cases aH:l.findSome? f with
  |none=>rfl
  |some e=>rw[aH]at h;obtain⟨x,_,K⟩:=XR aH;exact absurd h (aF x e K)
 exact List.findSome?_eq_none_iff.1 b1
structure aGd(n:Nat)(r:qN):Prop where
 cR:0<=r.cR/\r.cR<n
 to:0<=r.to/\r.to<n
 ne:r.cR≠r.to
 aD:1<=r.aD.bU/\r.aD.bU<=r.aD.bW/\r.aD.bW<=262144
 k9:-2199023255552<=r.k9.bU/\r.k9.bU<=r.k9.bW/\r.k9.bW<=2199023255552
def aGi{s:bC}{b5 aE:Int}:P9 s b5 aE=true↔b5<=s.bU/\s.bU<=s.bW/\s.bW<=aE:=by simp[P9]
structure MV(m:h4):Prop where
 places:m.places.l.length<=64
 aJ:m.aJ.l.length<=128
 cV:∀(i:Nat) (r:qN),m.aJ.l[i]?=some r->aGd m.places.l.length r
def aUW{m:h4}(h:uI m=0):MV m:=by
 unfold uI at h;split at h;·cases h
 rename_i vN;split at h;·rename_i e W;subst h;obtain⟨x,_,K⟩:=XR W;unfold PF at K;split at K<;>cases K
 have qS:=ZB (f:=y2 m.places.l.length) (λx e K W=>by
  subst W;unfold y2 at K;split at K;·cases K
  ·split at K<;>cases K) h
 refine⟨by omega,by omega,λi r M=>?_⟩;have:=qS r (hV M);unfold y2 at this;split at this;·cases this
 rename_i O;split at this;·cases this
 rename_i X;have eV:P9 r.aD 1 262144=true:=by
  cases a5:P9 r.aD 1 262144 with
  |true=>rfl
  |false=>exact absurd (.inr (.inr (.inr (.inr (.inl a5))))) X
 have fN:P9 r.k9 (-2199023255552) 2199023255552=true:=by
  cases a5:P9 r.k9 (-2199023255552) 2199023255552 with
  |true=>rfl
  |false=>exact absurd (.inr (.inr (.inr (.inr (.inr a5))))) X
 exact⟨by omega,by omega,by omega,aGi.1 eV,aGi.1 fN⟩
structure a4n(d:kI):Prop where
 cV:0<=d.cV
 len:2<=d.hS.l.length/\d.hS.l.length<=6
 aD:∀(i:Nat) (x:Int),d.hS.l[i]?=some x->0<=x/\x<=262144
 b1I:zV d.hS.l d.hS.l.length=true
def aWo{l:List kI}(h:EB l=0):l.length<=16/\∀(i:Nat) (d:kI),l[i]?=some d->a4n d/\¬Kj l i d:=by
 unfold EB at h;split at h;·cases h
 rename_i vN;have rD:∀(x:Int) (e:Int),Dg x=some e->e=1:=λx e W=>by unfold Dg at W;split at W<;>cases W;rfl
 have qS:=ZB (f:=I8 l) (λi e K W=>by
  subst W;unfold I8 at K;split at K;·cases K
  ·
   split at K;·cases K
   ·
    split at K;·cases K
    ·
     split at K;·rename_i uQ uU;obtain⟨x,_,TV⟩:=XR uU;have:=rD x _ TV;cases K;cases this
     ·
      split at K;·cases K
      ·split at K<;>cases K) h
 refine⟨by omega,λi d bM=>?_⟩;obtain⟨aE,_⟩:=List.getElem?_eq_some_iff.1 bM;have:=qS i (List.mem_range.2 aE);rw[a6S bM]at this;split at this;·cases this
 rename_i O;split at this;·cases this
 rename_i X;split at this;·cases this
 rename_i aU;split at this;·cases this
 rename_i cK;split at this;·cases this
 rename_i fY;refine⟨⟨by omega,by omega,λk x K=>?_,by simpa using cK⟩,fY⟩;have:=List.findSome?_eq_none_iff.1 aU x (hV K);unfold Dg at this;exact Vy
def aIW{l:List Int}(h: ∀(i:Nat) (x:Int),l[i]? =some x->0<=x/\x<=262144): ∀(k:Nat),k<=l.length->1<=l.length->0<=U2 l k/\U2 l k<=l.getD 0 0/\l.getD 0 0<=U0 l k/\U0 l k<=262144
 |0,_,aX=>by have:=h 0 _ (bJ 0 D);simp only[U2,U0];omega
 |k+1,aG,aX=>by
  have c6:=aIW h k D aX
  have:=h k _ (bJ 0 D)
  simp only[U2,U0]
  omega
def a4A{d:kI}(h:a4n d)(s:Int):0<=(AA d s).bU/\(AA d s).bU<=(AA d s).bW/\(AA d s).bW<=262144:=by
 unfold AA;split;·simp
 ·
  rename_i cG;split;·have:=aIW h.aD d.hS.l.length (iK _) D;dsimp only;omega
  ·have:=h.aD s.toNat _ (bJ 0 D);dsimp only;omega
structure p3(a:b3):Prop where
 aC:MV a.aC
 XF:a.c3.l.length<=8
 qR:∀(i:Nat) (f:lR),a.c3.l[i]?=some f->RL f/\f.cV<a.aC.aJ.l.length
 T3:a.cM.l.length<=16
 H4:∀(i:Nat) (d:kI),a.cM.l[i]?=some d->a4n d/\d.cV<a.aC.aJ.l.length
def yR{a:b3}(h:h5 a=0):p3 a:=by
 unfold h5 at h;split at h;·exact Vx
 rename_i O;split at h;·cases h
 rename_i X;split at h;·
  rename_i e W;subst h;obtain⟨x,_,K⟩:=XR W;unfold Dy at K;split at K;·rename_i jF;exact absurd (yF K) jF
  ·split at K<;>cases K
 rename_i AP;split at h;·rename_i aU;exact absurd h aU
 rename_i aU;have nD:=aWo (by simpa using aU);have b3f:=ZB (f:=Cv a.aC.aJ.l.length) (λx e K W=>by subst W;unfold Cv at K;split at K<;>cases K) h;refine⟨aUW Xu,by omega,λi f aF=>?_,nD.1,λi d bM=>⟨(nD.2 i d bM).1,?_⟩⟩;·
  have:=List.findSome?_eq_none_iff.1 AP f (hV aF);unfold Dy at this;split at this;·cases this
  rename_i cK;split at this;·cases this
  exact⟨aZc (by simpa using cK),by omega⟩
 ·have:=b3f d (hV bM);unfold Cv at this;exact Vy
structure UQ(a:b3)(s:cS):Prop where
 aBx:s.c3.l.length=a.c3.l.length
 aBv:s.cM.l.length=a.cM.l.length
 qR:∀(i:Nat) (x:Int),s.c3.l[i]?=some x->-1<=x/\x<=2
 H4:∀(i:Nat) (x:Int) (d:kI),s.cM.l[i]?=some x->a.cM.l[i]?=some d->-1<=x/\x<d.hS.l.length
def Ip{a:b3}{s:cS}(h:l0 a s=true):UQ a s:=by
 unfold l0 at h;split at h;·cases h
 rename_i O;simp only[nH,Option.isNone_iff_eq_none]at h;refine⟨by omega,by omega,λi x K=>?_,λi x d K bM=>?_⟩;·have:=List.findSome?_eq_none_iff.1 h.1 x (hV K);unfold Iq at this;exact Vy
 ·obtain⟨aE,_⟩:=List.getElem?_eq_some_iff.1 K;have:=List.findSome?_eq_none_iff.1 h.2 i (List.mem_range.2 aE);rw[a0B K bM]at this;exact Vy
end Go.Proofs.YtchfclmokpbldaaGreat
namespace Go.Proofs.YtchfclmokpbldaaGreat
open Go.Aw Go Go.Proofs.Tryz
set_option maxRecDepth 20000
attribute [local irreducible] cQ dF dV aM cP eC e5 e1 e2 e6 eX e4
def oF(a:b3)(s:cS)(r:Int):Nat->bC
 |0=>(a.aC.aJ.l.getD r.toNat default).aD
 |k+1=>if(a.cM.l.getD k default).cV=r then⟨(oF a s r k).bU+(AA (a.cM.l.getD k default) (s.cM.l.getD k 0)).bU,(oF a s r k).bW+(AA (a.cM.l.getD k default) (s.cM.l.getD k 0)).bW⟩else oF a s r k
def a0D(aD k9:bC)(q:Int):bC:=
 if q<0 then⟨-(aD.bW*q*q)-k9.bW,-(aD.bU*q*q)-k9.bU⟩else⟨aD.bU*q*q-k9.bW,aD.bW*q*q-k9.bU⟩
def tC(a:b3)(s:cS)(r q:Int):Nat->bC
 |0=>a0D (oF a s r a.cM.l.length) (a.aC.aJ.l.getD r.toNat default).k9 q
 |k+1=>if(a.c3.l.getD k default).cV=r then⟨(tC a s r q k).bU-(vF (a.c3.l.getD k default) (s.c3.l.getD k 0) q).bW,(tC a s r q k).bW-(vF (a.c3.l.getD k default) (s.c3.l.getD k 0) q).bU⟩else tC a s r q k
def mN(a:b3)(s:cS)(r q:Int):bC:=tC a s r q a.c3.l.length
def ZD{a:b3}{s:cS}(h:p3 a){r:Int}(M:0<=r/\r<a.aC.aJ.l.length):∀(k:Nat),k<=a.cM.l.length->
 1<=(oF a s r k).bU/\(oF a s r k).bU<=(oF a s r k).bW/\(oF a s r k).bW<=262144*(k+1)
 |0,_=>by
  have:=(h.aC.cV r.toNat _ X4).aD
  simp only[oF];omega
 |k+1,aG=>by
  have c6:=ZD (s:=s) h M k D
  have a5:=a4A (h.H4 k _ X4).1 (s.cM.l.getD k 0)
  simp only[oF]
  split
  ·dsimp only;omega
  ·omega
def aHE{r q:Int}(M:0<=r/\r<=4456448)(cJ:-1048577<=q/\q<=1048577):-4672928874496<=r*q/\r*q<=4672928874496:=by
 rcases IY q 0 with h|h;·have O:=MF M.2 (show -q<=1048577 by omega) D D;have X:=CG M.1 (show 0<= -q by omega);rw[Wh]at O X;omega
 ·have O:=MF M.2 cJ.2 h D;have X:=CG M.1 h;omega
def a6D{a:b3}{s:cS}{r q:Int}(h:q<0):tC a s r q 0=⟨-((oF a s r a.cM.l.length).bW*q*q)-(a.aC.aJ.l.getD r.toNat default).k9.bW,-((oF a s r a.cM.l.length).bU*q*q)-(a.aC.aJ.l.getD r.toNat default).k9.bU⟩:=if_pos h
def a7A{a:b3}{s:cS}{r q:Int}(h:¬q<0):tC a s r q 0=⟨(oF a s r a.cM.l.length).bU*q*q-(a.aC.aJ.l.getD r.toNat default).k9.bW,(oF a s r a.cM.l.length).bW*q*q-(a.aC.aJ.l.getD r.toNat default).k9.bU⟩:=if_neg h
def aIy{a:b3}{s:cS}(h:p3 a){r q:Int}(M:0<=r/\r<a.aC.aJ.l.length)(cJ:-1048577<=q/\q<=1048577):∀(k:Nat),k<=a.c3.l.length->
 -4899925740432392192-2199023255552*(k+1)<=(tC a s r q k).bU/\(tC a s r q k).bU<=(tC a s r q k).bW/\(tC a s r q k).bW<=4899925740432392192+2199023255552*(k+1)
 |0,_=>by
  have aH:=a0j cJ
  have b1:=h.T3
  have TR:=ZD (s:=s) h M a.cM.l.length (iK _)
  have aX:=(h.aC.cV r.toNat _ X4).k9
  have O:=ZF (r:=(oF a s r a.cM.l.length).bU) D aH
  have X:=ZF (r:=(oF a s r a.cM.l.length).bW) D aH
  have aU:(oF a s r a.cM.l.length).bU*(q*q)<=(oF a s r a.cM.l.length).bW*(q*q):=a3o TR.2.1 aH.1
  rcases IY q 0 with c4|c4
  ·rw[a6D c4,XS,XS];dsimp only;omega
  ·rw[a7A D,XS,XS];dsimp only;omega
 |k+1,aG=>by
  have c6:=aIy (s:=s) h M cJ k D
  have a5:=Yg (h.qR k _ X4).1 (s.c3.l.getD k 0) q
  simp only[tC]
  split
  ·dsimp only;omega
  ·omega
def aDs(a:b3)(s:cS)(r q:Int)(L:aR)(R:aO)(a3:mZ a R)(aH:pQ s R)(bT:p3 a)(aF:UQ a s)(M:0<=r/\r<a.aC.aJ.l.length)(cJ:-1048577<=q/\q<=1048577):
 aM prog 290 [a.val,s.val,.int .i64 r,.int .i64 q].toArray L R (λv E G=>v=(mN a s r q).val/\L=E/\R=G):=by
 have QR:=a3.aJ;have uV:=a3.c3;have nD:=a3.cM;have Gt:=aH.c3;have Uo:=aH.cM;have tW:=bT.T3;have QT:=bT.XF;have a9Y:=aF.aBx;have b35:=aF.aBv;have mJ:=bJ (l:=a.aC.aJ.l) (k:=r.toNat) default D;have Aj:=(bT.aC.cV _ _ mJ).k9;have aNb:=a0j cJ;refine b6 138 call290 func290 rfl rfl rfl ?_;apply(dB);intro eD;apply(iV);intro gQ;apply(dZ);intro h6;apply j8∘BM;refine aI (by first|exact j4 N rfl rfl rfl rfl i9 (i:=r.toNat) dA D|exact i5 N rfl rfl rfl rfl (i:=r.toNat) dA D) rfl ?_;apply(SR);intro jR;apply sI∘z6∘dZ;intro i0;apply rT∘nP;refine dS [(2,.int _ _),(3,.int _ _),(4,.pointer _),(5,.pointer _),(8,.pointer _),(9,.pointer _),(10,.pointer _),(11,.int _ _)] bV λfK=>?_;refine k2 ([11,12]++cN 24 38) ((⟨λg=>[(11,.int .i64 ((g.1:Nat):Int))],λg=>⟨i0,[.int .i64 (oF a s r g.1).bU,.int .i64 (oF a s r g.1).bW],90⟩::⟨jR,(a.aC.aJ.l.getD r.toNat default).cells,157⟩::⟨h6,[.int .i64 0,.int .i64 0],90⟩::⟨gQ,s.cells,80⟩::⟨eD,a.cells,32⟩::L,λ_=>R,λg=>a.cM.l.length-g.1⟩:fB {k:Nat//k<=a.cM.l.length})) (⟨0,by omega⟩) ?_;rintro⟨k,aG⟩ cH;try dsimp only
 apply(q9);refine U ?_ ?_<;>intro aQ;·
  have K:=bJ (l:=a.cM.l) (k:=k) default D;have aS:=bJ (l:=s.cM.l) (k:=k) 0 D;have TR:=ZD (s:=s) bT M k D;have b3e:=a4A (bT.H4 _ _ K).1 (s.cM.l.getD k 0);apply FY∘GO∘VP∘nJ;refine U ?_ ?_<;>intro bL;·have e:oF a s r (k+1)=_:=if_pos bL;refine bK ?_;refine gZ N [0,1,2,3,4,5,6,7,8,9,10,11,12] _ dO bI hA ?_;apply l1∘Mv∘OO∘l1∘Mv∘k4;refine lW rfl (b05 (a.cM.l.getD k default) (s.cM.l.getD k 0) _ _ (nD.H4 K)) ?_;apply(qH);intro n3;apply uC∘wV;refine iS N [57,58,59] [0,1,2,3,4,5,6,7,8,9,10] [11,12,13] (_) _ dO bI bA aS2 ?_;apply PY∘XL∘mH∘FZ;refine m2 Wr rfl rfl rfl rfl ?_;exact(VS∘lA∘Be∘JN) aCO
  have e:oF a s r (k+1)=_:=if_neg bL;exact(mT) aCO
 obtain rfl:k=a.cM.l.length:=by omega
 have TR:=ZD (s:=s) bT M a.cM.l.length (iK _);have LP:=ZF (r:=(oF a s r a.cM.l.length).bU) D aNb;have y7:=ZF (r:=(oF a s r a.cM.l.length).bW) D aNb;have Sn:=aHE (r:=(oF a s r a.cM.l.length).bU) D cJ;have a8e:=aHE (r:=(oF a s r a.cM.l.length).bW) D cJ;rw[<-XS]at LP y7;apply n9∘gK∘L5∘ND∘gK∘L5∘ND∘A4∘dZ;intro C2;apply rT∘Dt;refine U ?_ ?_<;>intro cC;·apply eB∘fD∘wX∘fD∘wX∘A4∘HT∘aD6∘mH∘zM∘mH∘T9∘mH∘aBW∘FZ∘aB0∘VS∘lA∘Be∘L4∘nP;exact aO4
 apply wW∘aD6∘mH∘zM∘mH∘T9∘mH∘aBW∘FZ∘aB0∘VS∘lA∘Be∘L4∘nP;exact aO4
def aE8(a:b3)(s:cS)(r hU:Int)(L:aR)(R:aO)(a3:mZ a R)(aH:pQ s R)(bT:p3 a)(aF:UQ a s)(M:0<=r/\r<a.aC.aJ.l.length):
 aM prog 257 [a.val,s.val,.int .i64 r,.int .i64 hU].toArray L R (λv E G=>v=.int .i64 (rN (mN a s r) hU)/\L=E/\R=G):=by
 refine b6 34 call257 func257 rfl rfl rfl ?_;apply(dB);intro eD;apply(iV);intro gQ;apply mO∘dM∘dM;refine eZ (a8 (bK (fR ?_)));refine dS [(2,.int _ _),(3,.int _ _),(4,.pointer _),(5,.pointer _),(9,.int _ _),(10,.int _ _)] bV λfK=>?_;refine gY (cN 9 24) (λg:{g:Int×Int// -1048577<=g.1/\g.1<=g.2/\g.2<=1048576/\rN (mN a s r) hU=D0 (λq=>(mN a s r q).bW) hU g.1 g.2}=>[(9,.int .i64 g.1.1),(10,.int .i64 g.1.2)]) (λg=>(g.1.2-g.1.1).toNat) (⟨(-1048577,1048576),by omega,by omega,by omega,rfl⟩) ?_;rintro⟨⟨b5,aE⟩,O,X,aU,cK⟩ cH;try dsimp only
 apply(VT);refine U ?_ ?_<;>intro aQ;·
  dsimp only at O X aU cK aQ;have W:=SE (x:=aE-b5+1) D;refine eP (a8 (fR (bK (c2 ?_))));iterate 3 apply(cE)
  apply j3∘k3∘L6∘k3∘mO∘vC∘lD;refine cD rfl (aDs a s r (b5+(aE-b5+1).tdiv 2) _ _ a3 aH bT aF M D) ?_;exact aPR
 exact aRV
def aKf(a:b3)(s:cS)(r hU:Int)(L:aR)(R:aO)(a3:mZ a R)(aH:pQ s R)(bT:p3 a)(aF:UQ a s)(M:0<=r/\r<a.aC.aJ.l.length):
 aM prog 258 [a.val,s.val,.int .i64 r,.int .i64 hU].toArray L R (λv E G=>v=.int .i64 (rO (mN a s r) hU)/\L=E/\R=G):=by
 refine b6 33 call258 func258 rfl rfl rfl ?_;apply(dB);intro eD;apply(iV);intro gQ;apply mO∘dM∘dM;refine eZ (a8 (bK (fR ?_)));refine dS [(2,.int _ _),(3,.int _ _),(4,.pointer _),(5,.pointer _),(9,.int _ _),(10,.int _ _)] bV λfK=>?_;refine gY (cN 9 23) (λg:{g:Int×Int// -1048576<=g.1/\g.1<=g.2/\g.2<=1048577/\rO (mN a s r) hU=EE (λq=>(mN a s r q).bU) hU g.1 g.2}=>[(9,.int .i64 g.1.1),(10,.int .i64 g.1.2)]) (λg=>(g.1.2-g.1.1).toNat) (⟨(-1048576,1048577),by omega,by omega,by omega,rfl⟩) ?_;rintro⟨⟨b5,aE⟩,O,X,aU,cK⟩ cH;try dsimp only
 apply(VT);refine U ?_ ?_<;>intro aQ;·
  dsimp only at O X aU cK aQ;have W:=SE (x:=aE-b5) D;refine eP (a8 (fR (bK (c2 ?_))));iterate 3 apply(cE)
  apply j3∘L6∘k3∘mO∘vC∘lD;refine cD rfl (aDs a s r (b5+(aE-b5).tdiv 2) _ _ a3 aH bT aF M D) ?_;exact aPS
 exact aR0
end Go.Proofs.YtchfclmokpbldaaGreat
