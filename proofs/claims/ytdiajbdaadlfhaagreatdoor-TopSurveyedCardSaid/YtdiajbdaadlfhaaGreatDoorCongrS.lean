/-
  Merged texts. By an AI agent.
-/
import Derived.Test.YtdiajbdaadlfhaaGreatDoorLaw11b
import Derived.Test.YtdiajbdaadlfhaaGreatDoorFits
set_option linter.all false
set_option maxHeartbeats 4000000
set_option maxRecDepth 20000
namespace Go.Proofs.YtdiajbdaadlfhaaGreatDoor
open Go.Aw Go Go.Proofs.Tryz
section
variable{a:bT}{s:cG}{A:List Bool}{l m:List Int}{k:Nat}{v:Int}
def aGe(bV:rI l)(h:GK a s true l k=some v):l.getD k 0<=v/\0<=BK a s (l.set k v) (k:Int)/\∀w,l.getD k 0<=w->w<v->BK a s (l.set k w) (k:Int)<0:=by
 obtain⟨d,SE,VN,a8i,Sk,Sl⟩:=(a5H (Oe (bV.get k)).1 h).z1 rfl;have e:∀x,T8 a s true l (k:Int) x=Cy a s l (k:Int) x:=λx=>by rw[T8,if_pos rfl]
 rw[e,decide_eq_true_eq,tZ]at Sk;have es:mT true=1:=rfl;rw[es]at a8i Sl;refine⟨by omega,Sk,λw pN fJ=>?_⟩;have:=Sl (w-l.getD k 0) D D;rw[show l.getD k 0+1*(w-l.getD k 0)=w by omega,e,decide_eq_false_iff_not,tZ]at this;omega
def aFP(bV:rI l)(h:GK a s false l k=some v):v<=l.getD k 0/\BW a s (l.set k v) (k:Int)<=0/\∀w,w<=l.getD k 0->v<w->0<BW a s (l.set k w) (k:Int):=by
 obtain⟨d,SE,VN,a8i,Sk,Sl⟩:=(a5H (Oe (bV.get k)).1 h).z1 rfl;have e:∀x,T8 a s false l (k:Int) x=Da a s l (k:Int) x:=λx=>by rw[T8,if_neg aX]
 rw[e,decide_eq_true_eq,tZ]at Sk;have es:mT false= -1:=rfl;rw[es]at a8i Sl;refine⟨by omega,Sk,λw pN fJ=>?_⟩;have:=Sl (l.getD k 0-w) D D;rw[show l.getD k 0+ -1*(l.getD k 0-w)=w by omega,e,decide_eq_false_iff_not,tZ]at this;omega
end
def a5F{a:bT}{s:cG}{A:List Bool}{up:Bool}{l:List Int}: ∀{n:Nat} {m:List Int},qH a s A up l n=some m->∀k,k<=n->∃mk,qH a s A up l k=some mk/\∀j:Nat,j<k->m[j]? =mk[j]?
 |0,m,h,k,Y=>by
  obtain rfl:k=0:=by omega
  exact⟨m,h,λj a6=>by omega⟩
 |n+1,m,h,k,Y=>by
  rcases gX n k with G|G
  ·obtain rfl:k=n+1:=by omega
   exact⟨m,h,λ_ _=>rfl⟩
  ·have cD:=h
   rw[qH,We]at cD
   obtain⟨m3,dH,eH⟩:=cD
   obtain⟨mk,h5,iQ⟩:=a5F dH k G
   refine⟨mk,h5,λj a6=>?_⟩
   rw[<-iQ j a6]
   split at eH
   ·cases eH;rfl
   ·obtain⟨v,_,rfl⟩:=Option.map_eq_some_iff.1 eH
    rw[P7 D]
def aUf{a:bT}{s:cG}{A:List Bool}{up:Bool}{l:List Int}(aZ:rI l)(bA:l.length=a.aE.places.l.length)(h:qH a s A up l a.aE.places.l.length=some l){k:Nat}(Y:k<a.aE.places.l.length)(aH:¬vG a A k=true):GK a s up l k=some (l.getD k 0):=by
 obtain⟨m3,dH,eH⟩:=a5F h (k+1) D;have aKH:=dH;rw[qH,We]at aKH;obtain⟨sA,h5,iQ⟩:=aKH;obtain⟨bAF,g1,oA⟩:=a5F h k D;rw[h5]at g1;cases g1;have fL:=Of aZ h5;have em:sA=l:=Au λj=>by
  rcases gX j k with G|G;·exact(oA j G).symm
  ·exact fL.aC j G
 subst em;rw[if_neg aH]at iQ;obtain⟨v,cS,rfl⟩:=Option.map_eq_some_iff.1 iQ;have:=eH k D;rw[I8 D,bR (l:=sA) (k:=k) 0 D]at this;rw[cS,uA this]
structure YQ(a:bT)(A:List Bool)(up:Bool)(l m:List Int):Prop where
 len:m.length=l.length
 le:∀j:Nat,if up=true then l.getD j 0<=m.getD j 0 else m.getD j 0<=l.getD j 0
 fix:∀j:Nat,vG a A j=true->m.getD j 0=l.getD j 0
def YQ.refl{a:bT}{A:List Bool}{up:Bool}{l:List Int}:YQ a A up l l:=⟨rfl,λj=>by split<;>exact oH _,λ_ _=>rfl⟩
def YQ.trans{a:bT}{A:List Bool}{up:Bool}{l m n:List Int}(h:YQ a A up l m)(k:YQ a A up m n):YQ a A up l n:=by
 refine⟨k.len.trans h.len,λj=>?_,λj a6=>(k.fix j a6).trans (h.fix j a6)⟩;have G:=h.le j;have U:=k.le j;split at G;·rename_i e;rw[if_pos e]at U;rw[if_pos e];omega
 ·rename_i e;rw[if_neg e]at U;rw[if_neg e];omega
def aEB{a:bT}{s:cG}{A:List Bool}{up:Bool}{l:List Int}(aZ:rI l): ∀{n:Nat} {m:List Int},n<=l.length->qH a s A up l n=some m->YQ a A up l m
 |0,m,_,h=>by cases h;exact .refl
 |n+1,m,bA,h=>by
  have cD:=h
  rw[qH,We]at cD
  obtain⟨sA,dH,eH⟩:=cD
  have cA:=aEB aZ D dH
  have fL:=Of aZ dH
  have sU:=fL.len
  split at eH
  ·cases eH;exact cA
  ·rename_i aH
   obtain⟨v,cS,rfl⟩:=Option.map_eq_some_iff.1 eH
   refine cA.trans ⟨by simp,λj=>?_,λj a6=>?_⟩
   ·rw[Ht D]
    cases up with
    |true=>
     have:=(aGe fL.b5 cS).1
     simp only[if_true]
     split
     ·rename_i e;subst e;exact this
     ·exact oH _
    |false=>
     have:=(aFP fL.b5 cS).1
     simp only[Bool.false_eq_true,if_false]
     split
     ·rename_i e;subst e;exact this
     ·exact oH _
   ·rw[Ht D,if_neg (λe=>aH (by rw[<-e];exact a6))]
def a4Z{a:bT}{s:cG}{A:List Bool}{up:Bool}: ∀{n:Nat} {l m:List Int},rI l->l.length=a.aE.places.l.length->vA a s A up n l=some m->YQ a A up l m
 |0,l,m,_,_,h=>by cases h
 |n+1,l,m,aZ,bA,h=>by
  rw[vA]at h
  split at h
  ·cases h
  ·rename_i m3 G
   have aF:=Of aZ G
   have a1:=aEB aZ D G
   split at h
   ·cases h;exact a1
   ·exact a1.trans (a4Z aF.b5 (aF.len.trans bA) h)
def aIE{a:bT}{s:cG}{A:List Bool}{n:Nat}{l m:List Int}{up:Bool}(aZ:rI l)(bA:l.length=a.aE.places.l.length)(h:vA a s A up n l=some m){k:Nat}(Y:k<a.aE.places.l.length)(aH:¬vG a A k=true):
 if up=true then 0<=BK a s m (k:Int)else BW a s m (k:Int)<=0:=by
 obtain⟨G,U,aO⟩:=a7P aZ h;have K:=aUf U (G.trans bA) aO Y aH;cases up with
 |true=>have:=(aGe U K).2.1;rw[Oj]at this;simpa using this
 |false=>have:=(aFP U K).2.1;rw[Oj]at this;simpa using this
def a7Y{a:bT}{s:cG}{A:List Bool}{up:Bool}{ps:List Int}(h:Q7 a s ps A):(l8 a s A up ps).1=0\/(l8 a s A up ps).1=2:=by
 rw[l8,if_neg (by rw[Zr.2 h];decide)];split;·exact .inr rfl
 ·exact .inl rfl
def Q7.aA8{a:bT}{s:cG}{A:List Bool}{up:Bool}{l:List Int}(h:Q7 a s l A){n:Nat}{m:List Int}(a1:vA a s A up n l=some m):Q7 a s m A:=by obtain⟨G,U,_⟩:=a7P h.aG a1;have aO:=a4Z h.aG h.aZ a1;exact⟨h.bV,h.aH,G.trans h.aZ,U,λi aB aH=>(aO.fix i aH).trans (h.fix i aB aH)⟩
def aVS{a:bT}{s:cG}{A:List Bool}(bV:h4 a=0)(aH:mP a s=true):Q7 a s (List.replicate a.aE.places.l.length 0) A:=by
 refine⟨bV,aH,by simp,λp aG=>?_,λi aB _=>?_⟩;·rw[(List.mem_replicate.1 aG).2];decide
 ·rw[lN,K5];split<;>rfl
structure a5S(a:bT)(s:cG)(A:List Bool)(cN aB:List Int):Prop where
 Vf:Q7 a s cN A
 bM:Q7 a s aB A
 le:∀i:Nat,cN.getD i 0<=aB.getD i 0
 bJ:∀i:Nat,i<a.aE.places.l.length->¬vG a A i=true->BW a s cN (i:Int)<=0
 bN:∀i:Nat,i<a.aE.places.l.length->¬vG a A i=true->0<=BK a s aB (i:Int)
def aZC{a:bT}{s:cG}{A:List Bool}(bV:h4 a=0)(aH:mP a s=true):((uM a s A).1=0/\a5S a s A (uM a s A).2.1 (uM a s A).2.2)\/(uM a s A).1=2:=by
 have aOg:=aVS (A:=A) bV aH;rw[uM];dsimp only;rcases a7Y (up:=false) aOg with dH|dH;·
  rw[if_neg D];obtain⟨_,s1⟩:=a5s dH;have Md:=aOg.aA8 s1;rcases a7Y (up:=true) Md with eH|eH;·
   rw[if_neg D];obtain⟨_,oF⟩:=a5s eH;have XK:=Md.aA8 oF;rcases a7Y (up:=false) XK with nS|nS;·
    rw[if_neg D];obtain⟨_,CM⟩:=a5s nS;have b6B:=XK.aA8 CM;left;refine⟨rfl,b6B,XK,λi=>?_,λi aB bA=>?_,λi aB bA=>?_⟩;·have:=(a4Z XK.aG XK.aZ CM).le i;simpa using this
    ·have:=aIE XK.aG XK.aZ CM aB bA;simpa using this
    ·have:=aIE Md.aG Md.aZ oF aB bA;simpa using this
   ·rw[if_pos D];exact .inr nS
  ·rw[if_pos D];exact .inr eH
 ·rw[if_pos D];exact .inr dH
def a5S.aZT{a:bT}{s:cG}{A:List Bool}{cN aB:List Int}(h:a5S a s A cN aB){b:q2}(dH:b.bJ.l=cN)(eH:b.bN.l=aB):Xr a s b A:=by
 refine⟨⟨h.Vf.bV,h.Vf.aH,by rw[dH];exact h.Vf.aZ,by rw[eH];exact h.bM.aZ,by rw[dH];exact h.Vf.aG,by rw[eH];exact h.bM.aG⟩,λi PN aH=>?_,λi PN aH=>?_⟩;·rw[dH,eH];exact⟨h.Vf.fix i PN aH,h.bM.fix i PN aH⟩
 ·rw[dH,eH];exact⟨h.bN i PN aH,h.bJ i PN aH⟩
section
variable{a:bT}{s:cG}{x:tE}(h:Q3 a s x)
include h
include h
end
section
attribute [local irreducible] cO dG dP aM cI dR fA e2 e5 fB eQ e9 J.L
end
section
variable(b ZF:Nat)
end
section
attribute [local irreducible] cO dG dP aM cI dR fA e2 e5 fB eQ e9 J.L
def aSj(x y:bP Int)(L:aW)(R:aP)(K:aN (dW x) R)(bB:aN (dW y) R)(V:x.l=y.l):
 aM prog 15 [x.val,y.val].toArray L R (λv E R'=>v=.bool true/\L=E/\R=R'):=by
 have yI:x.l.length=y.l.length:=by rw[V]
 refine rZ call15 K λxY=>?_;refine cX 26 call15 func15 rfl rfl rfl ?_;apply E8∘mY∘j0∘j0∘pG;refine aJ ?_ ?_<;>intro bI;·apply(RT);refine m5 L R ?_;exact absurd bI D
 apply k5∘pR;refine e3 [(0,.slice _ _ _),(1,.slice _ _ _),(5,.int _ _)] cB λg9=>?_;refine lF ([4,5]++dJ 11 15) (λg:{k:Nat//k<=x.l.length}=>[(5,.int .i64 ((g.1:Nat):Int))]) (λg=>x.l.length-g.1) (⟨0,by omega⟩) ?_;rintro⟨k,Y⟩ c1;try dsimp only
 apply nR∘j0∘nD;refine aJ ?_ ?_<;>intro cK;·
  have G:=bR (l:=x.l) (k:=k) 0 D;have U:=bR (l:=y.l) (k:=k) 0 D;rw[<-V]at U;rw[V]at U;refine gG (bY (cC (iH (cC ?_))));refine jR M [0,1,2,3,4,5,6,7,8] _ mixed aQ iP ?_;refine b7 qX rfl rfl rfl ?_;apply j7∘XI∘s0;refine b7 qX rfl rfl rfl ?_;apply j7∘XI∘s0;refine b7 X1 rfl rfl rfl ?_;apply(A9);refine aJ ?_ ?_<;>intro dE;·apply(OH);refine m5 L R ?_;exact absurd (show x.l.getD k 0=y.l.getD k 0 by rw[V]) dE
  exact aBS
 exact a4B
end
structure iI where
 aS:Int
 bK:Int
 to:Int
 deriving DecidableEq,Inhabited
def iI.cells(a:iI):List Value:=[.int .i64 a.aS,.int .i64 a.bK,.int .i64 a.to]
abbrev Ci(x:bP iI):eT:=x.eJ 3 iI.cells []
def N8(m:eC)(fl:List bG)(i:Nat):List iI:=
 if(m.Z.l.getD i default).dZ=true then[]else
 (if 0<(fl.getD i default).bN then[(⟨i,(m.Z.l.getD i default).bK,(m.Z.l.getD i default).to⟩:iI)]else[])++(if(fl.getD i default).bJ<0 then[⟨i,(m.Z.l.getD i default).to,(m.Z.l.getD i default).bK⟩]else[])
def GB(m:eC)(fl:List bG):Nat->List iI
 |0=>[]
 |k+1=>GB m fl k++N8 m fl k
abbrev J0(m:eC)(fl:List bG):List iI:=GB m fl m.Z.l.length
def aG2{m:eC}{fl:List bG}{a:iI}: ∀{k:Nat},a∈GB m fl k↔∃i:Nat,i<k/\a∈N8 m fl i
 |0=>⟨λh=>BF,λ⟨i,h,_⟩=>D⟩
 |k+1=>by
  rw[GB,D7,aG2]
  refine⟨λh=>?_,λ⟨i,G,U⟩=>?_⟩
  ·rcases h with⟨i,G,U⟩|h
   ·exact⟨i,by omega,U⟩
   ·exact⟨k,by omega,h⟩
  ·rcases gX i k with h|h
   ·exact .inl ⟨i,h,U⟩
   ·obtain rfl:i=k:=by omega
    exact .inr U
def a0s(m:eC)(fl:List bG)(i:Nat)(hX:Bool):Bool:=
 !(m.Z.l.getD i default).dZ && (if hX=true then decide ((fl.getD i default).bJ<0)else decide (0<(fl.getD i default).bN))
def Oq(m:eC)(i:Nat)(hX:Bool):Int:=if hX=true then(m.Z.l.getD i default).to else(m.Z.l.getD i default).bK
def Rm(m:eC)(i:Nat)(hX:Bool):Int:=if hX=true then(m.Z.l.getD i default).bK else(m.Z.l.getD i default).to
def a6l{m:eC}{fl:List bG}{a:iI}{i:Nat}:a∈N8 m fl i↔∃hX,a0s m fl i hX=true/\a=⟨i,Oq m i hX,Rm m i hX⟩:=by
 unfold N8 a0s Oq Rm;constructor;·
  intro h;split at h;·cases h
  ·
   rename_i bU;rcases List.mem_append.1 h with h|h;·
    split at h;·rename_i G;exact⟨false,by rw[if_neg aX,lY,decide_eq_true_eq];exact⟨by simpa using bU,G⟩,by simpa using h⟩
    ·cases h
   ·
    split at h;·rename_i G;exact⟨true,by rw[if_pos rfl,lY,decide_eq_true_eq];exact⟨by simpa using bU,G⟩,by simpa using h⟩
    ·cases h
 ·
  rintro⟨hX,h,rfl⟩;cases hX with
  |false=>simp only[Bool.false_eq_true,if_false,lY,Gt,decide_eq_true_eq]at h;rw[if_neg (by rw[h.1];decide),if_pos h.2];simp
  |true=>simp only[if_true,lY,Gt,decide_eq_true_eq]at h;rw[if_neg (by rw[h.1];decide),if_pos h.2];simp
def a44{m:eC}{fl:List bG}{a:iI}:a∈J0 m fl↔∃(i:Nat) (hX:Bool),i<m.Z.l.length/\a0s m fl i hX=true/\a=⟨i,Oq m i hX,Rm m i hX⟩:=by rw[J0,aG2];exact⟨λ⟨i,G,U⟩=>let ⟨b,aO,bW⟩:=a6l.1 U;⟨i,b,G,aO,bW⟩,λ⟨i,b,G,aO,bW⟩=>⟨i,G,a6l.2 ⟨b,aO,bW⟩⟩⟩
def aHR{m:eC}{fl:List bG}: ∀k,(GB m fl k).Pairwise (λa b=>a.aS<=b.aS)/\∀a∈GB m fl k,a.aS<(k:Int)
 |0=>⟨List.Pairwise.nil,λa h=>by cases h⟩
 |k+1=>by
  obtain⟨G,U⟩:=aHR (m:=m) (fl:=fl) k
  have aO:∀a∈N8 m fl k,a.aS=(k:Int):=λa bX=>by
   obtain⟨b,_,e⟩:=a6l.1 bX
   rw[e]
  refine⟨?_,λa bX=>?_⟩
  ·rw[GB,a35]
   refine⟨G,?_,λa bX b aT=>by have:=U a bX;have:=aO b aT;omega⟩
   exact List.Pairwise.imp_of_mem (R:=λ_ _=>True) (λbX aT _=>by have:=aO _ bX;have:=aO _ aT;omega) (List.pairwise_of_forall (λ_ _=>trivial))
  ·rw[GB,D7]at bX
   rcases bX with bX|bX
   ·have:=U a bX;omega
   ·have:=aO a bX;omega
def Ra(m:eC)(l:List iI)(w:Int)(u v:Nat):Prop:=∃a∈l,a.aS≠w/\a.bK=(u:Int)/\a.to=(v:Int)/\(m.places.l.getD v default).m7=false
inductive NW(m:eC)(l:List iI)(w:Int)(u:Nat):Nat->Prop
 |refl:NW m l w u u
 |tail {v x:Nat} (h:NW m l w u v) (k:Ra m l w v x):NW m l w u x
def NW.dZ{m:eC}{l:List iI}{w:Int}{P:Nat->Prop}(kR:∀u v,P u->Ra m l w u v->P v){u v:Nat}(h:NW m l w u v)(cZ:P u):P v:=by
 induction h with
 |refl=>exact cZ
 |tail _ s cA=>exact kR _ _ cA s
structure Pf(m:eC)(l:List iI)(w:Int)(seen c9:List Bool):Prop where
 len:c9.length=seen.length
 qC:∀i:Nat,i<seen.length->(c9.getD i false=true↔∃j:Nat,j<seen.length/\seen.getD j false=true/\NW m l w j i)
structure Q6(m:eC)(l:List iI)(w:Int)(seen c9:List Bool):Prop where
 len:c9.length=seen.length
 sub:∀i:Nat,seen.getD i false=true->c9.getD i false=true
 a8t:∀i:Nat,c9.getD i false=true->∃j:Nat,j<seen.length/\seen.getD j false=true/\NW m l w j i
section
variable{m:eC}{l:List iI}{w:Int}{seen c9:List Bool}
def Q6.M4:Q6 m l w seen seen:=⟨rfl,λ_ h=>h,λi h=>⟨i,aWv h,h,.refl⟩⟩
def Q6.next(h:Q6 m l w seen c9){u v:Nat}(aF:Ra m l w u v)(cZ:c9.getD u false=true)(cS:v<c9.length):Q6 m l w seen (c9.set v true):=by
 refine⟨by simp[h.len],λi aB=>?_,λi aB=>?_⟩;·
  rw[Rv cS];split;·rfl
  ·exact h.sub i aB
 ·
  rw[Rv cS]at aB;split at aB;·rename_i e;obtain⟨j,G,U,aO⟩:=h.a8t u cZ;exact⟨j,G,U,by rw[e];exact aO.tail aF⟩
  ·exact h.a8t i aB
def Q6.done(h:Q6 m l w seen c9)(O:∀u v:Nat,Ra m l w u v->c9.getD u false=true->c9.getD v false=true):Pf m l w seen c9:=
 ⟨h.len,λi _=>⟨h.a8t i,λ⟨j,_,U,aO⟩=>NW.dZ (P:=λx=>c9.getD x false=true) (λu v cZ aF=>O u v aF cZ) aO (h.sub j U)⟩⟩
end
def UM(m:eC)(fl:List bG)(i:Nat)(hX:Bool):Prop:=
 a0s m fl i hX=true/\(m.places.l.getD (Oq m i hX).toNat default).m7=false/\(m.places.l.getD (Rm m i hX).toNat default).m7=false/\NW m (J0 m fl) i (Rm m i hX).toNat (Oq m i hX).toNat
def LZ(n v:Nat):List Bool:=(List.replicate n false).set v true
def aDr{n v i:Nat}(cS:v<n):(LZ n v).getD i false=true↔i=v:=by
 rw[LZ,Rv (by simp;exact cS)];split;·rename_i e;exact⟨λ_=>e,λ_=>rfl⟩
 ·rename_i e;rw[lN,K5];refine⟨λh=>?_,λh=>absurd h e⟩;split at h<;>simp at h
def aWq{m:eC}{l:List iI}{w:Int}{n u v:Nat}{c9:List Bool}(h:Pf m l w (LZ n v) c9)(cS:v<n)(cZ:u<n):c9.getD u false=true↔NW m l w v u:=by
 have aZ:(LZ n v).length=n:=by simp[LZ]
 refine(h.qC u D).trans ⟨λ⟨j,_,U,aO⟩=>?_,λaO=>⟨v,by omega,(aDr cS).2 rfl,aO⟩⟩;rw[(aDr cS).1 U]at aO;exact aO
structure EF(m:eC)(fl:List bG)(C:List Int):Prop where
 up:C.Pairwise (·< ·)
 qC:∀x:Int,x∈C↔∃(i:Nat) (hX:Bool),x=(i:Int)/\i<m.Z.l.length/\UM m fl i hX
def aHl: ∀{l DV:List Int},l.Pairwise (·< ·)->DV.Pairwise (·< ·)->(∀x,x∈l↔x∈DV)->l=DV
 |[],[],_,_,_=>rfl
 |[],b::r,_,_,h=>by have:=(h b).2 eY;cases this
 |a::r,[],_,_,h=>by have:=(h a).1 eY;cases this
 |a::r,b::s,G,U,h=>by
  rw[List.pairwise_cons]at G U
  have e:a=b:=by
   have bX:=(h a).1 eY
   have aT:=(h b).2 eY
   rcases List.mem_cons.1 bX with e|bX
   ·exact e
   rcases List.mem_cons.1 aT with e|aT
   ·exact e.symm
   have:=U.1 a bX
   have:=G.1 b aT
   omega
  subst e
  refine congrArg (a:: ·) (aHl G.2 U.2 λx=>⟨λK=>?_,λK=>?_⟩)
  ·rcases List.mem_cons.1 ((h x).1 (by simp[K]))with e|cD
   ·have:=G.1 x K;omega
   ·exact cD
  ·rcases List.mem_cons.1 ((h x).2 (by simp[K]))with e|cD
   ·have:=U.1 x K;omega
   ·exact cD
def EF.XM{m:eC}{fl:List bG}{C a4P:List Int}(h:EF m fl C)(cD:EF m fl a4P):C=a4P:=
 aHl h.up cD.up λx=>(h.qC x).trans (cD.qC x).symm
structure NT(m:eC)(fl:List bG)(k:Nat)(C:List Int):Prop where
 up:C.Pairwise (·< ·)
 lt:∀x∈C,x<(k:Int)
 len:C.length<=k
 qC:∀x:Int,x∈C↔∃(i:Nat) (hX:Bool),x=(i:Int)/\i<k/\UM m fl i hX
def NT.zero{m:eC}{fl:List bG}:NT m fl 0 []:=⟨List.Pairwise.nil,λx h=>BF,gS _,λx=>⟨λh=>BF,λ⟨i,b,_,h,_⟩=>D⟩⟩
def NT.z1{m:eC}{fl:List bG}{k:Nat}{C:List Int}(h:NT m fl k C)(Y:UM m fl k false\/UM m fl k true):NT m fl (k+1) (C++[(k:Int)]):=by
 refine⟨?_,λx K=>?_,by have:=h.len;simp;omega,λx=>?_⟩;·rw[a35];exact⟨h.up,List.pairwise_singleton _ _,λa bX b aT=>by rw[List.mem_singleton.1 aT];exact h.lt a bX⟩
 ·
  rcases List.mem_append.1 K with K|K;·have:=h.lt x K;omega
  ·have:=List.mem_singleton.1 K;omega
 ·
  rw[D7,h.qC,XU];refine⟨λG=>?_,λ⟨i,b,G,U,aO⟩=>?_⟩;·
   rcases G with⟨i,b,G,U,aO⟩|G;·exact⟨i,b,G,by omega,aO⟩
   ·
    rcases Y with Y|Y;·exact⟨k,_,G,by omega,Y⟩
    ·exact⟨k,_,G,by omega,Y⟩
  ·
   rcases gX i k with bW|bW;·exact .inl ⟨i,b,G,bW,aO⟩
   ·exact .inr D
def NT.no{m:eC}{fl:List bG}{k:Nat}{C:List Int}(h:NT m fl k C)(G:¬UM m fl k false)(U:¬UM m fl k true):NT m fl (k+1) C:=by
 refine⟨h.up,λx K=>by have:=h.lt x K;omega,by have:=h.len;omega,λx=>(h.qC x).trans ⟨λ⟨i,b,hO,a2,a3⟩=>⟨i,b,hO,by omega,a3⟩,λ⟨i,b,hO,a2,a3⟩=>?_⟩⟩;rcases gX i k with bW|bW;·exact⟨i,b,hO,bW,a3⟩
 ·
  obtain rfl:i=k:=by omega
  cases b with
  |false=>exact absurd a3 G
  |true=>exact absurd a3 U
def NT.done{m:eC}{fl:List bG}{C:List Int}(h:NT m fl m.Z.l.length C):EF m fl C:=⟨h.up,h.qC⟩
def a01(m:eC)(l:List iI)(a:iI):Prop:=(m.places.l.getD a.bK.toNat default).m7=false/\(m.places.l.getD a.to.toNat default).m7=false/\NW m l a.aS a.to.toNat a.bK.toNat
def aW2{m:eC}{fl:List bG}{x:Int}:(∃a∈J0 m fl,a.aS=x/\a01 m (J0 m fl) a)↔∃(i:Nat) (hX:Bool),x=(i:Int)/\i<m.Z.l.length/\UM m fl i hX:=by
 constructor;·rintro⟨a,bX,rfl,G,U,aO⟩;obtain⟨i,b,aB,bU,rfl⟩:=a44.1 bX;exact⟨i,b,rfl,aB,bU,G,U,aO⟩
 ·rintro⟨i,b,rfl,aB,bU,G,U,aO⟩;exact⟨_,a44.2 ⟨i,b,aB,bU,rfl⟩,rfl,G,U,aO⟩
structure GH(m:eC)(l:List iI)(k:Nat)(qZ:List iI):Prop where
 sub:qZ.Sublist (l.take k)
 qC:∀a:iI,a∈qZ↔a∈l.take k/\a01 m l a
def GH.zero{m:eC}{l:List iI}:GH m l 0 []:=⟨aCe _,λa=>⟨λh=>BF,λh=>(by simp at h)⟩⟩
def YI{aY:Type}{l:List aY}{k:Nat}{x:aY}(h:l[k]?=some x):l.take (k+1)=l.take k++[x]:=by rw[BA,h];rfl
def GH.z1{m:eC}{l:List iI}{k:Nat}{qZ:List iI}{a:iI}(h:GH m l k qZ)(bX:l[k]?=some a)(bU:a01 m l a):GH m l (k+1) (qZ++[a]):=by
 refine⟨by rw[YI bX];exact h.sub.append_right _,λx=>?_⟩;rw[YI bX,D7,D7,h.qC,XU];refine⟨λG=>?_,λ⟨G,U⟩=>?_⟩;·
  rcases G with G|G;·exact⟨.inl G.1,G.2⟩
  ·exact⟨.inr G,by rw[G];exact bU⟩
 ·
  rcases G with G|G;·exact .inl ⟨G,U⟩
  ·exact .inr G
def GH.no{m:eC}{l:List iI}{k:Nat}{qZ:List iI}{a:iI}(h:GH m l k qZ)(bX:l[k]?=some a)(bU:¬a01 m l a):GH m l (k+1) qZ:=by
 refine⟨by rw[YI bX];exact h.sub.trans (a3M _ _),λx=>?_⟩;rw[YI bX,D7,h.qC,XU];refine⟨λG=>⟨.inl G.1,G.2⟩,λ⟨G,U⟩=>?_⟩;rcases G with G|G;·exact⟨G,U⟩
 ·rw[G]at U;exact absurd U bU
structure JR(qZ:List iI)(k:Nat)(C:List Int):Prop where
 up:C.Pairwise (·< ·)
 len:C.length<=k
 wV:∀x∈C,∀a∈qZ.drop k,x<=a.aS
 qC:∀x:Int,x∈C↔∃a∈qZ.take k,a.aS=x
def JR.zero{qZ:List iI}:JR qZ 0 []:=⟨List.Pairwise.nil,gS _,λx h=>BF,λx=>⟨λh=>BF,λ⟨a,h,_⟩=>(by simp at h)⟩⟩
def JR.z1{qZ:List iI}{k:Nat}{C:List Int}{a:iI}(h:JR qZ k C)(Tb:qZ.Pairwise (λa b=>a.aS<=b.aS))(bX:qZ[k]?=some a)(bU:C=[]\/C.getLast?≠some a.aS):JR qZ (k+1) (C++[a.aS]):=by
 have KH:=OT bX;have jT:∀x∈C,x<a.aS:=λx K=>by
  have G:=h.wV x K a (by rw[KH];simp);rcases Int.lt_or_eq_of_le G with G|G;·exact G
  ·
   exfalso;rcases bU with bU|bU;·rw[bU]at K;cases K
   ·
    refine bU ?_
    -- the greatest one stands last
    have jC:C≠[]:=Gp K;rw[List.getLast?_eq_some_getLast jC];have U:=h.wV _ (List.getLast_mem jC) a (by rw[KH];simp);have PL:C=C.dropLast++[C.getLast jC]:=(List.dropLast_concat_getLast jC).symm;have a2X:=h.up;rw[PL,a35]at a2X;rw[PL,D7,XU]at K;rcases K with K|K;·have:=a2X.2.2 x K _ (List.mem_singleton.2 rfl);omega
    ·rw[<-K,G]
 refine⟨?_,by have:=h.len;simp;omega,λx K b aT=>?_,λx=>?_⟩;·rw[a35];exact⟨h.up,List.pairwise_singleton _ _,λx K b aT=>by rw[List.mem_singleton.1 aT];exact jT x K⟩
 ·
  have Kk:a.aS<=b.aS:=by have G:(qZ.drop k).Pairwise (λa b=>a.aS<=b.aS):=Tb.sublist (List.drop_sublist _ _);rw[KH,List.pairwise_cons]at G;exact G.1 b aT
  rcases List.mem_append.1 K with K|K;·have:=jT x K;omega
  ·rw[List.mem_singleton.1 K];exact Kk
 ·
  rw[YI bX,D7,h.qC,XU];refine⟨λG=>?_,λ⟨b,G,U⟩=>?_⟩;·
   rcases G with⟨b,G,U⟩|G;·exact⟨b,oI _ G,U⟩
   ·exact⟨a,by simp,G.symm⟩
  ·
   rcases List.mem_append.1 G with G|G;·exact .inl ⟨b,G,U⟩
   ·rw[List.mem_singleton.1 G]at U;exact .inr U.symm
def JR.no{qZ:List iI}{k:Nat}{C:List Int}{a:iI}(h:JR qZ k C)(bX:qZ[k]?=some a)(bU:C.getLast?=some a.aS):JR qZ (k+1) C:=by
 have KH:=OT bX;refine⟨h.up,by have:=h.len;omega,λx K b aT=>h.wV x K b (by rw[KH];simp[aT]),λx=>?_⟩;rw[YI bX,h.qC];refine⟨λ⟨b,G,U⟩=>⟨b,oI _ G,U⟩,λ⟨b,G,U⟩=>?_⟩;rcases List.mem_append.1 G with G|G;·exact⟨b,G,U⟩
 ·rw[List.mem_singleton.1 G]at U;exact(h.qC x).1 (by rw[<-U];exact List.mem_of_getLast? bU)
def JR.done{m:eC}{fl:List bG}{qZ:List iI}{C:List Int}(Tb:GH m (J0 m fl) (J0 m fl).length qZ)(h:JR qZ qZ.length C):EF m fl C:=by refine⟨h.up,λx=>?_⟩;rw[<-aW2,h.qC,BB];have G:=Tb.qC;rw[BB]at G;exact⟨λ⟨a,hO,a2⟩=>⟨a,((G a).1 hO).1,a2,((G a).1 hO).2⟩,λ⟨a,hO,a2,a3⟩=>⟨a,(G a).2 ⟨hO,a3⟩,a2⟩⟩
def GH.b6E{m:eC}{fl:List bG}{k:Nat}{qZ:List iI}(h:GH m (J0 m fl) k qZ):qZ.Pairwise (λa b=>a.aS<=b.aS):=
 (aHR m.Z.l.length).1.sublist (h.sub.trans (List.take_sublist _ _))
section
attribute [local irreducible] cO dG dP aM cI dR fA e2 e5 fB eQ e9 J.L
def aXd{a:bT}{s:cG}{b ZF:q2}{A:List Bool}(G:b.bJ.l=ZF.bJ.l)(U:b.bN.l=ZF.bN.l):GN a s b A=GN a s ZF A:=by
 have dH:wE a s b A=wE a s ZF A:=funext λi=>by rw[wE,wE,G,U]
 have eH:wI a s b A=wI a s ZF A:=by rw[wI,wI,G,U,dH]
 have nS:w7 a s b A=w7 a s ZF A:=funext λi=>by rw[w7,w7,G,U]
 rw[GN,GN,eH,nS]
def OX(a:bT)(s:cG)(A:List Bool):q2:=⟨⟨none,0,(uM a s A).2.1⟩,⟨none,0,(uM a s A).2.2⟩⟩
def GJ(a:bT)(k:Nat):bG:=if(a.aE.Z.l.getD k default).dZ=true then⟨0,0⟩else sX
def pB(a:bT)(s:cG)(A:List Bool):Int×List bG:=
 if h4 a≠0 then(h4 a,[])else if mP a s=false then(21,[])else if(uM a s A).1=0 then(0,GN a s (OX a s A) A)
 else(0,(List.range a.aE.Z.l.length).map (GJ a))
def RF(L:aW)(R:aP):
 aM prog 39 [].toArray L R (λv E R'=>v=sX.val/\L=E/\R=R'):=by refine cX 2 call39 func39 rfl rfl rfl ?_;apply(J8);intro a1C;apply iG∘CH∘y5;refine cF L R mM ?_;exact BJ
structure T3(a:bT)(i:Nat)(l:List bG):Prop where
 len:l.length=a.aE.Z.l.length
 ML:∀j:Nat,j<i->l[j]?=some (GJ a j)
 TF:∀j:Nat,i<=j->j<a.aE.Z.l.length->l[j]?=some ⟨0,0⟩
def T3.next{a:bT}{i:Nat}{l:List bG}(h:T3 a i l)(aB:i<a.aE.Z.l.length){x:bG}(K:x=GJ a i):T3 a (i+1) (l.set i x):=by exact aOC
def T3.F5{a:bT}{i:Nat}{l:List bG}(h:T3 a i l)(aB:i<a.aE.Z.l.length)(K:(⟨0,0⟩:bG)=GJ a i):T3 a (i+1) l:=by exact aOG
def T3.done{a:bT}{l:List bG}(h:T3 a a.aE.Z.l.length l):l=(List.range a.aE.Z.l.length).map (GJ a):=by
 have aZ:=h.len;refine Au λj=>?_;rcases gX j a.aE.Z.l.length with a6|a6;·rw[h.ML j a6,pW,P8 a6];rfl
 ·rw[u1 D,u1 EB]
def Qf(a:bT)(s:cG)(A:List Bool)(L:aW)(R:aP)(a1:qF a R)(aF:u3 s R)(hD:h4 a=0->mU a.aE A):
 aM prog 12 [a.val,s.val].toArray L R (λw E R'=>∃p:J bG,w=.tuple #[p.val,.int .i64 (pB a s A).1]/\p.ok 2 bG.cells/\p.l=(pB a s A).2/\p.L 51 bG.cells++L=E/\R=R'):=by
 have WD:=a1.Z;refine cX 56 call12 func12 rfl rfl rfl ?_;apply(fC);intro eN;apply(nW);intro e4;apply kS∘kB∘vX;refine eD rfl (Ym a _ _ a1) ?_;apply(pQ);refine aJ ?_ ?_<;>intro bI;·apply OA∘kS∘uG;refine cF L R LB ?_;exact⟨J.nil,by rw[pB,if_pos bI];rfl,J.iJ,by rw[pB,if_pos bI],by rw[pC,nJ],rfl⟩
 have bV:h4 a=0:=by omega
 have bM:=J9 bV;have n2:=bM.aE.places;have HD:=bM.aE.Z;apply k5∘y7;refine eD rfl (a5L a s _ _ a1 aF) ?_;apply(AJ);refine aJ ?_ ?_<;>intro cK;·apply C9∘uG;refine cF L R LB ?_;exact⟨J.nil,by rw[pB,if_neg bI,if_pos LA];rfl,J.iJ,by rw[pB,if_neg bI,if_pos LA],by rw[pC,nJ],rfl⟩
 have FM:mP a s=true:=by simpa using cK
 have SU:¬mP a s=false:=by rw[FM];decide
 apply k5∘y7;refine dN rfl (aTI a s A _ _ a1 aF hD D) rfl ?_;rintro v E R' ⟨cN,aB,rfl,G,U,aO,bW,rfl,rfl⟩;refine aA jE rfl ?_;apply(OG);intro lT;apply E7∘j6;refine rY (A:=[_]) (aI:=1) [] bH aX G eW ?_;apply(DX);refine rY (A:=[_]) (aI:=1) [] bH aX U eW ?_;apply(DX);have nG:∀r∈R,aN r (dW aB.W::dW cN.W::R):=λr O=>aU sF;have b0O:a4O ⟨cN.W,aB.W⟩ (dW aB.W::dW cN.W::R):=⟨aU (.tail _ (.head _)),aU (.head _)⟩;have b3i:=WD.mono nG;apply nP∘AL;refine aJ ?_ ?_<;>intro dE;·
  apply eV∘y7∘lG;refine dN rfl (aY3 a s ⟨cN.W,aB.W⟩ A _ _ (IC a1 nG) (T9 aF nG) b0O hD) rfl ?_;rintro v E R' ⟨p,S,rfl,iN,dC,rfl,rfl⟩;apply kS∘uG;refine kN (E:=p.L 51 bG.cells++L) (R':=R) LB ?aG ?b3 ?b8;case aG=>(have bX:pB a s A=(0,GN a s (OX a s A) A):=by rw[pB,if_neg bI,if_neg SU,if_pos dE]);exact⟨p,by rw[bX];rfl,iN,by rw[bX,dC];exact aXd aO bW,rfl,rfl⟩
  case b3=>exact bC
  case b8=>exact λr h=>aU (by simp[h])
 apply gI∘xG∘D1;rintro v E R' ⟨MG,rfl,rfl,G7⟩;replace G7:=G7.symm;subst G7;apply kS∘yQ;refine e7 (R5 (f:=bG.cells) (x:=⟨0,0⟩) rfl _) ?_;apply e1∘gF∘pE;refine e3 [(9,.slice _ _ _),(40,.slice _ _ _),(41,.int _ _),(42,.int _ _)] cB λg9=>?_;refine m6 ([10,11]++dJ 42 13) ((⟨λg=>[(42,.int .i64 ((g.1.1:Nat):Int))],λg=>(⟨.own MG a.aE.Z.l.length [],g.1.2⟩:J bG).L 51 bG.cells++(⟨lT,[cN.val,aB.val],103⟩::⟨e4,s.cells,35⟩::⟨eN,a.cells,32⟩::L),λ_=>dW aB.W::dW cN.W::R,λg=>a.aE.Z.l.length-g.1.1⟩:e0 {g:Nat×List bG//g.1<=a.aE.Z.l.length/\T3 a g.1 g.2})) (⟨(0,List.replicate a.aE.Z.l.length ⟨0,0⟩),by dsimp only;omega,⟨by simp,λj a6=>by omega,λj _ a6=>by rw[K5,if_pos a6]⟩⟩) ?_;rintro⟨⟨k,l⟩,pN,fJ⟩ c1;try dsimp only
 dsimp only at pN fJ;have qN:=fJ.len;have Tv:(⟨.own MG a.aE.Z.l.length [],l⟩:J bG).ok 2 bG.cells:=by have:=BT (f:=bG.cells) (aI:=2) (b:=MG) (n:=a.aE.Z.l.length) (x:=⟨0,0⟩) bH BE;exact J.tU bH this (by simp;exact qN)
 apply(gU);refine aJ ?_ ?_<;>intro gZ;·
  have WP:=bR (l:=a.aE.Z.l) (k:=k) default D;have HC:=fJ.TF k (gS _) D;apply(nC);refine aA rF rfl ?_;apply Lx∘dO;intro GY;apply eA∘BP∘AJ;refine aJ ?_ ?_<;>intro fW;·(have PJ:sX=GJ a k:=by rw[GJ,if_neg Xb]);apply(y6);refine eD rfl (RF _ _) ?_;refine aA (iV M ((⟨.own MG a.aE.Z.l.length [],l⟩:J bG)) _ rfl rfl ((show _=Value.slice _ _ _ from rfl).trans (u7 qN)) rfl bS (i:=k) c7 iY) rfl ?_;refine mO (N4 M ((⟨.own MG a.aE.Z.l.length [],l⟩:J bG)) (sX) rfl rfl rfl rfl cL bS bH bS (s6 rfl) aK aK) ?_;rintro v E R' ⟨rfl,rfl⟩;apply(tF);exact eG ⟨(k+1,l.set k sX),by dsimp only;omega,fJ.next D PJ⟩
  have PJ:(⟨0,0⟩:bG)=GJ a k:=by rw[GJ,if_pos Xb]
  apply(k9);exact eG ⟨(k+1,l),by dsimp only;omega,fJ.F5 D PJ⟩
 obtain rfl:k=a.aE.Z.l.length:=by omega
 apply UX∘kS∘sO;refine kN (E:=(⟨.own MG a.aE.Z.l.length [],l⟩:J bG).L 51 bG.cells++L) (R':=R) LB ?aG ?b3 ?b8;case aG=>
  have bX:pB a s A=(0,(List.range a.aE.Z.l.length).map (GJ a)):=by rw[pB,if_neg bI,if_neg SU,if_neg dE]
  exact⟨(⟨.own MG a.aE.Z.l.length [],l⟩:J bG),by rw[bX];simp only[J.val,gT.r5,gT.cap,qN],Tv,by rw[bX];exact fJ.done,rfl,rfl⟩
 case b3=>exact bC
 case b8=>exact λr h=>aU (by simp[h])
def AO(x:bG):Int:=if x.bN<x.bJ then 0 else if 0<x.bJ then 1 else if x.bN<0 then -1 else 0
def a7z(x:bG)(L:aW)(R:aP):
 aM prog 72 [x.val].toArray L R (λv E R'=>v=.int .i64 (AO x)/\L=E/\R=R'):=by
 refine cX 17 call72 func72 rfl rfl rfl ?_;apply(fC);intro fT;apply(eA);refine eS (bY (cC (iH (cC (dM ?_)))));apply nZ∘yO∘pF;refine aJ ?_ ?_<;>intro bI;·apply(vD);refine eL L R ?_;exact⟨by rw[AO,if_pos bI],rfl,rfl⟩
 apply eV∘Co∘pF;refine aJ ?_ ?_<;>intro cK;·apply(vD);refine eL L R ?_;exact⟨by rw[AO,if_neg D,if_pos cK],rfl,rfl⟩
 apply UY∘Am∘pF;refine aJ ?_ ?_<;>intro dE;·apply(vD);refine eL L R ?_;exact⟨by rw[AO,if_neg D,if_neg D,if_pos dE],rfl,rfl⟩
 refine gG (hG (bY (cC (dM ?_))));apply(sO);refine eL L R ?_;exact⟨by rw[AO,if_neg D,if_neg D,if_neg D],rfl,rfl⟩
end
def aFf{a:bT}{s:cG}{A:List Bool}(bV:h4 a=0)(aH:mP a s=true)(hD:mU a.aE A):
 (pB a s A).1=0/\((Xr a s (OX a s A) A/\(∀i:Nat,(OX a s A).bJ.l.getD i 0<=(OX a s A).bN.l.getD i 0)/\(pB a s A).2=(List.range a.aE.Z.l.length).map (w7 a s (OX a s A) A))\/(pB a s A).2=(List.range a.aE.Z.l.length).map (GJ a)):=by
 have FN:¬mP a s=false:=by rw[aH];decide
 rw[pB,if_neg (by rw[bV];decide),if_neg FN];rcases aZC (A:=A) bV aH with h|h;·have a16:Xr a s (OX a s A) A:=h.2.aZT rfl rfl;rw[if_pos h.1,GN,if_pos (aGZ.2 a16)];exact⟨rfl,.inl ⟨a16,h.2.le,rfl⟩⟩
 ·rw[if_neg (by rw[h];decide)];exact⟨rfl,.inr rfl⟩
def Ow{a:bT}{s:cG}{A:List Bool}(bV:h4 a=0)(aH:mP a s=true)(hD:mU a.aE A):(pB a s A).2.length=a.aE.Z.l.length:=by rcases(aFf bV aH hD).2 with⟨_,_,e⟩|e<;>rw[e]<;>simp
section
attribute [local irreducible] cO dG dP aM cI dR fA e2 e5 fB eQ e9 J.L
structure BO where
 aS:Int
 A4:Int
 deriving Inhabited
def BO.cells(s:BO):List Value:=[.int .i64 s.aS,.int .i64 s.A4]
abbrev Om(x:bP BO):eT:=x.eJ 2 BO.cells []
structure LN{aY:Type}(n:Nat)(z:aY)(g:Nat->aY)(i:Nat)(l:List aY):Prop where
 len:l.length=n
 ML:∀j:Nat,j<i->l[j]?=some (g j)
 TF:∀j:Nat,i<=j->j<n->l[j]?=some z
def LN.zero{aY:Type}{n:Nat}{z:aY}{g:Nat->aY}:LN n z g 0 (List.replicate n z):=⟨by simp,λj a6=>by omega,λj _ a6=>by rw[K5,if_pos a6]⟩
def LN.next{aY:Type}{n:Nat}{z:aY}{g:Nat->aY}{i:Nat}{l:List aY}(h:LN n z g i l)(aB:i<n){x:aY}(K:x=g i):LN n z g (i+1) (l.set i x):=by exact aOC
def LN.F5{aY:Type}{n:Nat}{z:aY}{g:Nat->aY}{i:Nat}{l:List aY}(h:LN n z g i l)(aB:i<n)(K:z=g i):LN n z g (i+1) l:=by exact aOG
def LN.done{aY:Type}{n:Nat}{z:aY}{g:Nat->aY}{l:List aY}(h:LN n z g n l):l=(List.range n).map g:=by
 have aZ:=h.len;refine Au λj=>?_;rcases gX j n with a6|a6;·rw[h.ML j a6,pW,P8 a6];rfl
 ·rw[u1 D,u1 EB]
def Q8(x:bG)(A4:Int):Int:=
 if x.bN<x.bJ then 0 else if(A4<=0\/A4<=x.bJ)\/x.bN<= -A4 then 1 else if -A4<x.bJ/\x.bN<A4 then -1 else 0
def H8(fl:List bG)(f:BO):Int:=if 0<=f.aS/\f.aS<fl.length then Q8 (fl.getD f.aS.toNat default) f.A4 else 0
def YH(fl:List bG)(iW:List BO):List Int:=(List.range iW.length).map λk=>H8 fl (iW.getD k default)
def a6O(iW:List BO):Prop:=∀f∈iW,-4611686018427387904<=f.A4/\f.A4<=4611686018427387904
def aUc(x:bG)(A4:Int)(L:aW)(R:aP)(bA:-4611686018427387904<=A4/\A4<=4611686018427387904):
 aM prog 109 [x.val,.int .i64 A4].toArray L R (λv E R'=>v=.int .i64 (Q8 x A4)/\L=E/\R=R'):=by
 refine cX 39 call109 func109 rfl rfl rfl ?_;apply(fC);intro eN;apply(eA);refine eS (bY (cC (iH (cC (dM ?_)))));apply nZ∘yO∘pF;refine aJ ?_ ?_<;>intro bI;·apply(vD);refine eL L R ?_;exact⟨by rw[Q8,if_pos bI],rfl,rfl⟩
 apply OA∘D0∘fD;apply dT (aD:=[_,_,_,_]) (j:=2) (b4:=14) rfl rfl aK rfl b2 rfl;·intro iM;replace iM:=cP iM;exact(h1) NN
 intro o7;apply(fD);apply dT (aD:=[_,_,_,_,_]) (j:=8) (b4:=20) rfl rfl aK rfl b2 rfl;·intro h7;replace h7:=cP h7;exact(h1∘CJ∘D0) iA
 intro zV;apply(pF);refine aJ ?_ ?_<;>intro cK;·apply(vD);refine eL L R ?_;exact⟨by rw[Q8,if_neg D,if_pos D],rfl,rfl⟩
 apply eV∘h1∘CJ∘yO∘fD;apply lR (aD:=[_,_,_,_]) (j:=5) (b4:=33) rfl rfl aK rfl b2 rfl;·intro xS;replace xS:=cP xS;exact(h1) K9
 intro a28;apply(pF);refine aJ ?_ ?_<;>intro dE;·apply(vD);refine eL L R ?_;exact⟨by rw[Q8,if_neg D,if_neg D,if_pos D],rfl,rfl⟩
 refine gG (hG (bY (cC (dM ?_))));apply(sO);refine eL L R ?_;exact⟨by rw[Q8,if_neg D,if_neg D,if_neg D],rfl,rfl⟩
def a7Q(fl:bP bG)(iW:bP BO)(L:aW)(R:aP)(iF:aN (wG fl) R)(Tl:aN (Om iW) R)(bA:a6O iW.l)(sU:iW.l.length<=1000)(b88:fl.l.length<=1000):
 aM prog 73 [fl.val,iW.val].toArray L R (λw E R'=>∃p:J Int,w=p.val/\p.ok 1 aR/\p.l=YH fl.l iW.l/\p.L 3 aR++L=E/\R=R'):=by
 refine cX 41 call73 func73 rfl rfl rfl ?_;apply eV∘tH∘j0∘D1;rintro v E R' ⟨lI,rfl,rfl,O6⟩;replace O6:=O6.symm;subst O6;apply kS∘yQ;refine e7 (R5 (f:=aR) (x:=0) rfl _) ?_;apply e1∘r3;refine e3 [(0,.slice _ _ _),(5,.slice _ _ _),(11,.slice _ _ _),(12,.int _ _),(13,.int _ _)] cB λg9=>?_;refine m6 ([6,7]++dJ 13 27) ((⟨λg=>[(13,.int .i64 ((g.1.1:Nat):Int))],λg=>(⟨.own lI iW.l.length [],g.1.2⟩:J Int).L 3 aR++L,λ_=>R,λg=>iW.l.length-g.1.1⟩:e0 {g:Nat×List Int//g.1<=iW.l.length/\LN iW.l.length 0 (λk=>H8 fl.l (iW.l.getD k default)) g.1 g.2})) (⟨(0,List.replicate iW.l.length 0),by dsimp only;omega,.zero⟩) ?_;rintro⟨⟨k,l⟩,pN,fJ⟩ c1;try dsimp only
 dsimp only at pN fJ;have qN:=fJ.len;have Tv:(⟨.own lI iW.l.length [],l⟩:J Int).ok 1 aR:=by have:=BT (f:=aR) (aI:=1) (b:=lI) (n:=iW.l.length) (x:=0) E3 BE;exact J.tU E3 this (by simp;exact qN)
 apply(gU);refine aJ ?_ ?_<;>intro bI;·
  have El:=bR (l:=iW.l) (k:=k) default D;have HC:=fJ.TF k (gS _) D;have xT:=bA _ (hS El);obtain⟨f,aH⟩:∃f,f=iW.l.getD k default:=⟨_,rfl⟩;rw[<-aH]at El xT;apply(nC);refine aA rF rfl ?_;apply(R1);intro lT;apply eA∘BP∘NC∘fD;apply lR (aD:=[_,_,_,_,_]) (j:=3) (b4:=21) rfl rfl aK rfl b2 rfl;·intro fV;replace fV:=cP fV;exact(gB∘j0) K9
  intro m2;apply(dD);refine aJ ?_ ?_<;>intro cK;·have S6:=bR (l:=fl.l) (k:=f.aS.toNat) default D;(have a9C:Q8 (fl.l.getD f.aS.toNat default) f.A4=(λk=>H8 fl.l (iW.l.getD k default)) k:=by dsimp only;rw[<-aH,H8,if_pos D]);refine jV M [] [0,1,2,3,4,5,6,7,8,9,10] [11] ([bQ.mk lT _ _]) _ mixed aQ bC b9 ?_;apply RY∘OL;refine fE (by first|exact j9 M rfl rfl rfl rfl i6 (i:=f.aS.toNat) c7 D|exact jF M rfl rfl rfl rfl (i:=f.aS.toNat) c7 D) rfl rfl rfl rfl ?_;apply aBt∘lS;refine mW rfl (aUc (fl.l.getD f.aS.toNat default) f.A4 _ _ xT) rfl rfl ?_;rintro v E R' ⟨rfl,rfl,rfl⟩;refine⟨bC,hC,?_⟩;refine fE (iV M ((⟨.own lI iW.l.length [],l⟩:J Int)) _ rfl rfl ((show _=Value.slice _ _ _ from rfl).trans (u7 qN)) rfl bS (i:=k) c7 iY) rfl rfl rfl rfl ?_;apply(zY);refine ID (mV M ((⟨.own lI iW.l.length [],l⟩:J Int)) (Q8 (fl.l.getD f.aS.toNat default) f.A4) rfl rfl rfl rfl cL bS bH bS aX aK aK) rfl rfl ?_;rintro v E R' ⟨rfl,rfl⟩;apply fI∘KV∘m0;exact eG ⟨(k+1,l.set k (Q8 (fl.l.getD f.aS.toNat default) f.A4)),by dsimp only;omega,fJ.next D a9C⟩
  have a9C:(0:Int)=(λk=>H8 fl.l (iW.l.getD k default)) k:=by dsimp only;rw[<-aH,H8,if_neg D]
  apply(k9);exact eG ⟨(k+1,l),by dsimp only;omega,fJ.F5 D a9C⟩
 obtain rfl:k=iW.l.length:=by omega
 apply(R2);refine cF ((⟨.own lI iW.l.length [],l⟩:J Int).L 3 aR++L) R BH ?_;exact⟨(⟨.own lI iW.l.length [],l⟩:J Int),by simp only[J.val,gT.r5,gT.cap,qN],Tv,fJ.done,rfl,rfl⟩
end
def HY(P:Nat->Bool):Nat->List Int
 |0=>[]
 |k+1=>if P k=true then HY P k++[(k:Int)]else HY P k
def a7v{P:Nat->Bool}: ∀k,(HY P k).length<=k
 |0=>gS _
 |k+1=>by
  have:=a7v (P:=P) k
  rw[HY]
  split
  ·simp;omega
  ·omega
def yA(M7 FH:List Int):List Int:=M7.filter λx=>!decide (x∈FH)
def aSk{M7 FH:List Int}{k:Nat}{x:Int}(h:M7[k]?=some x)(K:x∉FH):yA (M7.take (k+1)) FH=yA (M7.take k) FH++[x]:=by rw[yA,YI h,a3I,yA];simp[K]
def aR3{M7 FH:List Int}{k:Nat}{x:Int}(h:M7[k]?=some x)(K:x∈FH):yA (M7.take (k+1)) FH=yA (M7.take k) FH:=by rw[yA,YI h,a3I,yA];simp[K]
def aFT(M7 FH:List Int):(yA M7 FH).length<=M7.length:=List.length_filter_le _ _
structure a0A where
 bAY:List Int
 bAU:List Int
 b8g:List Int
 lost:List Int
 deriving DecidableEq,Inhabited
def Nx(fl tP:List bG)(i:Nat):Bool:=decide (AO (fl.getD i default)≠0) && decide (AO (tP.getD i default)≠AO (fl.getD i default))
def Rg(fl tP:List bG)(iW:List BO)(i:Nat):Bool:=decide ((YH fl iW).getD i 0=1) && decide ((YH tP iW).getD i 0≠1)
def a7c(a:eC)(fl:List bG)(b:eC)(tP:List bG)(iW:List BO)(A B:List Bool)(JD JE:List Int):a0A:=
 ⟨HY (Nx fl tP) a.Z.l.length,HY (Rg fl tP iW) iW.length,yA JE JD,yA (z7 B b.places.l.length) (z7 A a.places.l.length)⟩
def L3(a:bT)(s:cG):Int:=if h4 a≠0 then h4 a else if mP a s=false then 21 else 0
def aGu(a:bT)(s:cG)(A:List Bool):(pB a s A).1=L3 a s:=by rw[pB,L3];(repeat' split)<;>rfl
def Zw{a:bT}{s:cG}:L3 a s=0↔h4 a=0/\mP a s=true:=by
 rw[L3];constructor;·
  intro h;split at h;·omega
  ·
   rename_i G;split at h;·cases h
   ·rename_i U;exact⟨by omega,by simpa using U⟩
 ·rintro⟨G,U⟩;rw[if_neg D,if_neg (by rw[U];decide)]
def JW(a:bT)(s:cG)(b:bT)(t:cG):Int:=
 if L3 a s≠0 then L3 a s else if L3 b t≠0 then L3 b t else if b.aE.places.l.length<a.aE.places.l.length\/b.aE.Z.l.length<a.aE.Z.l.length then 11 else 0
def a49(m:eC)(fl:List bG): ∀k,∃C,NT m fl k C
 |0=>⟨[],.zero⟩
 |k+1=>by
  obtain⟨C,uQ⟩:=a49 m fl k
  rcases BC (UM m fl k false)with G|G
  ·exact⟨_,uQ.z1 (.inl G)⟩
  ·rcases BC (UM m fl k true)with U|U
   ·exact⟨_,uQ.z1 (.inr U)⟩
   ·exact⟨_,uQ.no G U⟩
def aJJ(m:eC)(fl:List bG):∃C,EF m fl C:=(a49 m fl _).imp λ_ h=>h.done
def aHn(m:eC):∃fH:List bG->List Int,∀fl,EF m fl (fH fl):=⟨λfl=>Classical.choose (aJJ m fl),λfl=>Classical.choose_spec (aJJ m fl)⟩
def EF.len{m:eC}{fl:List bG}{C:List Int}(h:EF m fl C):C.length<=m.Z.l.length:=by obtain⟨a4P,cD⟩:=a49 m fl m.Z.l.length;rw[h.XM cD.done];exact cD.len
abbrev Pk:=List Int×List Int
def Ag(s:Pk):cG:=⟨⟨none,0,s.1⟩,⟨none,0,s.2⟩⟩
abbrev RA(s:cG):Pk:=(s.bD.l,s.a8.l)
def VS(a:bT)(A:List Bool)(s:Pk):List bG:=(pB a (Ag s) A).2
def YZ(f:hT):hT:=⟨f.aS,f.hX,f.Jp,⟨none,0,f.hJ.l⟩⟩
def ER(d:gV):gV:=⟨d.aS,d.sC,⟨none,0,d.hY.l⟩⟩
def OO(m:eC):eC:=⟨⟨none,0,m.places.l⟩,⟨none,0,m.Z.l⟩⟩
def pI(a:bT):bT:=⟨OO a.aE,⟨none,0,a.bD.l.map YZ⟩,⟨none,0,a.a8.l.map ER⟩⟩
abbrev YM(s:cG):cG:=Ag (RA s)
def a1m{aY qE:Type}{f:aY->qE}{l:List aY}{k:Nat}{d:aY}{e:qE}(h:f d=e):(l.map f).getD k e=f (l.getD k d):=by
 rw[lN,lN,pW];cases l[k]? with
 |none=>exact h.symm
 |some x=>rfl
def aR2(a:bT)(k:Nat):(pI a).bD.l.getD k default=YZ (a.bD.l.getD k default):=a1m rfl
def a4U(a:bT)(k:Nat):(pI a).a8.l.getD k default=ER (a.a8.l.getD k default):=a1m rfl
def aF8(a:bT)(s:cG)(r:Int): ∀k,p3 (pI a) (YM s) r k=p3 a s r k
 |0=>rfl
 |k+1=>by rw[p3,p3,aF8 a s r k,a4U];rfl
def aJD(a:bT)(s:cG)(r q:Int): ∀k,qP (pI a) (YM s) r q k=qP a s r q k
 |0=>by rw[qP,qP,aF8,show(pI a).a8.l.length=a.a8.l.length from pU _];rfl
 |k+1=>by rw[qP,qP,aJD a s r q k,aR2];rfl
def aVP(a:bT)(s:cG):kA (pI a) (YM s)=kA a s:=by funext r q;rw[kA,kA,aJD,show(pI a).bD.l.length=a.bD.l.length from pU _]
def aTX(l:List gV):JK (l.map ER)=JK l:=by
 funext i;rw[JK,JK,pW];cases l[i]? with
 |none=>rfl
 |some d=>
  have aG:It (l.map ER) i (ER d)↔It l i d:=by unfold It;simp only[pU,a1m (f:=ER) (l:=l) (d:=default) (e:=default) rfl];exact Iff.rfl
  simp only[Ay,aG];rfl
def aYi(l:List gV):C2 (l.map ER)=C2 l:=by rw[C2,C2,aTX,pU]
def aDC(a:bT):h4 (pI a)=h4 a:=by have G:(pI a).bD.l=a.bD.l.map YZ:=rfl;have U:(pI a).a8.l=a.a8.l.map ER:=rfl;have aO:(pI a).aE=OO a.aE:=rfl;have bW:iB (OO a.aE)=iB a.aE:=rfl;rw[h4,h4,G,U,aO,bW,aYi,pU,aB3,aB3];rfl
def aUe(a:bT)(s:cG):mP (pI a) (YM s)=mP a s:=by
 have G:(pI a).bD.l.length=a.bD.l.length:=pU _;have U:(pI a).a8.l.length=a.a8.l.length:=pU _;have aO:R9 (pI a).a8.l (YM s).a8.l=R9 a.a8.l s.a8.l:=by funext i;show R9 (a.a8.l.map ER) s.a8.l i=_;rw[R9,R9,pW];cases s.a8.l[i]? <;>cases a.a8.l[i]? <;>rfl
 rw[mP,mP,G,U,aO];rfl
section
variable{a eP:bT}{s s':cG}
structure oJ(a eP:bT)(s s':cG):Prop where
 aE:a.aE.places.l=eP.aE.places.l/\a.aE.Z.l=eP.aE.Z.l
 Ux:kA a s=kA eP s'
 DI:h4 a=h4 eP
 O4:mP a s=mP eP s'
variable(h:oJ a eP s s')
include h
def oJ.term(F aD:(Int->bG)->Int->Int):EJ F aD a s=EJ F aD eP s':=by funext ps v k;rw[EJ,EJ,xB,xB,h.Ux,h.aE.2]
def oJ.sum(F aD:(Int->bG)->Int->Int)(ps:List Int)(v:Int): ∀k,C5 F aD a s ps v k=C5 F aD eP s' ps v k
 |0=>rfl
 |k+1=>by rw[C5,C5,oJ.sum F aD ps v k,h.term]
def oJ.bJ:BK a s=BK eP s':=by funext ps v;rw[BK,BK,h.sum,h.aE.2]
def oJ.bN:BW a s=BW eP s':=by funext ps v;rw[BW,BW,h.sum,h.aE.2]
def oJ.test(up:Bool)(l:List Int):T8 a s up l=T8 eP s' up l:=by funext v q;rw[T8,T8];unfold Cy Da;rw[h.bJ,h.bN]
def oJ.next(up:Bool):GK a s up=GK eP s' up:=by funext l k;rw[GK,GK,h.test]
def oJ.fix(A:List Bool):vG a A=vG eP A:=by funext k;rw[vG,vG,h.aE.1]
def oJ.aOm(A:List Bool)(up:Bool)(l:List Int): ∀k,qH a s A up l k=qH eP s' A up l k
 |0=>rfl
 |k+1=>by rw[qH,qH,oJ.aOm A up l k,h.fix,h.next]
def oJ.aOe(A:List Bool)(up:Bool): ∀n l,vA a s A up n l=vA eP s' A up n l
 |0,_=>rfl
 |n+1,l=>by
  rw[vA,vA,h.aOm,h.aE.1]
  cases qH eP s' A up l eP.aE.places.l.length with
  |none=>rfl
  |some m=>dsimp only;rw[oJ.aOe A up n m]
def oJ.start(ps:List Int)(A:List Bool):C4 a s ps A=C4 eP s' ps A:=by
 have e:IH a ps A=IH eP ps A:=by funext i;rw[IH,IH,h.fix]
 rw[C4,C4,h.DI,h.O4,h.aE.1,e]
def oJ.b6A(A:List Bool)(up:Bool)(ps:List Int):l8 a s A up ps=l8 eP s' A up ps:=by rw[l8,l8,h.start,h.aOe]
def oJ.b6D(A:List Bool):uM a s A=uM eP s' A:=by
 have e:l8 a s A=l8 eP s' A:=by funext up ps;exact h.b6A A up ps
 rw[uM,uM,e,h.aE.1]
def oJ.b0a(b:q2)(A:List Bool):wI a s b A=wI eP s' b A:=by
 have e:wE a s b A=wE eP s' b A:=by funext i;rw[wE,wE,h.bJ,h.bN,h.aE.1]
 rw[wI,wI,h.DI,h.O4,h.aE.1,e]
def oJ.iC(b:q2)(A:List Bool):GN a s b A=GN eP s' b A:=by
 have e:w7 a s b A=w7 eP s' b A:=by funext k;rw[w7,w7,h.Ux,h.aE.2]
 rw[GN,GN,h.b0a,h.aE.2,e]
def oJ.a8a(A:List Bool):pB a s A=pB eP s' A:=by
 have e:GJ a=GJ eP:=by funext k;rw[GJ,GJ,h.aE.2]
 rw[pB,pB,h.DI,h.O4,OX,OX,h.b6D,h.iC,h.aE.2,e]
end
def oJ.bare(a:bT)(s:cG):oJ (pI a) a (YM s) s:=⟨⟨rfl,rfl⟩,aVP a s,aDC a,aUe a s⟩
def oJ.symm{a eP:bT}{s s':cG}(h:oJ a eP s s'):oJ eP a s' s:=⟨⟨h.aE.1.symm,h.aE.2.symm⟩,h.Ux.symm,h.DI.symm,h.O4.symm⟩
def oJ.trans{a eP aKo:bT}{s s' aOf:cG}(h:oJ a eP s s')(k:oJ eP aKo s' aOf):oJ a aKo s aOf:=⟨⟨h.aE.1.trans k.aE.1,h.aE.2.trans k.aE.2⟩,h.Ux.trans k.Ux,h.DI.trans k.DI,h.O4.trans k.O4⟩
def oJ.of{a eP:bT}{s s':cG}(G:pI a=pI eP)(U:RA s=RA s'):oJ a eP s s':=by have dH:=(oJ.bare a s).symm;have eH:=oJ.bare eP s';rw[G,show YM s=YM s' from congrArg Ag U]at dH;exact dH.trans eH
def aXf(a:bT){s s':cG}(A:List Bool)(h:RA s=RA s'):pB a s A=pB a s' A:=(oJ.of rfl h).a8a A
def aUI(a:bT){s s':cG}(h:RA s=RA s'):mP a s=mP a s':=(oJ.of rfl h).O4
def aRd(a:bT)(s:cG)(A:List Bool):VS a A (RA s)=(pB a s A).2:=by rw[VS,aXf a (s:=Ag (RA s)) (s':=s) A rfl]
end Go.Proofs.YtdiajbdaadlfhaaGreatDoor
