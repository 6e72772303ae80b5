-- By an AI agent; no person has read it.
import Derived.Test.YtdiajbdaadlfhaaGreatDoorFits
import Derived.Test.YtdiajbdaadlfhaaGreatDoorDraws
set_option linter.all false
set_option maxHeartbeats 4000000
variable{A B:Prop}
def a0z(h:A->B:=by exact b7 qX rfl rfl rfl):=h
def Yt(h:A->B:=by exact aA XY rfl):=h
def aIH(h:A->B:=by exact aA (by first|exact j9 M rfl rfl rfl rfl i6 (i:=v.toNat) c7 D|exact jF M rfl rfl rfl rfl (i:=v.toNat) c7 D) rfl):=h
def aKm(h:A->B:=by exact aA (by first|exact j9 M rfl rfl rfl rfl i6 (i:=e.toNat) c7 D|exact jF M rfl rfl rfl rfl (i:=e.toNat) c7 D) rfl):=h
def aEO(h:A->B:=by exact b7 (by first|exact j9 M rfl rfl rfl rfl i6 (i:=p.aS.bK.toNat) c7 D|exact jF M rfl rfl rfl rfl (i:=p.aS.bK.toNat) c7 D) rfl rfl rfl):=h
def aHm(h:A->B:=by exact b7 (by first|exact j9 M rfl rfl rfl rfl i6 (i:=p.aS.to.toNat) c7 D|exact jF M rfl rfl rfl rfl (i:=p.aS.to.toNat) c7 D) rfl rfl rfl):=h
def aGG(h:A->B:=by exact x9 aCu rfl rfl):=h
def aHD(h:A->B:=by exact x9 a4j rfl rfl):=h
def aHd(h:A->B:=by exact aA (iV M ((⟨o,ps.set u.toNat y⟩:J Int)) _ rfl rfl ((show _=Value.slice _ _ _ from rfl).trans a6m) rfl bS (i:=u.toNat) c7 iY) rfl):=h
def aFi(h:A->B:=by exact mO (mV M ((⟨o,ps.set u.toNat y⟩:J Int)) (x) rfl rfl rfl rfl cL bS bH bS aX aK aK)):=h
def aJ3(h:A->B:=by exact g2 (rH (f:=aR) (xs:=ps) M rfl rfl rfl aX rfl rfl (tS) bH D) rfl):=h
def aG8(h:A->B:=by exact aA (by first|exact j9 M rfl rfl rfl rfl i6 (i:=u.toNat) c7 D|exact jF M rfl rfl rfl rfl (i:=u.toNat) c7 D) rfl):=h
namespace Go.Proofs.YtdiajbdaadlfhaaGreatDoor
open Go.Aw Go Go.Proofs.Tryz
def xB(a:bT)(ps:List Int)(k:Nat):Int:=ps.getD (a.aE.Z.l.getD k default).bK.toNat 0-ps.getD (a.aE.Z.l.getD k default).to.toNat 0
def EJ(F aD:(Int->bG)->Int->Int)(a:bT)(s:cG)(ps:List Int)(v:Int)(k:Nat):Int:=
 if(a.aE.Z.l.getD k default).dZ=true then 0
 else if(a.aE.Z.l.getD k default).bK=v then F (kA a s k) (xB a ps k)
 else if(a.aE.Z.l.getD k default).to=v then -(aD (kA a s k) (xB a ps k))else 0
def C5(F aD:(Int->bG)->Int->Int)(a:bT)(s:cG)(ps:List Int)(v:Int):Nat->Int
 |0=>0
 |k+1=>C5 F aD a s ps v k+EJ F aD a s ps v k
def BK(a:bT)(s:cG)(ps:List Int)(v:Int):Int:=C5 u9 u6 a s ps v a.aE.Z.l.length
def BW(a:bT)(s:cG)(ps:List Int)(v:Int):Int:=C5 u6 u9 a s ps v a.aE.Z.l.length
structure Ends(F:(Int->bG)->Int->Int)(a:bT)(s:cG):Prop where
 B2:∀k:Nat,k<a.aE.Z.l.length->∀p,-1048577<=F (kA a s k) p/\F (kA a s k) p<=1048577
def a1j{a:bT}{s:cG}(bX:sG a):Ends u9 a s:=⟨λk Y p=>by have:=(Yo (s:=s) bX (r:=(k:Int)) D p).B2;omega⟩
def a0f{a:bT}{s:cG}(bX:sG a):Ends u6 a s:=⟨λk Y p=>by have:=(a0g (s:=s) bX (r:=(k:Int)) D p).B2;omega⟩
section
variable{F aD:(Int->bG)->Int->Int}{a:bT}{s:cG}{ps:List Int}{v:Int}
def aI3(hR:Ends F a s)(mH:Ends aD a s){k:Nat}(Y:k<a.aE.Z.l.length):-1048577<=EJ F aD a s ps v k/\EJ F aD a s ps v k<=1048577:=by
 have G:=hR.B2 k Y (xB a ps k);have U:=mH.B2 k Y (xB a ps k);unfold EJ;split;·omega
 ·
  split;·exact G
  ·split<;>omega
def aYj(hR:Ends F a s)(mH:Ends aD a s): ∀k:Nat,k<=a.aE.Z.l.length-> -(1048577*(k:Int))<=C5 F aD a s ps v k/\C5 F aD a s ps v k<=1048577*(k:Int)
 |0,_=>by simp[C5]
 |k+1,Y=>by
  have cA:=aYj hR mH k D
  have h:=aI3 (ps:=ps) (v:=v) hR mH (k:=k) D
  rw[C5]
  omega
def y9(F aD:(Int->bG)->Int->Int)(a:bT)(s:cG)(ps:List Int)(v:Int)(n:Nat):List Int->Int
 |[]=>0
 |e::l=>y9 F aD a s ps v n l+EJ F aD a s ps v ((oN a n).getD e.toNat 0)
def aFc(n:Nat)(l m:List Int):y9 F aD a s ps v n (l++m)=y9 F aD a s ps v n l+y9 F aD a s ps v n m:=by
 induction l with
 |nil=>simp[y9]
 |cons e l cA=>rw[mK,y9,y9,cA];omega
def a7i(a:bT){k:Nat}: ∀{n:Nat},k<=n->∃m,oN a n=oN a k++m
 |0,h=>⟨[],by rw[show k=0 by omega];rfl⟩
 |n+1,h=>by
  rcases gX n k with cD|cD
  ·exact⟨[],by rw[show k=n+1 by omega];simp⟩
  ·obtain⟨m,a1⟩:=a7i a (k:=k) (n:=n) cD
   rw[oN]
   split
   ·exact⟨m,a1⟩
   ·exact⟨m++[n],by rw[a1,kF]⟩
def aEU(a:bT){k n:Nat}(Y:k<n)(bU:¬(a.aE.Z.l.getD k default).dZ=true):(oN a n).getD (oN a k).length 0=k:=by obtain⟨m,a1⟩:=a7i a (show k+1<=n from Y);rw[a1,oN,if_neg bU,kF,lN,XQ (gS _)];simp
def a71(n:Nat){v:Nat}: ∀k,k<=n->y9 F aD a s ps v n (GR a v k)=C5 F aD a s ps v k
 |0,_=>rfl
 |k+1,Y=>by
  have cA:=a71 n (v:=v) k D
  rw[GR,C5]
  split
  ·rename_i bU
   rw[cA,EJ,if_pos bU];omega
  ·rename_i bU
   split
   ·rename_i cS
    rw[aFc,cA,y9,y9,tZ,aEU a D bU]
    omega
   ·rename_i cS
    rw[cA,EJ,if_neg bU,if_neg (λh=>cS (.inl h)),if_neg (λh=>cS (.inr h))];omega
def a1u(a:bT){v:Nat}: ∀k,∀e∈GR a v k,∃i:Nat,i<k/\e=((oN a i).length:Int)/\¬(a.aE.Z.l.getD i default).dZ=true/\((a.aE.Z.l.getD i default).bK=(v:Int)\/(a.aE.Z.l.getD i default).to=(v:Int))
 |0,e,h=>by cases h
 |k+1,e,h=>by
  rw[GR]at h
  split at h
  ·obtain⟨i,G,U⟩:=a1u a k e h;exact⟨i,by omega,U⟩
  ·rename_i bU
   split at h
   ·rename_i cS
    rcases List.mem_append.1 h with h|h
    ·obtain⟨i,G,U⟩:=a1u a k e h;exact⟨i,by omega,U⟩
    ·rw[List.mem_singleton.1 h];exact⟨k,by omega,rfl,bU,cS⟩
   ·obtain⟨i,G,U⟩:=a1u a k e h;exact⟨i,by omega,U⟩
end
structure Zh(F:(Int->bG)->Int->Int)(a:bT)(s:cG):Prop where
 mono:∀k:Nat,k<a.aE.Z.l.length->∀p q:Int,p<=q->F (kA a s k) p<=F (kA a s k) q
def aDp{a:bT}{s:cG}(bX:sG a):Zh u9 a s:=⟨λk Y p q h=>aUm (s:=s) bX (r:=(k:Int)) D h⟩
def aHi{a:bT}{s:cG}(bX:sG a):Zh u6 a s:=⟨λk Y p q h=>aZk (s:=s) bX (r:=(k:Int)) D h⟩
structure Xq(ps hB:List Int)(v:Int):Prop where
 own:ps.getD v.toNat 0<=hB.getD v.toNat 0
 aC:∀k:Nat,k≠v.toNat->hB.getD k 0<=ps.getD k 0
def a7G{F aD:(Int->bG)->Int->Int}{a:bT}{s:cG}{ps hB:List Int}{v:Int}(bX:sG a)(hR:Zh F a s)(mH:Zh aD a s)(h:Xq ps hB v): ∀k:Nat,k<=a.aE.Z.l.length->C5 F aD a s ps v k<=C5 F aD a s hB v k
 |0,_=>oH _
 |k+1,Y=>by
  have cA:=a7G bX hR mH h k D
  have mI:=bX.aE.aS k _ Bj
  have G:=mI.bK
  have U:=mI.to
  have aO:=mI.ne
  have cM:=h.own
  rw[C5,C5,EJ,EJ]
  split
  ·omega
  ·split
   ·rename_i aH
    have O:=h.aC (a.aE.Z.l.getD k default).to.toNat D
    have:=hR.mono k D (xB a ps k) (xB a hB k) (by rw[xB,xB,aH];omega)
    omega
   ·split
    ·rename_i aH gJ
     have O:=h.aC (a.aE.Z.l.getD k default).bK.toNat D
     have:=mH.mono k D (xB a hB k) (xB a ps k) (by rw[xB,xB,gJ];omega)
     omega
    ·omega
def aSf{a:bT}{s:cG}{ps hB:List Int}{v:Int}(bX:sG a)(h:Xq ps hB v):BK a s ps v<=BK a s hB v:=a7G bX (aDp bX) (aHi bX) h _ (gS _)
def aWa{a:bT}{s:cG}{ps hB:List Int}{v:Int}(bX:sG a)(h:Xq ps hB v):BW a s ps v<=BW a s hB v:=a7G bX (aHi bX) (aDp bX) h _ (gS _)
def Ht{l:List Int}{k i:Nat}{v:Int}(Y:k<l.length):(l.set k v).getD i 0=if i=k then v else l.getD i 0:=by exact aBJ
def aGd{ps:List Int}{v x y:Int}(cS:v.toNat<ps.length)(h:x<=y):Xq (ps.set v.toNat x) (ps.set v.toNat y) v:=
 ⟨by rw[Ht cS,Ht cS,if_pos rfl,if_pos rfl];exact h,λk Y=>by rw[Ht cS,Ht cS,if_neg Y,if_neg Y];exact oH _⟩
def Oj{l:List Int}{k:Nat}:l.set k (l.getD k 0)=l:=by
 rcases gX k l.length with h|h;·have:=bR (l:=l) (k:=k) 0 h;obtain⟨_,U⟩:=List.getElem?_eq_some_iff.1 this;rw[<-U,List.set_getElem_self]
 ·exact List.set_eq_of_length_le h
def rI(ps:List Int):Prop:=∀p∈ps,-70368744177664<=p/\p<=70368744177664
def rI.get{ps:List Int}(h:rI ps)(k:Nat):-70368744177664<=ps.getD k 0/\ps.getD k 0<=70368744177664:=by
 rcases gX k ps.length with cD|cD;·exact h _ (hS (bR (l:=ps) 0 cD))
 ·rw[lN,u1 cD];decide
def rI.set{ps:List Int}(h:rI ps)(k:Nat){x:Int}(K:-70368744177664<=x/\x<=70368744177664):rI (ps.set k x):=λp aG=>by
 rcases List.mem_or_eq_of_mem_set aG with G|G
 ·exact h p G
 ·rw[G];exact K
end Go.Proofs.YtdiajbdaadlfhaaGreatDoor
namespace Go.Proofs.YtdiajbdaadlfhaaGreatDoor
open Go.Aw Go Go.Proofs.Tryz
set_option maxRecDepth 20000
attribute [local irreducible] cO dG dP aM cI dR fA e2 e5 fB eQ e9 J.L
structure aQ2(n:rL)(a:bT)(s:cG)(v:Int)(e:Int)(i:Nat)(p:k7):Prop where
 aB:i<a.aE.Z.l.length
 V:0<=e/\e<n.lE.l.length
 get:n.lE.l[e.toNat]?=some p
 o9:(oN a a.aE.Z.l.length).getD e.toNat 0=i
 is:Hg a s i p
 ok:Hh p
 drop:GD p=kA a s i
 dZ:¬(a.aE.Z.l.getD i default).dZ=true
 aKK:(a.aE.Z.l.getD i default).bK=v\/(a.aE.Z.l.getD i default).to=v
 bK:p.aS.bK=(a.aE.Z.l.getD i default).bK
 to:p.aS.to=(a.aE.Z.l.getD i default).to
 aS:Zk a.aE.places.l.length (a.aE.Z.l.getD i default)
def JQ.entry{n:rL}{a:bT}{s:cG}(bA:JQ a s n)(bX:sG a){v:Nat}{e:Int}(V:e∈GR a v a.aE.Z.l.length):∃(i:Nat) (p:k7),aQ2 n a s v e i p:=by
 obtain⟨i,aB,rfl,bU,cS⟩:=a1u a _ e V;have Kt:=aEU a aB bU;have jT:(oN a i).length<(oN a a.aE.Z.l.length).length:=by obtain⟨m,a1⟩:=a7i a (show i+1<=a.aE.Z.l.length from aB);rw[a1,oN,if_neg bU];simp only[hL,rE];omega
 have bE:(oN a a.aE.Z.l.length)[(oN a i).length]?=some i:=by rw[bR 0 jT,Kt]
 have a2A:=congrArg (λl=>l[(oN a i).length]?) bA.W4;simp only[pW,bE,Ay]at a2A;obtain⟨p,aG,l2⟩:=Option.map_eq_some_iff.1 a2A;have Le:=bA.PW p (hS aG);rw[l2]at Le;have b9p:=(List.getElem?_eq_some_iff.1 aG).1;refine⟨i,p,aB,by omega,by rw[tZ];exact aG,by rw[tZ];exact Kt,Le,aF9 bX D Le,funext λq=>aEL Le q,bU,cS,?_,?_,bX.aE.aS i _ (bR default aB)⟩;·rw[Le.aS,tZ]
 ·rw[Le.aS,tZ]
section
variable{F aD:(Int->bG)->Int->Int}{a:bT}{s:cG}{ps:List Int}{v:Int}
def aFn{n:Nat}{l:List Int}{k:Nat}{e:Int}(V:l[k]?=some e):y9 F aD a s ps v n (l.take (k+1))=y9 F aD a s ps v n (l.take k)+EJ F aD a s ps v ((oN a n).getD e.toNat 0):=by
 have:l.take (k+1)=l.take k++[e]:=by rw[BA,V];rfl
 rw[this,aFc,y9,y9];omega
def aT2{a:bT}{n:Nat}(bA:1<=n)(i:Nat):(oN a n).getD i 0<n:=by
 rcases gX i (oN a n).length with h|h;·have:=hS (bR (l:=oN a n) 0 h);exact(Yr.1 this).1
 ·rw[lN,u1 h];exact bA
def a5o(hR:Ends F a s)(mH:Ends aD a s)(bA:1<=a.aE.Z.l.length): ∀l:List Int,-(1048577*(l.length:Int))<=y9 F aD a s ps v a.aE.Z.l.length l/\y9 F aD a s ps v a.aE.Z.l.length l<=1048577*(l.length:Int)
 |[]=>by simp[y9]
 |e::l=>by
  have cA:=a5o hR mH bA l
  have h:=aI3 (ps:=ps) (v:=v) hR mH (k:=(oN a a.aE.Z.l.length).getD e.toNat 0) (aT2 bA _)
  rw[y9,kL]
  omega
end
def aN.W{x:bP (bP Int)}{R:aP}(h:aN (pH x) R){i:Nat}{y:bP Int}(aB:x.l[i]?=some y):aN (dW y) R:=
 h.sub (.SG (List.mem_map.2 ⟨y,hS aB,rfl⟩) .lK)
def aIc(n:rL)(a:bT)(s:cG)(ps:bP Int)(v:Int)(L:aW)(R:aP)(IY:aN (p0 n.lE) R)(G8:aN (pH n.l9) R)(tS:aN (dW ps) R)(bA:JQ a s n)(bX:sG a)(aZ:ps.l.length=a.aE.places.l.length)(aT:rI ps.l)(cS:0<=v/\v<a.aE.places.l.length):
 aM prog 105 [n.val,ps.val,.int .i64 v].toArray L R (λw E R'=>w=.int .i64 (BK a s ps.l v)/\L=E/\R=R'):=by
 obtain⟨x,K⟩:=lQ (l:=n.l9.l) (k:=v.toNat) (by rw[bA.a1B];omega);have S8:=bA.l9 _ _ K;have b5c:=aN.W G8 K;have HD:=bX.aE.Z;have b1J:=bA.a1B;have xY:x.l.length<=a.aE.Z.l.length:=by rw[S8];exact Qb a _ _
 refine cX 57 call105 func105 rfl rfl rfl ?_;apply(fC);intro e4;apply p5∘kB∘h1∘aIH∘kY∘R0;refine e3 [(1,.slice _ _ _),(2,.int _ _),(3,.pointer _),(7,.int _ _),(16,.slice _ _ _),(17,.int _ _),(18,.int _ _)] cB λg9=>?_;refine lF ([7,9,10,11]++dJ 18 38) (λg:{k:Nat//k<=x.l.length}=>[(7,.int .i64 (y9 u9 u6 a s ps.l v a.aE.Z.l.length (x.l.take g.1))),(18,.int .i64 ((g.1:Nat):Int))]) (λg=>x.l.length-g.1) (⟨0,by omega⟩) ?_;rintro⟨k,Y⟩ c1;try dsimp only
 apply(gU);refine aJ ?_ ?_<;>intro bI;·
  obtain⟨e,V⟩:=lQ (l:=x.l) (k:=k) D;obtain⟨i,p,c6⟩:=bA.entry bX (v:=v.toNat) (e:=e) (by rw[<-S8];exact hS V);have b2r:=c6.V;have M1:=c6.get;have aAl:=aN.PW IY M1;have mI:=c6.aS;have Up:=mI.bK;have Lh:=mI.to;have SR:=c6.bK;have Ek:=c6.to;have aB:=c6.aB;have S5:=a5o (ps:=ps.l) (v:=v) (a1j (s:=s) bX) (a0f (s:=s) bX) D (x.l.take k);have aAD:(x.l.take k).length<=k:=List.length_take_le _ _;have cW:=aFn (F:=u9) (aD:=u6) (a:=a) (s:=s) (ps:=ps.l) (v:=v) (n:=a.aE.Z.l.length) V;rw[c6.o9]at cW;have yJ:=bR (l:=ps.l) (k:=p.aS.bK.toNat) 0 D;have Ez:=bR (l:=ps.l) (k:=p.aS.to.toNat) 0 D;have PJ:=aT.get p.aS.bK.toNat;have yH:=aT.get p.aS.to.toNat;have V4:xB a ps.l i=ps.l.getD p.aS.bK.toNat 0-ps.l.getD p.aS.to.toNat 0:=by rw[xB,SR,Ek]
  have iF:=(a1j (s:=s) bX).B2 i aB (xB a ps.l i);have a9z:=(a0f (s:=s) bX).B2 i aB (xB a ps.l i);rw[<-c6.drop,V4]at iF a9z;rw[EJ,if_neg c6.dZ,V4,<-c6.drop,<-SR]at cW;have a9w:=c6.aKK;rw[<-SR,<-Ek]at a9w;apply jK∘A6∘U3∘h1∘aKm∘aBz∘dO;intro lI;apply(J4);refine jR M [0,1,2,3,4,5,6,7,8,9,10,11,12,13] _ mixed aQ iP ?_;apply a0z∘U4∘aEO∘s0∘a0z∘U4∘aHm∘s0∘A7∘HP;refine jI (bY (cC (dM ?_)));apply gF∘h1∘AL;refine aJ ?_ ?_<;>intro cK;·rw[if_pos cK]at cW;apply nP∘Lz∘cJ;refine eD rfl aP7 ?_;exact(oE) a4L
  rw[if_neg cK,if_pos D]at cW;apply nP∘Lz∘cJ;refine eD rfl aP9 ?_;exact(oD) a4L
 obtain rfl:k=x.l.length:=by omega
 apply(Ct);refine eL L R ?_;have e:=a71 (F:=u9) (aD:=u6) (a:=a) (s:=s) (ps:=ps.l) (v:=v.toNat) a.aE.Z.l.length a.aE.Z.l.length (gS _);rw[Ba cS.1]at e;exact⟨by rw[BK,BB,S8,e],rfl,rfl⟩
def aDY(n:rL)(a:bT)(s:cG)(ps:bP Int)(v:Int)(L:aW)(R:aP)(IY:aN (p0 n.lE) R)(G8:aN (pH n.l9) R)(tS:aN (dW ps) R)(bA:JQ a s n)(bX:sG a)(aZ:ps.l.length=a.aE.places.l.length)(aT:rI ps.l)(cS:0<=v/\v<a.aE.places.l.length):
 aM prog 106 [n.val,ps.val,.int .i64 v].toArray L R (λw E R'=>w=.int .i64 (BW a s ps.l v)/\L=E/\R=R'):=by
 obtain⟨x,K⟩:=lQ (l:=n.l9.l) (k:=v.toNat) (by rw[bA.a1B];omega);have S8:=bA.l9 _ _ K;have b5c:=aN.W G8 K;have HD:=bX.aE.Z;have b1J:=bA.a1B;have xY:x.l.length<=a.aE.Z.l.length:=by rw[S8];exact Qb a _ _
 refine cX 57 call106 func106 rfl rfl rfl ?_;apply(fC);intro e4;apply p5∘kB∘h1∘aIH∘kY∘R0;refine e3 [(1,.slice _ _ _),(2,.int _ _),(3,.pointer _),(7,.int _ _),(16,.slice _ _ _),(17,.int _ _),(18,.int _ _)] cB λg9=>?_;refine lF ([7,9,10,11]++dJ 18 38) (λg:{k:Nat//k<=x.l.length}=>[(7,.int .i64 (y9 u6 u9 a s ps.l v a.aE.Z.l.length (x.l.take g.1))),(18,.int .i64 ((g.1:Nat):Int))]) (λg=>x.l.length-g.1) (⟨0,by omega⟩) ?_;rintro⟨k,Y⟩ c1;try dsimp only
 apply(gU);refine aJ ?_ ?_<;>intro bI;·
  obtain⟨e,V⟩:=lQ (l:=x.l) (k:=k) D;obtain⟨i,p,c6⟩:=bA.entry bX (v:=v.toNat) (e:=e) (by rw[<-S8];exact hS V);have b2r:=c6.V;have M1:=c6.get;have aAl:=aN.PW IY M1;have mI:=c6.aS;have Up:=mI.bK;have Lh:=mI.to;have SR:=c6.bK;have Ek:=c6.to;have aB:=c6.aB;have S5:=a5o (ps:=ps.l) (v:=v) (a0f (s:=s) bX) (a1j (s:=s) bX) D (x.l.take k);have aAD:(x.l.take k).length<=k:=List.length_take_le _ _;have cW:=aFn (F:=u6) (aD:=u9) (a:=a) (s:=s) (ps:=ps.l) (v:=v) (n:=a.aE.Z.l.length) V;rw[c6.o9]at cW;have yJ:=bR (l:=ps.l) (k:=p.aS.bK.toNat) 0 D;have Ez:=bR (l:=ps.l) (k:=p.aS.to.toNat) 0 D;have PJ:=aT.get p.aS.bK.toNat;have yH:=aT.get p.aS.to.toNat;have V4:xB a ps.l i=ps.l.getD p.aS.bK.toNat 0-ps.l.getD p.aS.to.toNat 0:=by rw[xB,SR,Ek]
  have iF:=(a0f (s:=s) bX).B2 i aB (xB a ps.l i);have a9z:=(a1j (s:=s) bX).B2 i aB (xB a ps.l i);rw[<-c6.drop,V4]at iF a9z;rw[EJ,if_neg c6.dZ,V4,<-c6.drop,<-SR]at cW;have a9w:=c6.aKK;rw[<-SR,<-Ek]at a9w;apply jK∘A6∘U3∘h1∘aKm∘aBz∘dO;intro lI;apply(J4);refine jR M [0,1,2,3,4,5,6,7,8,9,10,11,12,13] _ mixed aQ iP ?_;apply a0z∘U4∘aEO∘s0∘a0z∘U4∘aHm∘s0∘A7∘HP;refine jI (bY (cC (dM ?_)));apply gF∘h1∘AL;refine aJ ?_ ?_<;>intro cK;·rw[if_pos cK]at cW;apply nP∘Lz∘cJ;refine eD rfl aP9 ?_;exact(oE) a4L
  rw[if_neg cK,if_pos D]at cW;apply nP∘Lz∘cJ;refine eD rfl aP7 ?_;exact(oD) a4L
 obtain rfl:k=x.l.length:=by omega
 apply(Ct);refine eL L R ?_;have e:=a71 (F:=u6) (aD:=u9) (a:=a) (s:=s) (ps:=ps.l) (v:=v.toNat) a.aE.Z.l.length a.aE.Z.l.length (gS _);rw[Ba cS.1]at e;exact⟨by rw[BW,BB,S8,e],rfl,rfl⟩
abbrev mT(up:Bool):Int:=if up then 1 else -1
abbrev r0(up:Bool)(start:Int):Int:=if up then 70368744177664-start else start+70368744177664
structure Bm(g:Int->Bool)(start:Int)(up:Bool)(v:Int)(ok:Bool):Prop where
 z1:ok=true->∃m,0<=m/\m<=r0 up start/\v=start+mT up*m/\g v=true/\∀j,0<=j->j<m->g (start+mT up*j)=false
 no:ok=false->v=0/\∀j,0<=j->j<=r0 up start->g (start+mT up*j)=false
def Pj(g:Int->Bool)(start:Int)(up:Bool):Prop:=∀i j,0<=i->i<=j->j<=r0 up start->g (start+mT up*i)=true->g (start+mT up*j)=true
def Pj.no{g:Int->Bool}{start:Int}{up:Bool}(h:Pj g start up){i j:Int}(bV:0<=i)(a2q:i<=j)(a6:j<=r0 up start)(bE:g (start+mT up*j)=false):g (start+mT up*i)=false:=by
 cases e:g (start+mT up*i)with
 |false=>rfl
 |true=>rw[h i j bV a2q a6 e]at bE;cases bE
def a08{up:Bool}{z:Int}(h:0<=z/\z<=281474976710656):-281474976710656<=mT up*z/\mT up*z<=281474976710656:=by cases up<;>simp only[mT]<;>simp<;>omega
def Yu{up:Bool}{start z:Int}(aF:-70368744177664<=start/\start<=70368744177664)(h:0<=z/\z<=r0 up start):-70368744177664<=start+mT up*z/\start+mT up*z<=70368744177664:=by cases up<;>simp only[mT,r0]at h|- <;>simp at h|- <;>omega
def Oe{up:Bool}{start:Int}(aF:-70368744177664<=start/\start<=70368744177664):0<=r0 up start/\r0 up start<=140737488355328:=by cases up<;>simp[r0]<;>omega
def aJw(f:FuncId)(cap:Array Value)(LJ:Int->aW)(g:Int->Bool)(start:Int)(up:Bool)(y:Int)(R:aP)(aF: -70368744177664<=start/\start<=70368744177664)(a1:Pj g start up)
 (bU:∀x y,-70368744177664<=x/\x<=70368744177664->aM prog f (.int .i64 x::cap.toList).toArray (LJ y) R (λv E R'=>v=.bool (g x)/\LJ x=E/\R=R')):
 aM prog 150 [.int .i64 start,.bool up,.func (.func f) #[] cap].toArray (LJ y) R (λv E R'=>∃(z:Int) (ok:Bool) (aPv:Int),v=.tuple #[.int .i64 z,.bool ok]/\Bm g start up z ok/\LJ aPv=E/\R=R'):=by
 have mI:=Oe (up:=up) aF;have a8u:start+mT up*0=start:=by simp
 refine cX 80 call150 func150 rfl rfl rfl ?_;apply oO∘xF;refine aA jE rfl ?_;apply(cJ);refine VI (He rfl rfl (bU start y aF)) rfl rfl ?_;rintro v E R' ⟨rfl,rfl,rfl⟩;apply(dD);refine aJ ?_ ?_<;>intro bI;·apply RZ∘l6∘DZ;refine cF (LJ start) R TS ?_;exact⟨start,true,start,rfl,⟨λ_=>⟨0,by omega,by omega,a8u.symm,bI,λj G U=>by omega⟩,λh=>by cases h⟩,rfl,rfl⟩
 apply gI∘a0C∘eA∘kB∘J5;refine w6 [8,9,21,22] ((⟨λ_=>[(8,.int .i64 (mT up)),(9,.int .i64 (r0 up start))],λ_=>LJ start,λ_=>R,λ_=>0⟩:e0 Unit)) ?_ ?_;·
  skip
  refine aJ ?_ ?_<;>intro cK;·apply nP∘oE∘eA∘Iw;subst cK;exact zX ()
  refine gG ?_;subst cK;exact zX ()
 rintro u c1;try dsimp only
 apply oO∘E9;refine w6 ([10,11]++dJ 23 16) ((⟨λg=>[(10,.int .i64 g.1.1),(11,.int .i64 g.1.2.1)],λg=>LJ g.1.2.2,λ_=>R,λ_=>0⟩:e0 {q:Int×Int×Int//(0<=q.1/\q.1<q.2.1/\q.2.1<=281474976710656)/\g (start+mT up*q.1)=false/\(q.1=0\/q.1<r0 up start)/\(q.2.1<r0 up start->g (start+mT up*q.2.1)=true)})) ?_ ?_;·
  refine iH ?_;refine ON ([10,11]++dJ 23 16) QD [(10,.int _ _),(11,.int _ _)] cB λg9=>?_;refine m6 ([10,11]++dJ 23 16) ((⟨λg=>[(10,.int .i64 g.1.1),(11,.int .i64 g.1.2.1)],λg=>LJ g.1.2.2,λ_=>R,λg=>(r0 up start+1-g.1.1).toNat⟩:e0 {q:Int×Int×Int//((q.1=0/\q.2.1=1)\/(1<=q.1/\q.2.1=q.1*2))/\g (start+mT up*q.1)=false/\(q.1=0\/q.1<r0 up start)})) (⟨(0,1,start),.inl ⟨rfl,rfl⟩,by rw[a8u];exact bI,.inl rfl⟩) ?_;rintro⟨⟨GZ,VW,K1⟩,a18,PJ,a2a⟩ c1;try dsimp only
  dsimp only at a18 PJ a2a;have a9D:=a08 (up:=up) (z:=VW) D;apply nR∘cJ∘q5;refine Im (k:=26) b2 (λfV=>?_) (λfV=>?_);·
   replace fV:=cP fV;refine x9 jE rfl rfl ?_;(iterate 3 refine x9 (mN D9) rfl rfl ?_);apply aGG∘aHD;refine VI (He rfl rfl (bU (start+mT up*VW) K1 (Yu aF D))) rfl rfl ?_;rintro v E R' ⟨rfl,rfl,rfl⟩;refine x9 (UT rfl) rfl rfl ?_;apply Yt∘dD;refine aJ ?_ ?_<;>intro dE;·refine gG (bY (cC (iH (dM ?_))));apply cJ∘eA∘XE∘LU∘Iw;exact eG ⟨(VW,VW*2,start+mT up*VW),by dsimp only;omega,by simpa using dE,by dsimp only;omega⟩
   exact aPG
  replace fV:=cP fV;iterate 8 refine Bt rfl rfl ?_
  apply Yt∘dD;refine CT rfl ?_;exact aPG
 rintro⟨⟨GZ,VW,K1⟩,a18,PJ,a2a,Em⟩ c1;try dsimp only
 dsimp only at a18 PJ a2a Em;apply nR∘cJ∘IF;refine w6 ([6,7,11]++dJ 42 14) ((⟨λq=>[(11,.int .i64 q.1.1)],λq=>LJ q.1.2,λ_=>R,λ_=>0⟩:e0 {q:Int×Int//GZ<q.1/\q.1<=r0 up start/\g (start+mT up*q.1)=true})) ?_ ?_;·
  skip
  refine aJ ?_ ?_<;>intro gZ;·
   apply OA∘E9;have a9D:=a08 (up:=up) (z:=r0 up start) D;apply nP∘cJ∘D0∘fD;refine Im (k:=46) b2 (λfV=>?_) (λfV=>?_);·replace fV:=cP fV;(iterate 8 refine Bt rfl rfl ?_);apply Yt∘dD;refine yX rfl ?_;exact aO7
   replace fV:=cP fV;refine x9 jE rfl rfl ?_;(iterate 3 refine x9 (mN D9) rfl rfl ?_);apply aGG∘aHD;refine VI (He rfl rfl (bU (start+mT up*r0 up start) K1 (Yu aF D))) rfl rfl ?_;rintro v E R' ⟨rfl,rfl,rfl⟩;refine x9 (UT rfl) rfl rfl ?_;apply Yt∘dD;refine aJ ?_ ?_<;>intro fW;·exact aO7
   refine gG ?_;exact zX ⟨(r0 up start,start+mT up*r0 up start),by dsimp only;omega,by dsimp only;omega,by simpa using fW⟩
  refine gG ?_;exact zX ⟨(VW,K1),by dsimp only;omega,by dsimp only;omega,Em D⟩
 rintro⟨⟨b0z,b6U⟩,b0E,b0F,aK2⟩ c1;try dsimp only
 dsimp only at b0E b0F aK2;refine cC (iH ?_);refine e3 [(0,.int _ _),(2,_),(8,.int _ _),(10,.int _ _),(11,.int _ _)] cB λs4=>?_;refine m6 ([10,11,12]++dJ 56 19) ((⟨λq=>[(10,.int .i64 q.1.1),(11,.int .i64 q.1.2.1)],λq=>LJ q.1.2.2,λ_=>R,λq=>(q.1.2.1-q.1.1).toNat⟩:e0 {q:Int×Int×Int//(0<=q.1/\q.1<q.2.1/\q.2.1<=r0 up start)/\g (start+mT up*q.1)=false/\g (start+mT up*q.2.1)=true})) (⟨(GZ,b0z,b6U),by dsimp only;omega,PJ,aK2⟩) ?_;rintro⟨⟨cN,aB,aBV⟩,vW,gP,qR⟩ c1;try dsimp only
 dsimp only at vW gP qR;apply nR∘a6U∘nD;refine aJ ?_ ?_<;>intro lJ;·
  obtain⟨TD,aMl⟩:∃TD,TD=cN+(aB-cN).tdiv 2:=⟨_,rfl⟩;have aMk:cN<TD/\TD<aB:=by rw[XP D]at aMl;omega
  have b85:0<=(aB-cN).tdiv 2/\(aB-cN).tdiv 2<=aB-cN:=by rw[XP D];omega
  refine gG (bY (iH (cC (dM ?_))));iterate 3 apply(cJ)
  apply oD∘Gd∘oE∘E9;rw[<-aMl];have a9D:=a08 (up:=up) (z:=TD) D;apply(e1);refine aA jE rfl ?_;iterate 3 apply(cJ)
  apply XD∘oE;refine VI (He rfl rfl (bU (start+mT up*TD) aBV (Yu aF D))) rfl rfl ?_;rintro v E R' ⟨rfl,rfl,rfl⟩;apply(dD);refine aJ ?_ ?_<;>intro kK;·apply nP∘eA;refine eS (hG ?_);exact eG ⟨(cN,TD,start+mT up*TD),by dsimp only;omega,gP,kK⟩
  apply nP∘eA;refine eS (hG ?_);exact eG ⟨(TD,aB,start+mT up*TD),by dsimp only;omega,kK,qR⟩
 apply(ND);have a9D:=a08 (up:=up) (z:=aB) D;apply(e1);iterate 3 apply(cJ)
 apply XD∘oE∘eA∘sP;refine cF (LJ aBV) R TS ?_;exact⟨start+mT up*aB,true,aBV,rfl,⟨λ_=>⟨aB,by omega,by omega,rfl,qR,λj G U=>a1.no G (show j<=cN by omega) D gP⟩,λh=>by cases h⟩,rfl,rfl⟩
def aM.a3a{P:Program}{f:FuncId}{args:Array Value}{A:aW}{R:aP}{p:J Int}{T:TypeId}{u:Value}(jQ:pA (p.L T aR) A)(bM:p.ok 1 aR)
 (h:aM P f args [] (dW p.W::R) (λv E R'=>v=u/\[]=E/\dW p.W::R=R')):aM P f args A R (λv E R'=>v=u/\A=E/\R=R'):=by have U:=aM.TB (S:=[dW p.W]) (Post:=λv E=>v=u/\[]=E) (nA.aC (L:=A)) (λw aD bF s aF=>by rw[List.mem_singleton.1 aF];exact wD bF jQ bM bH aX eW) (h.mono λv E R' ⟨hO,a2,a3⟩=>⟨⟨hO,a2⟩,a3⟩);exact aPV
def a6m{o:gT}{l:List Int}{k:Nat}{y:Int}:(⟨o,l⟩:J Int).val=(⟨o,l.set k y⟩:J Int).val:=J.aOi.symm
structure QJ(n:rL)(a:bT)(s:cG)(ps:List Int)(v:Int)(R:aP):Prop where
 uX:aN (p0 n.lE) R
 a1z:aN (pH n.l9) R
 is:JQ a s n
 ok:sG a
 len:ps.length=a.aE.places.l.length
 b5:rI ps
 v:0<=v/\v<a.aE.places.l.length
def aVz{n:rL}{a:bT}{s:cG}{o:gT}{ps:List Int}{v y:Int}{A:aW}{R:aP}(h:QJ n a s ps v R)(bB:-70368744177664<=y/\y<=70368744177664)(jQ:pA ((⟨o,ps.set v.toNat y⟩:J Int).L 3 aR) A)(bM:(⟨o,ps.set v.toNat y⟩:J Int).ok 1 aR):
 aM prog 105 [n.val,(⟨o,ps⟩:J Int).val,.int .i64 v].toArray A R (λw E R'=>w=.int .i64 (BK a s (ps.set v.toNat y) v)/\A=E/\R=R'):=by rw[a6m (k:=v.toNat) (y:=y)];exact aM.a3a jQ bM (aIc n a s (⟨o,ps.set v.toNat y⟩:J Int).W v [] _ (h.uX.mono λr O=>aU (.tail _ O)) (h.a1z.mono λr O=>aU (.tail _ O)) mL h.is h.ok (by simp[h.len]) (h.b5.set _ bB) h.v)
def aSg{n:rL}{a:bT}{s:cG}{o:gT}{ps:List Int}{v y:Int}{A:aW}{R:aP}(h:QJ n a s ps v R)(bB:-70368744177664<=y/\y<=70368744177664)(jQ:pA ((⟨o,ps.set v.toNat y⟩:J Int).L 3 aR) A)(bM:(⟨o,ps.set v.toNat y⟩:J Int).ok 1 aR):
 aM prog 106 [n.val,(⟨o,ps⟩:J Int).val,.int .i64 v].toArray A R (λw E R'=>w=.int .i64 (BW a s (ps.set v.toNat y) v)/\A=E/\R=R'):=by rw[a6m (k:=v.toNat) (y:=y)];exact aM.a3a jQ bM (aDY n a s (⟨o,ps.set v.toNat y⟩:J Int).W v [] _ (h.uX.mono λr O=>aU (.tail _ O)) (h.a1z.mono λr O=>aU (.tail _ O)) mL h.is h.ok (by simp[h.len]) (h.b5.set _ bB) h.v)
abbrev Cy(a:bT)(s:cG)(ps:List Int)(v:Int):Int->Bool:=λx=>decide (0<=BK a s (ps.set v.toNat x) v)
abbrev Da(a:bT)(s:cG)(ps:List Int)(v:Int):Int->Bool:=λx=>decide (BW a s (ps.set v.toNat x) v<=0)
def aXA{a:bT}{s:cG}{ps:List Int}{v start:Int}(bX:sG a)(cS:v.toNat<ps.length):Pj (Cy a s ps v) start true:=by intro i j bV a2q a6 bE;rw[decide_eq_true_eq]at bE|-;have:=aSf (s:=s) bX (aGd (ps:=ps) cS (show start+mT true*i<=start+mT true*j by simp only[mT];simp;omega));omega
def aYb{a:bT}{s:cG}{ps:List Int}{v start:Int}(bX:sG a)(cS:v.toNat<ps.length):Pj (Da a s ps v) start false:=by intro i j bV a2q a6 bE;rw[decide_eq_true_eq]at bE|-;have:=aWa (s:=s) bX (aGd (ps:=ps) cS (show start+mT false*j<=start+mT false*i by simp only[mT];simp;omega));omega
abbrev SD(mF fK e4:Nat)(n:rL)(o:gT)(ps:List Int)(v:Int)(L:aW)(y:Int):aW:=
 ⟨mF,[(⟨o,ps⟩:J Int).val],33⟩::((⟨o,ps.set v.toNat y⟩:J Int).L 3 aR++(⟨fK,[.int .i64 v],3⟩::⟨e4,n.cells,175⟩::L))
def aVI{mF fK e4:Nat}{n:rL}{a:bT}{s:cG}{o:gT}{ps:List Int}{u:Int}{L:aW}{R:aP}(h:QJ n a s ps u R)(bM:(⟨o,ps⟩:J Int).ok 1 aR)(x y:Int)(K:-70368744177664<=x/\x<=70368744177664):
 aM prog 152 [.int .i64 x,.pointer (some ⟨mF,0,none⟩),.pointer (some ⟨fK,0,none⟩),.pointer (some ⟨e4,0,none⟩)].toArray (SD mF fK e4 n o ps u L y) R (λw E R'=>w=.bool (Cy a s ps u x)/\SD mF fK e4 n o ps u L x=E/\R=R'):=by have cS:=h.v;have sU:=h.len;have HE:∀z,(⟨o,ps.set u.toNat z⟩:J Int).ok 1 aR:=λz=>J.tU E3 bM eY;have b3T:=HE y;have Kt:=bR (l:=ps.set u.toNat y) (k:=u.toNat) 0 EB;refine cX 15 call152 func152 rfl rfl rfl ?_;apply E8∘iG∘kZ∘kZ∘cJ∘aHd∘aFi;rintro v E R' ⟨rfl,rfl⟩;apply(j6);refine e7 (by rw[P6]) ?_;apply e1∘lG∘kZ∘kZ;refine eD rfl (aVz (o:=o) (y:=x) h K BD (HE x)) ?_;apply NC∘sP;refine m5 (SD mF fK e4 n o ps u L x) R ?_;exact BJ
def aSv(n:rL)(a:bT)(s:cG)(ps:bP Int)(u:Int)(L:aW)(R:aP)(h:QJ n a s ps.l u R)(tS:aN (dW ps) R):
 aM prog 104 [n.val,ps.val,.int .i64 u].toArray L R (λw E R'=>∃(z:Int) (ok:Bool),w=.tuple #[.int .i64 z,.bool ok]/\Bm (Cy a s ps.l u) (ps.l.getD u.toNat 0) true z ok/\L=E/\R=R'):=by have cS:=h.v;have sU:=h.len;have n2:=h.ok.aE.places;have Kt:=bR (l:=ps.l) (k:=u.toNat) 0 D;have aT:=h.b5.get u.toNat;have cW:=aXA (s:=s) (start:=ps.l.getD u.toNat 0) h.ok (ps:=ps.l) (v:=u) D;refine cX 19 call104 func104 rfl rfl rfl ?_;apply(fC);intro e4;refine a7p (v:=Value.int _ _) rfl rfl rfl ?_;intro fK;apply eA∘uK∘gQ∘aJ3;rintro v E R' ⟨W6,rfl,Uc,rfl,rfl⟩;apply(dO);intro mF;apply aBs∘iG∘gQ∘kZ∘aG8∘kY;refine aA (a02 rfl) rfl ?_;refine a6p aP3 ?_;refine dN rfl (aJw 152 #[.pointer (some ⟨mF,0,none⟩),.pointer (some ⟨fK,0,none⟩),.pointer (some ⟨e4,0,none⟩)] (SD mF fK e4 n W6 ps.l u L) (Cy a s ps.l u) (ps.l.getD u.toNat 0) true (ps.l.getD u.toNat 0) _ aT cW (λx y K=>aVI h Uc x y K)) rfl ?_;exact aPR
def aZG{mF fK e4:Nat}{n:rL}{a:bT}{s:cG}{o:gT}{ps:List Int}{u:Int}{L:aW}{R:aP}(h:QJ n a s ps u R)(bM:(⟨o,ps⟩:J Int).ok 1 aR)(x y:Int)(K:-70368744177664<=x/\x<=70368744177664):
 aM prog 151 [.int .i64 x,.pointer (some ⟨mF,0,none⟩),.pointer (some ⟨fK,0,none⟩),.pointer (some ⟨e4,0,none⟩)].toArray (SD mF fK e4 n o ps u L y) R (λw E R'=>w=.bool (Da a s ps u x)/\SD mF fK e4 n o ps u L x=E/\R=R'):=by have cS:=h.v;have sU:=h.len;have HE:∀z,(⟨o,ps.set u.toNat z⟩:J Int).ok 1 aR:=λz=>J.tU E3 bM eY;have b3T:=HE y;have Kt:=bR (l:=ps.set u.toNat y) (k:=u.toNat) 0 EB;refine cX 15 call151 func151 rfl rfl rfl ?_;apply E8∘iG∘kZ∘kZ∘cJ∘aHd∘aFi;rintro v E R' ⟨rfl,rfl⟩;apply(j6);refine e7 (by rw[P6]) ?_;apply e1∘lG∘kZ∘kZ;refine eD rfl (aSg (o:=o) (y:=x) h K BD (HE x)) ?_;apply D0∘sP;refine m5 (SD mF fK e4 n o ps u L x) R ?_;exact BJ
def aSo(n:rL)(a:bT)(s:cG)(ps:bP Int)(u:Int)(L:aW)(R:aP)(h:QJ n a s ps.l u R)(tS:aN (dW ps) R):
 aM prog 103 [n.val,ps.val,.int .i64 u].toArray L R (λw E R'=>∃(z:Int) (ok:Bool),w=.tuple #[.int .i64 z,.bool ok]/\Bm (Da a s ps.l u) (ps.l.getD u.toNat 0) false z ok/\L=E/\R=R'):=by have cS:=h.v;have sU:=h.len;have n2:=h.ok.aE.places;have Kt:=bR (l:=ps.l) (k:=u.toNat) 0 D;have aT:=h.b5.get u.toNat;have cW:=aYb (s:=s) (start:=ps.l.getD u.toNat 0) h.ok (ps:=ps.l) (v:=u) D;refine cX 19 call103 func103 rfl rfl rfl ?_;apply(fC);intro e4;refine a7p (v:=Value.int _ _) rfl rfl rfl ?_;intro fK;apply eA∘uK∘gQ∘aJ3;rintro v E R' ⟨W6,rfl,Uc,rfl,rfl⟩;apply(dO);intro mF;apply aBs∘iG∘gQ∘kZ∘aG8∘kY;refine aA (a02 rfl) rfl ?_;refine a6p aP3 ?_;refine dN rfl (aJw 151 #[.pointer (some ⟨mF,0,none⟩),.pointer (some ⟨fK,0,none⟩),.pointer (some ⟨e4,0,none⟩)] (SD mF fK e4 n W6 ps.l u L) (Da a s ps.l u) (ps.l.getD u.toNat 0) false (ps.l.getD u.toNat 0) _ aT cW (λx y K=>aZG h Uc x y K)) rfl ?_;exact aPR
def Sa{ps:List Int}(h:ps.findSome? uF=none):rI ps:=λp aG=>by
 obtain⟨i,aB⟩:=List.mem_iff_getElem?.1 aG
 exact aUh h i p aB
def a5b{ps:List Int}(h:rI ps):ps.findSome? uF=none:=List.findSome?_eq_none_iff.2 λp aG=>by
 have:=h p aG
 exact if_neg D
section
variable{a:bT}{s:cG}{ps:bP Int}{v:Int}
end
end Go.Proofs.YtdiajbdaadlfhaaGreatDoor
namespace Go.Proofs.YtdiajbdaadlfhaaGreatDoor
open Go.Aw Go Go.Proofs.Tryz
end Go.Proofs.YtdiajbdaadlfhaaGreatDoor
