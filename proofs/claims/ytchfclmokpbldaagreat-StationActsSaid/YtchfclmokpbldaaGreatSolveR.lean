--By an AI agent.
import Derived.Test.YtchfclmokpbldaaGreatFits
set_option maxRecDepth 9999
set_option linter.all false
set_option maxHeartbeats 0
variable{A B:Prop}
def QI(h:A->B:=by exact(a4 oG ·)):=h
def a6h(h:A->B:=by exact gJ O [0,1,2,3,4,5,6,7,8,9,10,11,12,13,14,15,16,17] _ cX bE g3):=h
def a5n(h:A->B:=by exact(a4 aYI ·)):=h
def a56(h:A->B:=by exact(a4 aYM ·)):=h
def a3Z(h:A->B:=by exact(aG VJ ·)):=h
def a4a(h:A->B:=by exact gO b0q rfl):=h
def aCt(h:A->B:=by exact(aG (h4 O ((⟨p0,ps.l.set u.toNat start⟩:J Int)) _ rfl rfl ((show _=Value.slice _ _ _ from rfl).trans WB) rfl bC (i:=u.toNat) cW iC) ·)):=h
def aC8(h:A->B:=by exact(aG (qK O ((⟨p0,ps.l.set u.toNat start⟩:J Int)) rfl rfl rfl c0 bC bI bC aE) ·)):=h
def a5d(h:A->B:=by exact(aG (h4 O ((⟨p0,ps.l.set u.toNat y⟩:J Int)) _ rfl rfl ((show _=Value.slice _ _ _ from rfl).trans WB) rfl bC (i:=u.toNat) cW iC) ·)):=h
def a9M(h:A->B:=by exact(aG (h4 O ((⟨p0,ps.l.set u.toNat w⟩:J Int)) _ rfl rfl ((show _=Value.slice _ _ _ from rfl).trans WB) rfl bC (i:=u.toNat) cW iC) ·)):=h
def aC4(h:A->B:=by exact(aG (qK O ((⟨p0,ps.l.set u.toNat w⟩:J Int)) rfl rfl rfl c0 bC bI bC aE) ·)):=h
def a5P(h:A->B:=by exact(aG (h4 O ((⟨p0,ps.l.set u.toNat pZ⟩:J Int)) _ rfl rfl ((show _=Value.slice _ _ _ from rfl).trans WB) rfl bC (i:=u.toNat) cW iC) ·)):=h
def a5y(h:A->B:=by exact(aG (qK O ((⟨p0,ps.l.set u.toNat pZ⟩:J Int)) rfl rfl rfl c0 bC bI bC aE) ·)):=h
def aKv(h:A->B:=by exact(aG (by first|exact j9 O rfl rfl rfl rfl jC (i:=v.toNat) cW D|exact i9 O rfl rfl rfl rfl (i:=v.toNat) cW D) ·)):=h
def aJr(h:A->B:=by exact(aG (by first|exact j9 O rfl rfl rfl rfl jC (i:=e.toNat) cW D|exact i9 O rfl rfl rfl rfl (i:=e.toNat) cW D) ·)):=h
def aKY(h:A->B:=by exact(a4 (by first|exact j9 O rfl rfl rfl rfl jC (i:=p.b9.bK.toNat) cW D|exact i9 O rfl rfl rfl rfl (i:=p.b9.bK.toNat) cW D) ·)):=h
def aKF(h:A->B:=by exact(a4 (by first|exact j9 O rfl rfl rfl rfl jC (i:=p.b9.to.toNat) cW D|exact i9 O rfl rfl rfl rfl (i:=p.b9.to.toNat) cW D) ·)):=h
def aJP(h:A->B:=by exact(aG qH ·)):=h
def aN1(h:A->B:=by exact(kM aIP ·)):=h
def aQO(h:A->B:=by exact(kM a25 ·)):=h
def aRF(h:A->B:=by exact(aG (h4 O ((⟨o,ps.set u.toNat y⟩:J Int)) _ rfl rfl ((show _=Value.slice _ _ _ from rfl).trans WB) rfl bC (i:=u.toNat) cW iC) ·)):=h
def aJt(h:A->B:=by exact i4 (jL O ((⟨o,ps.set u.toNat y⟩:J Int)) (x) rfl rfl rfl rfl c0 bC bI bC bH aE aE)):=h
def aQD(h:A->B:=by exact(aG (by first|exact j9 O rfl rfl rfl rfl jC (i:=u.toNat) cW D|exact i9 O rfl rfl rfl rfl (i:=u.toNat) cW D) ·)):=h
def aRE(h:A->B:=by exact mJ (show _=(⟨p0,ps.l.set u.toNat start⟩:J Int).L 3 aL++(⟨eH,s.cells,80⟩::⟨cT,a.cells,32⟩::L)from by rw[aTK];rfl)):=h
def b3i(h:B:=by exact⟨start,true,rfl,⟨λ_=>⟨0,by omega,by rw[Hp];omega,by simp,by rw[decide_eq_true_eq];exact aO,λj N V=>by omega⟩,λh=>by cases h⟩,rfl,rfl⟩):=h
def aPH(h:A->B:=by exact(aG (qK O ((⟨p0,ps.l.set u.toNat y⟩:J Int)) rfl rfl rfl c0 bC bI bC aE) ·)):=h
def aOm(h:A->B:=by exact(aG (h4 O ((⟨p0,ps.l.set u.toNat z⟩:J Int)) _ rfl rfl ((show _=Value.slice _ _ _ from rfl).trans WB) rfl bC (i:=u.toNat) cW iC) ·)):=h
def aLP(h:A->B:=by exact i4 (jL O ((⟨p0,ps.l.set u.toNat z⟩:J Int)) ((b6+(aA-b6).tdiv 2)) rfl rfl rfl rfl c0 bC bI bC bH aE aE)):=h
namespace Go.Proofs.YtchfclmokpbldaaGreat
open Go.Aw Go Go.Proofs.Tryz
def tU(a:bR)(ps:List Int)(k:Nat):Int:=ps.getD (a.Y.aD.l.getD k default).bK.toNat 0-ps.getD (a.Y.aD.l.getD k default).to.toNat 0
def CT(F aC:(Int->a9)->Int->Int)(a:bR)(s:cE)(ps:List Int)(v:Int)(k:Nat):Int:=
 if(a.Y.aD.l.getD k default).dM=true then 0
 else if(a.Y.aD.l.getD k default).bK=v then F (lU a s k) (tU a ps k)
 else if(a.Y.aD.l.getD k default).to=v then -(aC (lU a s k) (tU a ps k))else 0
def y9(F aC:(Int->a9)->Int->Int)(a:bR)(s:cE)(ps:List Int)(v:Int):Nat->Int
 |0=>0
 |k+1=>y9 F aC a s ps v k+CT F aC a s ps v k
def BH(a:bR)(s:cE)(ps:List Int)(v:Int):Int:=y9 tB s8 a s ps v a.Y.aD.l.length
def BD(a:bR)(s:cE)(ps:List Int)(v:Int):Int:=y9 s8 tB a s ps v a.Y.aD.l.length
structure Ends(F:(Int->a9)->Int->Int)(a:bR)(s:cE):Prop where
 vK:∀k:Nat,k<a.Y.aD.l.length->∀p,-1048577<=F (lU a s k) p/\F (lU a s k) p<=1048577
def ZQ{a:bR}{s:cE}(ha:rH a):Ends tB a s:=⟨λk hk p=>by have:=(aCZ (s:=s) ha (r:=(k:Int)) D p).vK;omega⟩
def Y5{a:bR}{s:cE}(ha:rH a):Ends s8 a s:=⟨λk hk p=>by have:=(aBv (s:=s) ha (r:=(k:Int)) D p).vK;omega⟩
section
variable{F aC:(Int->a9)->Int->Int}{a:bR}{s:cE}{ps:List Int}{v:Int}
def aP2(h1:Ends F a s)(nW:Ends aC a s){k:Nat}(hk:k<a.Y.aD.l.length):-1048577<=CT F aC a s ps v k/\CT F aC a s ps v k<=1048577:=by
 have N:=h1.vK k hk (tU a ps k);have V:=nW.vK k hk (tU a ps k);unfold CT;split;·omega
 ·
  split;·exact N
  ·split<;>omega
def aBz(h1:Ends F a s)(nW:Ends aC a s): ∀k:Nat,k<=a.Y.aD.l.length-> -(1048577*(k:Int))<=y9 F aC a s ps v k/\y9 F aC a s ps v k<=1048577*(k:Int)
 |0,_=>by simp[y9]
 |k+1,hk=>by
  have cM:=aBz h1 nW k D
  have h:=aP2 (ps:=ps) (v:=v) h1 nW (k:=k) D
  rw[y9]
  omega
def CB(F aC:(Int->a9)->Int->Int)(a:bR)(s:cE)(ps:List Int)(v:Int)(n:Nat):List Int->Int
 |[]=>0
 |e::l=>CB F aC a s ps v n l+CT F aC a s ps v ((qO a n).getD e.toNat 0)
def aNx(n:Nat)(l m:List Int):CB F aC a s ps v n (l++m)=CB F aC a s ps v n l+CB F aC a s ps v n m:=by
 induction l with
 |nil=>simp[CB]
 |cons e l cM=>rw[oF,CB,CB,cM];omega
def aC6(a:bR){k:Nat}: ∀{n:Nat},k<=n->∃m,qO a n=qO a k++m
 |0,h=>⟨[],by rw[show k=0 by omega];rfl⟩
 |n+1,h=>by
  rcases gY n k with cN|cN
  ·exact⟨[],by rw[show k=n+1 by omega];simp⟩
  ·obtain⟨m,hm⟩:=aC6 a (k:=k) (n:=n) cN
   rw[qO]
   split
   ·exact⟨m,hm⟩
   ·exact⟨m++[n],by rw[hm,mQ]⟩
def aQu(a:bR){k n:Nat}(hk:k<n)(hc:¬(a.Y.aD.l.getD k default).dM=true):(qO a n).getD (qO a k).length 0=k:=by obtain⟨m,hm⟩:=aC6 a (show k+1<=n from hk);rw[hm,qO,if_neg hc,mQ,iW,NM (g4 _)];simp
def aBe(n:Nat){v:Nat}: ∀k,k<=n->CB F aC a s ps v n (JY a v k)=y9 F aC a s ps v k
 |0,_=>rfl
 |k+1,hk=>by
  have cM:=aBe n (v:=v) k D
  rw[JY,y9]
  split
  ·rename_i hc
   rw[cM,CT,if_pos hc];omega
  ·rename_i hc
   split
   ·rename_i hv
    rw[aNx,cM,CB,CB,vY,aQu a D hc]
    omega
   ·rename_i hv
    rw[cM,CT,if_neg hc,if_neg (λh=>hv (.inl h)),if_neg (λh=>hv (.inr h))];omega
def a4q(a:bR){v:Nat}: ∀k,∀e∈JY a v k,∃i:Nat,i<k/\e=((qO a i).length:Int)/\¬(a.Y.aD.l.getD i default).dM=true/\((a.Y.aD.l.getD i default).bK=(v:Int)\/(a.Y.aD.l.getD i default).to=(v:Int))
 |0,e,h=>by cases h
 |k+1,e,h=>by
  rw[JY]at h
  split at h
  ·obtain⟨i,N,V⟩:=a4q a k e h;exact⟨i,by omega,V⟩
  ·rename_i hc
   split at h
   ·rename_i hv
    rcases List.mem_append.1 h with h|h
    ·obtain⟨i,N,V⟩:=a4q a k e h;exact⟨i,by omega,V⟩
    ·rw[List.mem_singleton.1 h];exact⟨k,by omega,rfl,hc,hv⟩
   ·obtain⟨i,N,V⟩:=a4q a k e h;exact⟨i,by omega,V⟩
end
structure a4E(F:(Int->a9)->Int->Int)(a:bR)(s:cE):Prop where
 mono:∀k:Nat,k<a.Y.aD.l.length->∀p q:Int,p<=q->F (lU a s k) p<=F (lU a s k) q
def aPu{a:bR}{s:cE}(ha:rH a):a4E tB a s:=⟨λk hk p q h=>b8Q (s:=s) ha (r:=(k:Int)) D h⟩
def aNh{a:bR}{s:cE}(ha:rH a):a4E s8 a s:=⟨λk hk p q h=>b4o (s:=s) ha (r:=(k:Int)) D h⟩
structure a3z(ps hN:List Int)(v:Int):Prop where
 own:ps.getD v.toNat 0<=hN.getD v.toNat 0
 aB:∀k:Nat,k≠v.toNat->hN.getD k 0<=ps.getD k 0
def aAa{F aC:(Int->a9)->Int->Int}{a:bR}{s:cE}{ps hN:List Int}{v:Int}(ha:rH a)(h1:a4E F a s)(nW:a4E aC a s)(h:a3z ps hN v): ∀k:Nat,k<=a.Y.aD.l.length->y9 F aC a s ps v k<=y9 F aC a s hN v k
 |0,_=>oE _
 |k+1,hk=>by
  have cM:=aAa ha h1 nW h k D
  have kX:=ha.Y.b9 k _ YS
  have N:=kX.bK
  have V:=kX.to
  have aQ:=kX.ne
  have ho:=h.own
  rw[y9,y9,CT,CT]
  split
  ·omega
  ·split
   ·rename_i hf
    have M:=h.aB (a.Y.aD.l.getD k default).to.toNat D
    have:=h1.mono k D (tU a ps k) (tU a hN k) (by rw[tU,tU,hf];omega)
    omega
   ·split
    ·rename_i hf dS
     have M:=h.aB (a.Y.aD.l.getD k default).bK.toNat D
     have:=nW.mono k D (tU a hN k) (tU a ps k) (by rw[tU,tU,dS];omega)
     omega
    ·omega
def b3q{a:bR}{s:cE}{ps hN:List Int}{v:Int}(ha:rH a)(h:a3z ps hN v):BH a s ps v<=BH a s hN v:=aAa ha (aPu ha) (aNh ha) h _ (g4 _)
def b1W{a:bR}{s:cE}{ps hN:List Int}{v:Int}(ha:rH a)(h:a3z ps hN v):BD a s ps v<=BD a s hN v:=aAa ha (aNh ha) (aPu ha) h _ (g4 _)
def Sr{l:List Int}{k i:Nat}{v:Int}(hk:k<l.length):(l.set k v).getD i 0=if i=k then v else l.getD i 0:=by exact aHE
def aNw{ps:List Int}{v x y:Int}(hv:v.toNat<ps.length)(h:x<=y):a3z (ps.set v.toNat x) (ps.set v.toNat y) v:=
 ⟨by rw[Sr hv,Sr hv,if_pos rfl,if_pos rfl];exact h,λk hk=>by rw[Sr hv,Sr hv,if_neg hk,if_neg hk];exact oE _⟩
def Kr{l:List Int}{k:Nat}:l.set k (l.getD k 0)=l:=by
 rcases gY k l.length with h|h;·have:=iL (l:=l) (k:=k) 0 h;obtain⟨_,V⟩:=List.getElem?_eq_some_iff.1 this;rw[<-V,List.set_getElem_self]
 ·exact List.set_eq_of_length_le h
def qY(ps:List Int):Prop:=∀p∈ps,-70368744177664<=p/\p<=70368744177664
def qY.get{ps:List Int}(h:qY ps)(k:Nat):-70368744177664<=ps.getD k 0/\ps.getD k 0<=70368744177664:=by
 rcases gY k ps.length with cN|cN;·exact h _ (gU (iL (l:=ps) 0 cN))
 ·rw[iW,sJ cN];decide
def qY.set{ps:List Int}(h:qY ps)(k:Nat){x:Int}(K:-70368744177664<=x/\x<=70368744177664):qY (ps.set k x):=λp hp=>by
 rcases aIl hp with N|N
 ·exact h p N
 ·rw[N];exact K
attribute [local irreducible] cH c6 dP aI cJ eD e9 e0 e1 e5 eS e8 J.L
structure b1i(n:uW)(a:bR)(s:cE)(v:Int)(e:Int)(i:Nat)(p:mK):Prop where
 aA:i<a.Y.aD.l.length
 X:0<=e/\e<n.mO.l.length
 get:n.mO.l[e.toNat]?=some p
 rC:(qO a a.Y.aD.l.length).getD e.toNat 0=i
 is:Rr a s i p
 ok:Rs p
 drop:KB p=lU a s i
 dM:¬(a.Y.aD.l.getD i default).dM=true
 aR1:(a.Y.aD.l.getD i default).bK=v\/(a.Y.aD.l.getD i default).to=v
 bK:p.b9.bK=(a.Y.aD.l.getD i default).bK
 to:p.b9.to=(a.Y.aD.l.getD i default).to
 b9:a4G a.Y.places.l.length (a.Y.aD.l.getD i default)
def N2.entry{n:uW}{a:bR}{s:cE}(hn:N2 a s n)(ha:rH a){v:Nat}{e:Int}(X:e∈JY a v a.Y.aD.l.length):∃(i:Nat) (p:mK),b1i n a s v e i p:=by
 obtain⟨i,aA,rfl,hc,hv⟩:=a4q a _ e X;have Hc:=aQu a aA hc;have jH:(qO a i).length<(qO a a.Y.aD.l.length).length:=by obtain⟨m,hm⟩:=aC6 a (show i+1<=a.Y.aD.l.length from aA);rw[hm,qO,if_neg hc];simp only[iD,pN];omega
 have hg:(qO a a.Y.aD.l.length)[(qO a i).length]?=some i:=by rw[iL 0 jH,Hc]
 have a7b:=congrArg (λl=>l[(qO a i).length]?) hn.Ch;simp only[pF,hg,Jc]at a7b;obtain⟨p,hp,l5⟩:=Option.map_eq_some_iff.1 a7b;have Vc:=hn.U4 p (gU hp);rw[l5]at Vc;have bJG:=(List.getElem?_eq_some_iff.1 hp).1;refine⟨i,p,aA,by omega,by rw[vY];exact hp,by rw[vY];exact Hc,Vc,aPY ha D Vc,funext λq=>aL1 Vc q,hc,hv,?_,?_,ha.Y.b9 i _ (iL default aA)⟩;·rw[Vc.b9,vY]
 ·rw[Vc.b9,vY]
section
variable{F aC:(Int->a9)->Int->Int}{a:bR}{s:cE}{ps:List Int}{v:Int}
def aOk{n:Nat}{l:List Int}{k:Nat}{e:Int}(X:l[k]?=some e):CB F aC a s ps v n (l.take (k+1))=CB F aC a s ps v n (l.take k)+CT F aC a s ps v ((qO a n).getD e.toNat 0):=by
 have:l.take (k+1)=l.take k++[e]:=by rw[PM,X];rfl
 rw[this,aNx,CB,CB];omega
def b4w{a:bR}{n:Nat}(hn:1<=n)(i:Nat):(qO a n).getD i 0<n:=by
 rcases gY i (qO a n).length with h|h;·have:=gU (iL (l:=qO a n) 0 h);exact(a4i.1 this).1
 ·rw[iW,sJ h];exact hn
def aCj(h1:Ends F a s)(nW:Ends aC a s)(hn:1<=a.Y.aD.l.length): ∀l:List Int,-(1048577*(l.length:Int))<=CB F aC a s ps v a.Y.aD.l.length l/\CB F aC a s ps v a.Y.aD.l.length l<=1048577*(l.length:Int)
 |[]=>by simp[CB]
 |e::l=>by
  have cM:=aCj h1 nW hn l
  have h:=aP2 (ps:=ps) (v:=v) h1 nW (k:=(qO a a.Y.aD.l.length).getD e.toNat 0) (b4w hn _)
  rw[CB,sK]
  omega
end
def aH.U{x:a0 (a0 Int)}{R:aJ}(h:aH (rI x) R){i:Nat}{y:a0 Int}(aA:x.l[i]?=some y):aH (cZ y) R:=
 h.sub (.XE (List.mem_map.2 ⟨y,gU aA,rfl⟩) .mW)
def aKa(n:uW)(a:bR)(s:cE)(ps:a0 Int)(v:Int)(L:aP)(R:aJ)(JE:aH (sQ n.mO) R)(Am:aH (rI n.kW) R)(nG:aH (cZ ps) R)(hn:N2 a s n)(ha:rH a)(hl:ps.l.length=a.Y.places.l.length)(hb:qY ps.l)(hv:0<=v/\v<a.Y.places.l.length):
 aI prog 241 [n.val,ps.val,.int .i64 v].toArray L R (λw E G=>w=.int .i64 (BH a s ps.l v)/\L=E/\R=G):=by
 obtain⟨x,K⟩:=IA (l:=n.kW.l) (k:=v.toNat) (by rw[hn.a6m];omega);have RM:=hn.kW _ _ K;have bFa:=aH.U Am K;have OX:=ha.Y.aD;have bBN:=hn.a6m;have OZ:x.l.length<=a.Y.aD.l.length:=by rw[RM];exact a0b a _ _
 refine bW 57 call241 func241 ?_;apply(c8);intro dG;apply mL∘g7∘gE∘aKv∘jI∘vV∘ZT;refine c7 [(1,.slice _ _ _),(2,.int _ _),(3,.pointer _),(7,.int _ _),(16,.slice _ _ _),(17,.int _ _),(18,.int _ _)] bP λeZ=>?_;refine gP ([7,9,10,11]++b4 18 38) (λg:{k:Nat//k<=x.l.length}=>[(7,.int .i64 (CB tB s8 a s ps.l v a.Y.aD.l.length (x.l.take g.1))),(18,.int .i64 ((g.1:Nat):Int))]) (λg=>x.l.length-g.1) (⟨0,by omega⟩) ?_;rintro⟨k,hk⟩ bZ;try dsimp only
 apply(h2);apply(W)<;>intro aO;·
  obtain⟨e,X⟩:=mP x.l k;obtain⟨i,p,c1⟩:=hn.entry ha (v:=v.toNat) (e:=e) (by rw[<-RM];exact gU X);have bCv:=c1.X;have BT:=c1.get;have aFW:=aH.U4 JE BT;have kX:=c1.b9;have RI:=kX.bK;have X2:=kX.to;have XQ:=c1.bK;have Nu:=c1.to;have aA:=c1.aA;have ED:=aCj (ps:=ps.l) (v:=v) (ZQ (s:=s) ha) (Y5 (s:=s) ha) D (x.l.take k);have a19:(x.l.take k).length<=k:=List.length_take_le _ _;have cI:=aOk (F:=tB) (aC:=s8) (a:=a) (s:=s) (ps:=ps.l) (v:=v) (n:=a.Y.aD.l.length) X;rw[c1.rC]at cI;have qC:=bJ ps.l p.b9.bK.toNat 0;have UM:=bJ ps.l p.b9.to.toNat 0;have I9:=hb.get p.b9.bK.toNat;have FU:=hb.get p.b9.to.toNat;have Au:tU a ps.l i=ps.l.getD p.b9.bK.toNat 0-ps.l.getD p.b9.to.toNat 0:=by rw[tU,XQ,Nu]
  have fW:=(ZQ (s:=s) ha).vK i aA (tU a ps.l i);have Nw:=(Y5 (s:=s) ha).vK i aA (tU a ps.l i);rw[<-c1.drop,Au]at fW Nw;rw[CT,if_neg c1.dM,Au,<-c1.drop,<-XQ]at cI;have aEX:=c1.aR1;rw[<-XQ,<-Nu]at aEX;apply j7∘B2∘ZW∘gE∘aJr∘aHv∘dA;intro jE;apply(G5);refine gJ O [0,1,2,3,4,5,6,7,8,9,10,11,12,13] _ cX bE g3 ?_;apply QI∘OE∘aKY∘lW∘QI∘OE∘aKF∘Lf∘qD;refine gS (aZ (a6 (cR ?_)));apply FD∘mT;apply(W)<;>intro bF;·rw[if_pos bF]at cI;apply p8∘Wa∘b1;refine cC rfl aZw ?_;exact(l8) a9j
  rw[if_neg bF,if_pos D]at cI;apply p8∘Wa∘b1;refine cC rfl aZA ?_;exact(kP) a9j
 obtain rfl:k=x.l.length:=by omega
 apply(WH);refine dC L R ?_;have e:=aBe (F:=tB) (aC:=s8) (a:=a) (s:=s) (ps:=ps.l) (v:=v.toNat) a.Y.aD.l.length a.Y.aD.l.length (g4 _);rw[VF hv.1]at e;exact⟨by rw[BH,Qk,RM,e],rfl,rfl⟩
def aMz(n:uW)(a:bR)(s:cE)(ps:a0 Int)(v:Int)(L:aP)(R:aJ)(JE:aH (sQ n.mO) R)(Am:aH (rI n.kW) R)(nG:aH (cZ ps) R)(hn:N2 a s n)(ha:rH a)(hl:ps.l.length=a.Y.places.l.length)(hb:qY ps.l)(hv:0<=v/\v<a.Y.places.l.length):
 aI prog 242 [n.val,ps.val,.int .i64 v].toArray L R (λw E G=>w=.int .i64 (BD a s ps.l v)/\L=E/\R=G):=by
 obtain⟨x,K⟩:=IA (l:=n.kW.l) (k:=v.toNat) (by rw[hn.a6m];omega);have RM:=hn.kW _ _ K;have bFa:=aH.U Am K;have OX:=ha.Y.aD;have bBN:=hn.a6m;have OZ:x.l.length<=a.Y.aD.l.length:=by rw[RM];exact a0b a _ _
 refine bW 57 call242 func242 ?_;apply(c8);intro dG;apply mL∘g7∘gE∘aKv∘jI∘vV∘ZT;refine c7 [(1,.slice _ _ _),(2,.int _ _),(3,.pointer _),(7,.int _ _),(16,.slice _ _ _),(17,.int _ _),(18,.int _ _)] bP λeZ=>?_;refine gP ([7,9,10,11]++b4 18 38) (λg:{k:Nat//k<=x.l.length}=>[(7,.int .i64 (CB s8 tB a s ps.l v a.Y.aD.l.length (x.l.take g.1))),(18,.int .i64 ((g.1:Nat):Int))]) (λg=>x.l.length-g.1) (⟨0,by omega⟩) ?_;rintro⟨k,hk⟩ bZ;try dsimp only
 apply(h2);apply(W)<;>intro aO;·
  obtain⟨e,X⟩:=mP x.l k;obtain⟨i,p,c1⟩:=hn.entry ha (v:=v.toNat) (e:=e) (by rw[<-RM];exact gU X);have bCv:=c1.X;have BT:=c1.get;have aFW:=aH.U4 JE BT;have kX:=c1.b9;have RI:=kX.bK;have X2:=kX.to;have XQ:=c1.bK;have Nu:=c1.to;have aA:=c1.aA;have ED:=aCj (ps:=ps.l) (v:=v) (Y5 (s:=s) ha) (ZQ (s:=s) ha) D (x.l.take k);have a19:(x.l.take k).length<=k:=List.length_take_le _ _;have cI:=aOk (F:=s8) (aC:=tB) (a:=a) (s:=s) (ps:=ps.l) (v:=v) (n:=a.Y.aD.l.length) X;rw[c1.rC]at cI;have qC:=bJ ps.l p.b9.bK.toNat 0;have UM:=bJ ps.l p.b9.to.toNat 0;have I9:=hb.get p.b9.bK.toNat;have FU:=hb.get p.b9.to.toNat;have Au:tU a ps.l i=ps.l.getD p.b9.bK.toNat 0-ps.l.getD p.b9.to.toNat 0:=by rw[tU,XQ,Nu]
  have fW:=(Y5 (s:=s) ha).vK i aA (tU a ps.l i);have Nw:=(ZQ (s:=s) ha).vK i aA (tU a ps.l i);rw[<-c1.drop,Au]at fW Nw;rw[CT,if_neg c1.dM,Au,<-c1.drop,<-XQ]at cI;have aEX:=c1.aR1;rw[<-XQ,<-Nu]at aEX;apply j7∘B2∘ZW∘gE∘aJr∘aHv∘dA;intro jE;apply(G5);refine gJ O [0,1,2,3,4,5,6,7,8,9,10,11,12,13] _ cX bE g3 ?_;apply QI∘OE∘aKY∘lW∘QI∘OE∘aKF∘Lf∘qD;refine gS (aZ (a6 (cR ?_)));apply FD∘mT;apply(W)<;>intro bF;·rw[if_pos bF]at cI;apply p8∘Wa∘b1;refine cC rfl aZA ?_;exact(l8) a9j
  rw[if_neg bF,if_pos D]at cI;apply p8∘Wa∘b1;refine cC rfl aZw ?_;exact(kP) a9j
 obtain rfl:k=x.l.length:=by omega
 apply(WH);refine dC L R ?_;have e:=aBe (F:=s8) (aC:=tB) (a:=a) (s:=s) (ps:=ps.l) (v:=v.toNat) a.Y.aD.l.length a.Y.aD.l.length (g4 _);rw[VF hv.1]at e;exact⟨by rw[BD,Qk,RM,e],rfl,rfl⟩
def aRe(a:bR)(s:cE)(ps:a0 Int)(v:Int)(L:aP)(R:aJ)(hm:nT a R)(hs:o2 s R)(nG:aH (cZ ps) R)(ha:rH a)(hf:YX a s)(hl:ps.l.length=a.Y.places.l.length)(hb:qY ps.l):
 aI prog 287 [a.val,s.val,ps.val,.int .i64 v].toArray L R (λw E G=>w=.int .i64 (BH a s ps.l v)/\L=E/\R=G):=by
 have OX:=ha.Y.aD;have UJ:=hm.aD;refine bW 71 call287 func287 ?_;apply(c8);intro cT;apply(iU);intro eH;apply mL∘g7∘mM;refine c7 [(2,.slice _ _ _),(3,.int _ _),(4,.pointer _),(5,.pointer _),(9,.int _ _),(10,.int _ _)] bP λeZ=>?_;refine gP (b4 9 61) (λg:{k:Nat//k<=a.Y.aD.l.length}=>[(9,.int .i64 (y9 tB s8 a s ps.l v g.1)),(10,.int .i64 ((g.1:Nat):Int))]) (λg=>a.Y.aD.l.length-g.1) (⟨0,by omega⟩) ?_;rintro⟨k,hk⟩ bZ;try dsimp only
 apply A7∘eP∘Ey;apply(W)<;>intro aO;·
  have kX:=bJ a.Y.aD.l k default;have LA:=ha.Y.b9 _ _ kX;have RI:=LA.bK;have X2:=LA.to;have a7n:=LA.ne;have ED:=aBz (ps:=ps.l) (v:=v) (ZQ (s:=s) ha) (Y5 (s:=s) ha) k hk;have qC:=bJ ps.l ((a.Y.aD.l.getD k default).bK.toNat) 0;have UM:=bJ ps.l ((a.Y.aD.l.getD k default).to.toNat) 0;have I9:=hb.get (a.Y.aD.l.getD k default).bK.toNat;have FU:=hb.get (a.Y.aD.l.getD k default).to.toNat;have fW:=(ZQ (s:=s) ha).vK k D (tU a ps.l k);have Nw:=(Y5 (s:=s) ha).vK k D (tU a ps.l k);rw[tU]at fW Nw;have cI:y9 tB s8 a s ps.l v (k+1)=y9 tB s8 a s ps.l v k+CT tB s8 a s ps.l v k:=rfl;rw[CT,tU]at cI;apply j7∘FD∘aJP∘WQ;intro FL;apply G6∘b3;apply(W)<;>intro bF;·exact b0B
  rw[if_neg PO]at cI;apply iK∘gE∘mT;apply(W)<;>intro b2;·rw[if_pos b2]at cI;apply a6h∘g1∘ND∘YF∘g1∘QI∘iI∘a5n∘lW∘QI∘iI∘a56∘Lf;refine k6 rfl aYp ?_;apply EK∘qD;refine gS (aZ (a6 (cR ?_)));apply gE∘mT;exact aWC
  rw[if_neg b2]at cI;apply eR∘gE∘mT;exact aWC
 exact aXM
def aNa(a:bR)(s:cE)(ps:a0 Int)(v:Int)(L:aP)(R:aJ)(hm:nT a R)(hs:o2 s R)(nG:aH (cZ ps) R)(ha:rH a)(hf:YX a s)(hl:ps.l.length=a.Y.places.l.length)(hb:qY ps.l):
 aI prog 288 [a.val,s.val,ps.val,.int .i64 v].toArray L R (λw E G=>w=.int .i64 (BD a s ps.l v)/\L=E/\R=G):=by
 have OX:=ha.Y.aD;have UJ:=hm.aD;refine bW 71 call288 func288 ?_;apply(c8);intro cT;apply(iU);intro eH;apply mL∘g7∘mM;refine c7 [(2,.slice _ _ _),(3,.int _ _),(4,.pointer _),(5,.pointer _),(9,.int _ _),(10,.int _ _)] bP λeZ=>?_;refine gP (b4 9 61) (λg:{k:Nat//k<=a.Y.aD.l.length}=>[(9,.int .i64 (y9 s8 tB a s ps.l v g.1)),(10,.int .i64 ((g.1:Nat):Int))]) (λg=>a.Y.aD.l.length-g.1) (⟨0,by omega⟩) ?_;rintro⟨k,hk⟩ bZ;try dsimp only
 apply A7∘eP∘Ey;apply(W)<;>intro aO;·
  have kX:=bJ a.Y.aD.l k default;have LA:=ha.Y.b9 _ _ kX;have RI:=LA.bK;have X2:=LA.to;have a7n:=LA.ne;have ED:=aBz (ps:=ps.l) (v:=v) (Y5 (s:=s) ha) (ZQ (s:=s) ha) k hk;have qC:=bJ ps.l ((a.Y.aD.l.getD k default).bK.toNat) 0;have UM:=bJ ps.l ((a.Y.aD.l.getD k default).to.toNat) 0;have I9:=hb.get (a.Y.aD.l.getD k default).bK.toNat;have FU:=hb.get (a.Y.aD.l.getD k default).to.toNat;have fW:=(Y5 (s:=s) ha).vK k D (tU a ps.l k);have Nw:=(ZQ (s:=s) ha).vK k D (tU a ps.l k);rw[tU]at fW Nw;have cI:y9 s8 tB a s ps.l v (k+1)=y9 s8 tB a s ps.l v k+CT s8 tB a s ps.l v k:=rfl;rw[CT,tU]at cI;apply j7∘FD∘aJP∘WQ;intro FL;apply G6∘b3;apply(W)<;>intro bF;·exact b0B
  rw[if_neg PO]at cI;apply iK∘gE∘mT;apply(W)<;>intro b2;·rw[if_pos b2]at cI;apply a6h∘g1∘ND∘YF∘g1∘QI∘iI∘a5n∘lW∘QI∘iI∘a56∘Lf;refine k6 rfl aYw ?_;apply EK∘qD;refine gS (aZ (a6 (cR ?_)));apply gE∘mT;exact aWD
  rw[if_neg b2]at cI;apply eR∘gE∘mT;exact aWD
 exact aXM
abbrev m7(up:Bool):Int:=if up then 1 else -1
abbrev tY(up:Bool)(start:Int):Int:=if up then 70368744177664-start else start+70368744177664
structure YW(g:Int->Bool)(start:Int)(up:Bool)(v:Int)(ok:Bool):Prop where
 DO:ok=true->∃m,0<=m/\m<=tY up start/\v=start+m7 up*m/\g v=true/\∀j,0<=j->j<m->g (start+m7 up*j)=false
 no:ok=false->v=0/\∀j,0<=j->j<=tY up start->g (start+m7 up*j)=false
def Zo(g:Int->Bool)(start:Int)(up:Bool):Prop:=∀i j,0<=i->i<=j->j<=tY up start->g (start+m7 up*i)=true->g (start+m7 up*j)=true
def Zo.no{g:Int->Bool}{start:Int}{up:Bool}(h:Zo g start up){i j:Int}(bQ:0<=i)(a62:i<=j)(aY:j<=tY up start)(hg:g (start+m7 up*j)=false):g (start+m7 up*i)=false:=by
 cases e:g (start+m7 up*i)with
 |false=>rfl
 |true=>rw[h i j bQ a62 aY e]at hg;cases hg
def a4O{up:Bool}{z:Int}(h:0<=z/\z<=281474976710656):-281474976710656<=m7 up*z/\m7 up*z<=281474976710656:=by cases up<;>simp only[m7]<;>simp<;>omega
def a47{up:Bool}{start z:Int}(hs:-70368744177664<=start/\start<=70368744177664)(h:0<=z/\z<=tY up start):-70368744177664<=start+m7 up*z/\start+m7 up*z<=70368744177664:=by cases up<;>simp only[m7,tY]at h|- <;>simp at h|- <;>omega
def Zt{up:Bool}{start:Int}(hs:-70368744177664<=start/\start<=70368744177664):0<=tY up start/\tY up start<=140737488355328:=by cases up<;>simp[tY]<;>omega
def aQL(f:FuncId)(cap:Array Value)(P9:Int->aP)(g:Int->Bool)(start:Int)(up:Bool)(y:Int)(R:aJ)(hs: -70368744177664<=start/\start<=70368744177664)(hm:Zo g start up)
 (hc:∀x y,-70368744177664<=x/\x<=70368744177664->aI prog f (.int .i64 x::cap.toList).toArray (P9 y) R (λv E G=>v=.bool (g x)/\P9 x=E/\R=G)):
 aI prog 278 [.int .i64 start,.bool up,.func (.func f) #[] cap].toArray (P9 y) R (λv E G=>∃(z:Int) (ok:Bool) (aHX:Int),v=.tuple #[.int .i64 z,.bool ok]/\YW g start up z ok/\P9 aHX=E/\R=G):=by
 have kX:=Zt (up:=up) hs;have aDD:start+m7 up*0=start:=by simp
 refine bW 80 call278 func278 ?_;apply rN∘IQ;refine aG iR ?_;apply(b1);refine Y0 (Sc rfl rfl (hc start y hs)) rfl rfl ?_;rintro v E G ⟨rfl,rfl,rfl⟩;apply(b3);apply(W)<;>intro aO;·apply yF∘GX∘AU;refine bN (P9 start) R VL ?_;exact⟨start,true,start,rfl,⟨λ_=>⟨0,by omega,by omega,aDD.symm,aO,λj N V=>by omega⟩,λh=>by cases h⟩,rfl,rfl⟩
 apply eR∘S2∘dE∘g7∘WK;refine v2 [8,9,21,22] ((⟨λ_=>[(8,.int .i64 (m7 up)),(9,.int .i64 (tY up start))],λ_=>P9 start,λ_=>R,λ_=>0⟩:dV Unit)) ?_ ?_;·
  skip
  apply(W)<;>intro bF;·apply eK∘z2∘dE∘WD;subst bF;exact nZ ()
  refine dK ?_;subst bF;exact nZ ()
 rintro u bZ;try dsimp only
 apply rN∘zG;refine v2 ([10,11]++b4 23 16) ((⟨λg=>[(10,.int .i64 g.1.1),(11,.int .i64 g.1.2.1)],λg=>P9 g.1.2.2,λ_=>R,λ_=>0⟩:dV {q:Int×Int×Int//(0<=q.1/\q.1<q.2.1/\q.2.1<=281474976710656)/\g (start+m7 up*q.1)=false/\(q.1=0\/q.1<tY up start)/\(q.2.1<tY up start->g (start+m7 up*q.2.1)=true)})) ?_ ?_;·
  refine e3 ?_;refine zY ([10,11]++b4 23 16) AZ [(10,.int _ _),(11,.int _ _)] bP λeZ=>?_;refine kO ([10,11]++b4 23 16) ((⟨λg=>[(10,.int .i64 g.1.1),(11,.int .i64 g.1.2.1)],λg=>P9 g.1.2.2,λ_=>R,λg=>(tY up start+1-g.1.1).toNat⟩:dV {q:Int×Int×Int//((q.1=0/\q.2.1=1)\/(1<=q.1/\q.2.1=q.1*2))/\g (start+m7 up*q.1)=false/\(q.1=0\/q.1<tY up start)})) (⟨(0,1,start),.inl ⟨rfl,rfl⟩,by rw[aDD];exact aO,.inl rfl⟩) ?_;rintro⟨⟨C2,T0,PH⟩,Ao,I9,a6U⟩ bZ;try dsimp only
  dsimp only at Ao I9 a6U;have a1y:=a4O (up:=up) (z:=T0) D;apply A7∘WE;refine GK (k:=26) aW (λeN=>?_) (λeN=>?_);·
   replace eN:=a8 eN;refine kM iR ?_;(iterate 3 refine kM zV ?_);apply aN1∘aQO;refine Y0 (Sc rfl rfl (hc (start+m7 up*T0) PH (a47 hs D))) rfl rfl ?_;rintro v E G ⟨rfl,rfl,rfl⟩;refine kM (PX rfl) ?_;apply a3Z∘b3;apply(W)<;>intro b2;·refine dK (aZ (a6 (e3 (cR ?_))));apply b1∘dE∘Vx∘OC∘WD;exact dU ⟨(T0,T0*2,start+m7 up*T0),by dsimp only;omega,by simpa using b2,by dsimp only;omega⟩
   exact b0L
  replace eN:=a8 eN;iterate 8 refine SE rfl rfl ?_
  apply a3Z∘b3;refine QK rfl ?_;exact b0L
 rintro⟨⟨C2,T0,PH⟩,Ao,I9,a6U,MY⟩ bZ;try dsimp only
 dsimp only at Ao I9 a6U MY;apply A7∘b1∘GY;refine v2 ([6,7,11]++b4 42 14) ((⟨λq=>[(11,.int .i64 q.1.1)],λq=>P9 q.1.2,λ_=>R,λ_=>0⟩:dV {q:Int×Int//C2<q.1/\q.1<=tY up start/\g (start+m7 up*q.1)=true})) ?_ ?_;·
  skip
  apply(W)<;>intro dZ;·
   apply yF∘zG;have a1y:=a4O (up:=up) (z:=tY up start) D;apply p8∘b1∘Cl∘c9;refine GK (k:=46) aW (λeN=>?_) (λeN=>?_);·replace eN:=a8 eN;(iterate 8 refine SE rfl rfl ?_);apply a3Z∘b3;refine wR rfl ?_;exact aVG
   replace eN:=a8 eN;refine kM iR ?_;(iterate 3 refine kM zV ?_);apply aN1∘aQO;refine Y0 (Sc rfl rfl (hc (start+m7 up*tY up start) PH (a47 hs D))) rfl rfl ?_;rintro v E G ⟨rfl,rfl,rfl⟩;refine kM (PX rfl) ?_;apply a3Z∘b3;apply(W)<;>intro dX;·exact aVG
   refine dK ?_;exact nZ ⟨(tY up start,start+m7 up*tY up start),by dsimp only;omega,by dsimp only;omega,by simpa using dX⟩
  refine dK ?_;exact nZ ⟨(T0,PH),by dsimp only;omega,by dsimp only;omega,MY D⟩
 rintro⟨⟨bAT,Ix⟩,bAY,bAZ,aSd⟩ bZ;try dsimp only
 dsimp only at bAY bAZ aSd;refine a6 (e3 ?_);refine c7 [(0,.int _ _),(2,_),(8,.int _ _),(10,.int _ _),(11,.int _ _)] bP λnS=>?_;refine kO ([10,11,12]++b4 56 19) ((⟨λq=>[(10,.int .i64 q.1.1),(11,.int .i64 q.1.2.1)],λq=>P9 q.1.2.2,λ_=>R,λq=>(q.1.2.1-q.1.1).toNat⟩:dV {q:Int×Int×Int//(0<=q.1/\q.1<q.2.1/\q.2.1<=tY up start)/\g (start+m7 up*q.1)=false/\g (start+m7 up*q.2.1)=true})) (⟨(C2,bAT,Ix),by dsimp only;omega,I9,aSd⟩) ?_;rintro⟨⟨b6,aA,aHY⟩,nK,fB,kF⟩ bZ;try dsimp only
 dsimp only at nK fB kF;apply s2∘z2∘Le;apply(W)<;>intro h3;·
  obtain⟨pZ,Hh⟩:∃pZ,pZ=b6+(aA-b6).tdiv 2:=⟨_,rfl⟩;have a1L:b6<pZ/\pZ<aA:=by rw[JQ D]at Hh;omega
  have aSO:0<=(aA-b6).tdiv 2/\(aA-b6).tdiv 2<=aA-b6:=by rw[JQ D];omega
  refine dK (aZ (e3 (a6 (cR ?_))));iterate 3 apply(b1)
  apply kP∘PB∘l8∘zG;rw[<-Hh];have a1y:=a4O (up:=up) (z:=pZ) D;apply(eK);refine aG iR ?_;iterate 3 apply(b1)
  apply RW∘l8;refine Y0 (Sc rfl rfl (hc (start+m7 up*pZ) aHY (a47 hs D))) rfl rfl ?_;rintro v E G ⟨rfl,rfl,rfl⟩;apply(b3);apply(W)<;>intro hW;·apply p8∘dE;refine eI (gV ?_);exact dU ⟨(b6,pZ,start+m7 up*pZ),by dsimp only;omega,fB,hW⟩
  apply p8∘dE;refine eI (gV ?_);exact dU ⟨(pZ,aA,start+m7 up*pZ),by dsimp only;omega,hW,kF⟩
 apply(O9);have a1y:=a4O (up:=up) (z:=aA) D;apply(eK);iterate 3 apply(b1)
 apply RW∘l8∘dE∘v9;refine bN (P9 aHY) R VL ?_;exact⟨start+m7 up*aA,true,aHY,rfl,⟨λ_=>⟨aA,by omega,by omega,rfl,kF,λj N V=>hm.no N (show j<=b6 by omega) D fB⟩,λh=>by cases h⟩,rfl,rfl⟩
def aI.Ia{P:Program}{f:FuncId}{args:Array Value}{A:aP}{R:aJ}{p:J Int}{T:TypeId}{u:Value}(jN:sN (p.L T aL) A)(hok:p.ok 1 aL)
 (h:aI P f args [] (cZ p.U::R) (λv E G=>v=u/\[]=E/\cZ p.U::R=G)):aI P f args A R (λv E G=>v=u/\A=E/\R=G):=by have V:=aI.Hz (S:=[cZ p.U]) (Post:=λv E=>v=u/\[]=E) (y8.aB (L:=A)) (λw aC bX s hs=>by rw[List.mem_singleton.1 hs];exact HA bX jN hok bI bH lQ) (h.mono λv E G ⟨j5,kK,lV⟩=>⟨⟨j5,kK⟩,lV⟩);exact aYQ
def WB{o:gZ}{l:List Int}{k:Nat}{y:Int}:(⟨o,l⟩:J Int).val=(⟨o,l.set k y⟩:J Int).val:=J.aHy.symm
structure VS(n:uW)(a:bR)(s:cE)(ps:List Int)(v:Int)(R:aJ):Prop where
 r0:aH (sQ n.mO) R
 a6l:aH (rI n.kW) R
 is:N2 a s n
 ok:rH a
 len:ps.length=a.Y.places.l.length
 bY:qY ps
 v:0<=v/\v<a.Y.places.l.length
def b6P{n:uW}{a:bR}{s:cE}{o:gZ}{ps:List Int}{v y:Int}{A:aP}{R:aJ}(h:VS n a s ps v R)(aN:-70368744177664<=y/\y<=70368744177664)(jN:sN ((⟨o,ps.set v.toNat y⟩:J Int).L 3 aL) A)(hok:(⟨o,ps.set v.toNat y⟩:J Int).ok 1 aL):
 aI prog 241 [n.val,(⟨o,ps⟩:J Int).val,.int .i64 v].toArray A R (λw E G=>w=.int .i64 (BH a s (ps.set v.toNat y) v)/\A=E/\R=G):=by rw[WB (k:=v.toNat) (y:=y)];exact aI.Ia jN hok (aKa n a s (⟨o,ps.set v.toNat y⟩:J Int).U v [] _ (h.r0.mono λr M=>aM (.tail _ M)) (h.a6l.mono λr M=>aM (.tail _ M)) n1 h.is h.ok (by simp[h.len]) (h.bY.set _ aN) h.v)
def b9H{n:uW}{a:bR}{s:cE}{o:gZ}{ps:List Int}{v y:Int}{A:aP}{R:aJ}(h:VS n a s ps v R)(aN:-70368744177664<=y/\y<=70368744177664)(jN:sN ((⟨o,ps.set v.toNat y⟩:J Int).L 3 aL) A)(hok:(⟨o,ps.set v.toNat y⟩:J Int).ok 1 aL):
 aI prog 242 [n.val,(⟨o,ps⟩:J Int).val,.int .i64 v].toArray A R (λw E G=>w=.int .i64 (BD a s (ps.set v.toNat y) v)/\A=E/\R=G):=by rw[WB (k:=v.toNat) (y:=y)];exact aI.Ia jN hok (aMz n a s (⟨o,ps.set v.toNat y⟩:J Int).U v [] _ (h.r0.mono λr M=>aM (.tail _ M)) (h.a6l.mono λr M=>aM (.tail _ M)) n1 h.is h.ok (by simp[h.len]) (h.bY.set _ aN) h.v)
structure Jw(a:bR)(s:cE)(ps:List Int)(v:Int)(R:aJ):Prop where
 bU:nT a R
 set:o2 s R
 ok:rH a
 C4:YX a s
 len:ps.length=a.Y.places.l.length
 bY:qY ps
 v:0<=v/\v<a.Y.places.l.length
def a9E{a:bR}{s:cE}{o:gZ}{ps:List Int}{v y:Int}{A:aP}{R:aJ}(h:Jw a s ps v R)(aN:-70368744177664<=y/\y<=70368744177664)(jN:sN ((⟨o,ps.set v.toNat y⟩:J Int).L 3 aL) A)(hok:(⟨o,ps.set v.toNat y⟩:J Int).ok 1 aL):
 aI prog 287 [a.val,s.val,(⟨o,ps⟩:J Int).val,.int .i64 v].toArray A R (λw E G=>w=.int .i64 (BH a s (ps.set v.toNat y) v)/\A=E/\R=G):=by rw[WB (k:=v.toNat) (y:=y)];exact aI.Ia jN hok (aRe a s (⟨o,ps.set v.toNat y⟩:J Int).U v [] _ (IY h.bU λr M=>aM (.tail _ M)) (PV h.set λr M=>aM (.tail _ M)) n1 h.ok h.C4 (by simp[h.len]) (h.bY.set _ aN))
def aAz{a:bR}{s:cE}{o:gZ}{ps:List Int}{v y:Int}{A:aP}{R:aJ}(h:Jw a s ps v R)(aN:-70368744177664<=y/\y<=70368744177664)(jN:sN ((⟨o,ps.set v.toNat y⟩:J Int).L 3 aL) A)(hok:(⟨o,ps.set v.toNat y⟩:J Int).ok 1 aL):
 aI prog 288 [a.val,s.val,(⟨o,ps⟩:J Int).val,.int .i64 v].toArray A R (λw E G=>w=.int .i64 (BD a s (ps.set v.toNat y) v)/\A=E/\R=G):=by rw[WB (k:=v.toNat) (y:=y)];exact aI.Ia jN hok (aNa a s (⟨o,ps.set v.toNat y⟩:J Int).U v [] _ (IY h.bU λr M=>aM (.tail _ M)) (PV h.set λr M=>aM (.tail _ M)) n1 h.ok h.C4 (by simp[h.len]) (h.bY.set _ aN))
abbrev H7(a:bR)(s:cE)(ps:List Int)(v:Int):Int->Bool:=λx=>decide (0<=BH a s (ps.set v.toNat x) v)
abbrev II(a:bR)(s:cE)(ps:List Int)(v:Int):Int->Bool:=λx=>decide (BD a s (ps.set v.toNat x) v<=0)
def aJE{a:bR}{s:cE}{ps:List Int}{v start:Int}(ha:rH a)(hv:v.toNat<ps.length):Zo (H7 a s ps v) start true:=by intro i j bQ a62 aY hg;rw[decide_eq_true_eq]at hg|-;have:=b3q (s:=s) ha (aNw (ps:=ps) hv (show start+m7 true*i<=start+m7 true*j by simp only[m7];simp;omega));omega
def aMw{a:bR}{s:cE}{ps:List Int}{v start:Int}(ha:rH a)(hv:v.toNat<ps.length):Zo (II a s ps v) start false:=by intro i j bQ a62 aY hg;rw[decide_eq_true_eq]at hg|-;have:=b1W (s:=s) ha (aNw (ps:=ps) hv (show start+m7 false*j<=start+m7 false*i by simp only[m7];simp;omega));omega
abbrev Ad(gL eH dG:Nat)(n:uW)(o:gZ)(ps:List Int)(v:Int)(L:aP)(y:Int):aP:=
 ⟨gL,[(⟨o,ps⟩:J Int).val],40⟩::((⟨o,ps.set v.toNat y⟩:J Int).L 3 aL++(⟨eH,[.int .i64 v],3⟩::⟨dG,n.cells,221⟩::L))
def b7o{gL eH dG:Nat}{n:uW}{a:bR}{s:cE}{o:gZ}{ps:List Int}{u:Int}{L:aP}{R:aJ}(h:VS n a s ps u R)(hok:(⟨o,ps⟩:J Int).ok 1 aL)(x y:Int)(K:-70368744177664<=x/\x<=70368744177664):
 aI prog 280 [.int .i64 x,.pointer (some ⟨gL,0,none⟩),.pointer (some ⟨eH,0,none⟩),.pointer (some ⟨dG,0,none⟩)].toArray (Ad gL eH dG n o ps u L y) R (λw E G=>w=.bool (H7 a s ps u x)/\Ad gL eH dG n o ps u L x=E/\R=G):=by have hv:=h.v;have rU:=h.len;have n9:∀z,(⟨o,ps.set u.toNat z⟩:J Int).ok 1 aL:=λz=>J.oZ CG hok fX;have a1V:=n9 y;have Hc:=iL (l:=ps.set u.toNat y) (k:=u.toNat) 0 B6;refine bW 15 call280 func280 ?_;apply QO∘kZ∘kZ∘b1∘aRF∘aJt;rintro v E G ⟨rfl,rfl⟩;apply(jW);refine mJ Xq ?_;apply eK∘oC∘kZ∘kZ;refine cC rfl (b6P (o:=o) (y:=x) h K x8 (n9 x)) ?_;apply DL∘v9;exact aX1
def b6A(n:uW)(a:bR)(s:cE)(ps:a0 Int)(u:Int)(L:aP)(R:aJ)(h:VS n a s ps.l u R)(nG:aH (cZ ps) R):
 aI prog 240 [n.val,ps.val,.int .i64 u].toArray L R (λw E G=>∃(z:Int) (ok:Bool),w=.tuple #[.int .i64 z,.bool ok]/\YW (H7 a s ps.l u) (ps.l.getD u.toNat 0) true z ok/\L=E/\R=G):=by have hv:=h.v;have rU:=h.len;have q9:=h.ok.Y.places;have Hc:=bJ ps.l u.toNat 0;have hb:=h.bY.get u.toNat;have cI:=aJE (s:=s) (start:=ps.l.getD u.toNat 0) h.ok (ps:=ps.l) (v:=u) D;refine bW 19 call240 func240 ?_;apply(c8);intro dG;refine aAp (v:=Value.int _ _) rfl rfl rfl ?_;intro eH;apply GX∘WR∘a4a;rintro v E G ⟨zS,rfl,Oh,rfl,rfl⟩;apply(dA);intro gL;apply Vz∘WR∘kZ∘aQD∘jI;refine aG (a4R rfl) ?_;refine a9T aZk ?_;refine cK (aQL 280 #[.pointer (some ⟨gL,0,none⟩),.pointer (some ⟨eH,0,none⟩),.pointer (some ⟨dG,0,none⟩)] (Ad gL eH dG n zS ps.l u L) (H7 a s ps.l u) (ps.l.getD u.toNat 0) true (ps.l.getD u.toNat 0) _ hb cI (λx y K=>b7o h Oh x y K)) ?_;exact aZ1
def b5K{gL eH dG:Nat}{n:uW}{a:bR}{s:cE}{o:gZ}{ps:List Int}{u:Int}{L:aP}{R:aJ}(h:VS n a s ps u R)(hok:(⟨o,ps⟩:J Int).ok 1 aL)(x y:Int)(K:-70368744177664<=x/\x<=70368744177664):
 aI prog 279 [.int .i64 x,.pointer (some ⟨gL,0,none⟩),.pointer (some ⟨eH,0,none⟩),.pointer (some ⟨dG,0,none⟩)].toArray (Ad gL eH dG n o ps u L y) R (λw E G=>w=.bool (II a s ps u x)/\Ad gL eH dG n o ps u L x=E/\R=G):=by have hv:=h.v;have rU:=h.len;have n9:∀z,(⟨o,ps.set u.toNat z⟩:J Int).ok 1 aL:=λz=>J.oZ CG hok fX;have a1V:=n9 y;have Hc:=iL (l:=ps.set u.toNat y) (k:=u.toNat) 0 B6;refine bW 15 call279 func279 ?_;apply QO∘kZ∘kZ∘b1∘aRF∘aJt;rintro v E G ⟨rfl,rfl⟩;apply(jW);refine mJ Xq ?_;apply eK∘oC∘kZ∘kZ;refine cC rfl (b9H (o:=o) (y:=x) h K x8 (n9 x)) ?_;apply Cl∘v9;exact aX1
def b27(n:uW)(a:bR)(s:cE)(ps:a0 Int)(u:Int)(L:aP)(R:aJ)(h:VS n a s ps.l u R)(nG:aH (cZ ps) R):
 aI prog 239 [n.val,ps.val,.int .i64 u].toArray L R (λw E G=>∃(z:Int) (ok:Bool),w=.tuple #[.int .i64 z,.bool ok]/\YW (II a s ps.l u) (ps.l.getD u.toNat 0) false z ok/\L=E/\R=G):=by have hv:=h.v;have rU:=h.len;have q9:=h.ok.Y.places;have Hc:=bJ ps.l u.toNat 0;have hb:=h.bY.get u.toNat;have cI:=aMw (s:=s) (start:=ps.l.getD u.toNat 0) h.ok (ps:=ps.l) (v:=u) D;refine bW 19 call239 func239 ?_;apply(c8);intro dG;refine aAp (v:=Value.int _ _) rfl rfl rfl ?_;intro eH;apply GX∘WR∘a4a;rintro v E G ⟨zS,rfl,Oh,rfl,rfl⟩;apply(dA);intro gL;apply Vz∘WR∘kZ∘aQD∘jI;refine aG (a4R rfl) ?_;refine a9T aZk ?_;refine cK (aQL 279 #[.pointer (some ⟨gL,0,none⟩),.pointer (some ⟨eH,0,none⟩),.pointer (some ⟨dG,0,none⟩)] (Ad gL eH dG n zS ps.l u L) (II a s ps.l u) (ps.l.getD u.toNat 0) false (ps.l.getD u.toNat 0) _ hb cI (λx y K=>b5K h Oh x y K)) ?_;exact aZ1
def b81(a:bR)(s:cE)(ps:a0 Int)(u:Int)(L:aP)(R:aJ)(h:Jw a s ps.l u R)(nG:aH (cZ ps) R):
 aI prog 296 [a.val,s.val,ps.val,.int .i64 u].toArray L R (λw E G=>∃(z:Int) (ok:Bool),w=.tuple #[.int .i64 z,.bool ok]/\YW (H7 a s ps.l u) (ps.l.getD u.toNat 0) true z ok/\L=E/\R=G):=by
 have hv:=h.v;have rU:=h.len;have q9:=h.ok.Y.places;obtain⟨start,Bp⟩:∃start,start=ps.l.getD u.toNat 0:=⟨_,rfl⟩;have Hc:ps.l[u.toNat]?=some start:=by rw[Bp];exact bJ ps.l u.toNat 0
 have hb:-70368744177664<=start/\start<=70368744177664:=by rw[Bp];exact h.bY.get u.toNat
 have cI:=aJE (s:=s) (start:=start) h.ok (ps:=ps.l) (v:=u) D;have aTK:ps.l.set u.toNat start=ps.l:=by rw[Bp];exact Kr
 have MX:∀y,(ps.l.set u.toNat y)[u.toNat]?=some y:=λy=>by rw[tQ D]
 have xS:∀j:Int,start+m7 true*j=start+j:=λj=>by simp[m7]
 have Hp:tY true start=70368744177664-start:=rfl;rw[<-Bp];refine bW 86 call296 func296 ?_;apply(c8);intro cT;apply(iU);intro eH;apply GX∘WR∘a4a;rintro v E G ⟨p0,rfl,Oi,rfl,rfl⟩;apply(KJ);have n9:∀z,(⟨p0,ps.l.set u.toNat z⟩:J Int).ok 1 aL:=λz=>J.oZ CG Oi fX;apply aRE∘eK∘wW∘h7;refine cC rfl (a9E (o:=p0) (y:=start) h hb x8 (n9 start)) ?_;apply(GY);apply(W)<;>intro aO;·exact aZa
 have Va:=n9 start;have Hd:=MX start;have vN:H7 a s ps.l u start=false:=decide_eq_false aO;apply QN∘aCt∘aC8∘dE∘zG;refine v2 ([8,9,11,12]++b4 30 24) ((⟨λq=>[(11,.int .i64 q.1.1)],λq=>(⟨p0,ps.l.set u.toNat q.1.2.2⟩:J Int).L 3 aL++(⟨eH,s.cells,80⟩::⟨cT,a.cells,32⟩::L),λ_=>R,λ_=>0⟩:dV {q:Int×Int×Int//(start<=q.1/\q.1<=70368744177664)/\H7 a s ps.l u q.1=false/\(q.1<q.2.2/\q.2.2<=70368744177664)/\H7 a s ps.l u q.2.2=true})) ?_ ?_;·
  refine e3 ?_;refine zY ([8,9,11,12]++b4 30 24) AZ [(11,.int _ _),(12,.int _ _)] bP λeZ=>?_;refine kO ([8,9,11,12]++b4 30 24) ((⟨λq=>[(11,.int .i64 q.1.1),(12,.int .i64 q.1.2.1)],λq=>(⟨p0,ps.l.set u.toNat q.1.2.2⟩:J Int).L 3 aL++(⟨eH,s.cells,80⟩::⟨cT,a.cells,32⟩::L),λ_=>R,λq=>(70368744177664-q.1.1).toNat⟩:dV {q:Int×Int×Int//(start<=q.1/\q.1<=70368744177664)/\H7 a s ps.l u q.1=false/\q.2.1=q.1-start+1})) (⟨(start,1,start),by dsimp only;omega,vN,by dsimp only;omega⟩) ?_;rintro⟨⟨bG,step,y⟩,yT,w7,EG⟩ bZ;try dsimp only
  dsimp only at yT w7 EG;have a1V:=n9 y;have Hd:=MX y;refine e3 (a6 (cR ?_));apply(hM);iterate 3 apply(b1)
  apply(l8);refine aG NR ?_;apply(a5d);refine i4 (jL O ((⟨p0,ps.l.set u.toNat y⟩:J Int)) (min (bG+step) 70368744177664) rfl rfl rfl rfl c0 bC bI bC bH aE aE) ?_;rintro v E G ⟨rfl,rfl⟩;apply(y1);obtain⟨w,cV⟩:∃w,w=min (bG+step) 70368744177664:=⟨_,rfl⟩;have Bt:w<=70368744177664/\bG<=w/\(w<70368744177664->w=bG+step):=by omega
  rw[<-cV];refine mJ Xq ?_;have bD5:=n9 w;have Nx:=MX w;apply eK∘wW∘h7;refine cC rfl (a9E (o:=p0) (y:=w) h D x8 (n9 w)) ?_;apply(GY);apply(W)<;>intro bF;·refine lC (lB ?_);refine a4Z rfl ?_;refine tT (lA ?_);have MY:H7 a s ps.l u w=true:=decide_eq_true bF;exact b0D
  have a1x:H7 a s ps.l u w=false:=decide_eq_false bF;apply iK∘h7∘a9M∘aC4∘mT;apply(W)<;>intro b2;·apply rN∘uN;refine eI (aZ (iT (gD (iS (wS (iS (a4t ?_)))))));refine bN L R VL ?_;refine⟨0,false,rfl,⟨(λh=>by cases h),λ_=>⟨rfl,λj N V=>?_⟩⟩,rfl,rfl⟩;refine cI.no N V (oE _) ?_;rw[xS,Hp,show start+(70368744177664-start)=w from by omega];exact a1x
  exact b0u
 rintro⟨⟨bG,step,y⟩,yT,w7,EG,Cd⟩ bZ;try dsimp only
 dsimp only at yT w7 EG Cd;have a1V:=n9 y;have Hd:=MX y;apply TC∘a5d∘aPH∘dE;refine eI (aZ (a6 (e3 ?_)));refine c7 [(3,.int _ _),(4,.pointer _),(5,.pointer _),(10,.slice _ _ _),(11,.int _ _),(13,.int _ _)] bP λnS=>?_;refine kO ([11,13]++b4 58 27) ((⟨λq=>[(11,.int .i64 q.1.1),(13,.int .i64 q.1.2.1)],λq=>(⟨p0,ps.l.set u.toNat q.1.2.2⟩:J Int).L 3 aL++(⟨eH,s.cells,80⟩::⟨cT,a.cells,32⟩::L),λ_=>R,λq=>(q.1.2.1-q.1.1).toNat⟩:dV {q:Int×Int×Int//(start<=q.1/\q.1<q.2.1/\q.2.1<=70368744177664)/\H7 a s ps.l u q.1=false/\H7 a s ps.l u q.2.1=true})) (⟨(bG,y,y),by dsimp only;omega,w7,Cd⟩) ?_;rintro⟨⟨b6,aA,z⟩,nK,fB,kF⟩ bZ;try dsimp only
 dsimp only at nK fB kF;have bD6:=n9 z;have bCN:=MX z;apply s2∘z2∘Le;apply(W)<;>intro dZ;·
  obtain⟨pZ,Hh⟩:∃pZ,pZ=b6+(aA-b6).tdiv 2:=⟨_,rfl⟩;have a1L:b6<pZ/\pZ<aA:=by rw[JQ D]at Hh;omega
  have aSO:0<=(aA-b6).tdiv 2/\(aA-b6).tdiv 2<=aA-b6:=by rw[JQ D];omega
  refine dK (aZ (e3 (a6 (cR ?_))));apply(hM);iterate 4 apply(b1)
  apply kP∘PB∘l8∘aOm∘aLP;rintro v E G ⟨rfl,rfl⟩;apply(jW);rw[<-Hh];refine mJ Xq ?_;have bD2:=n9 pZ;have a1y:=MX pZ;apply eK∘wW∘h7;refine cC rfl (a9E (o:=p0) (y:=pZ) h D x8 (n9 pZ)) ?_;apply(GY);apply(W)<;>intro dX;·apply yH∘a5P∘a5y∘dE;refine eI (gV ?_);exact dU ⟨(b6,pZ,pZ),by dsimp only;omega,fB,decide_eq_true dX⟩
  apply yH∘a5P∘a5y∘dE;refine eI (gV ?_);exact dU ⟨(pZ,aA,pZ),by dsimp only;omega,decide_eq_false dX,kF⟩
 apply oD∘b1∘dE∘v9;refine bN L R VL ?_;refine⟨aA,true,rfl,⟨λ_=>⟨aA-start,by omega,by rw[Hp];omega,by rw[xS];omega,kF,λj N V=>?_⟩,λh=>by cases h⟩,rfl,rfl⟩;refine cI.no N (show j<=b6-start by omega) (by rw[Hp];omega) ?_;rw[xS,show start+(b6-start)=b6 from by omega];exact fB
def b89(a:bR)(s:cE)(ps:a0 Int)(u:Int)(L:aP)(R:aJ)(h:Jw a s ps.l u R)(nG:aH (cZ ps) R):
 aI prog 297 [a.val,s.val,ps.val,.int .i64 u].toArray L R (λw E G=>∃(z:Int) (ok:Bool),w=.tuple #[.int .i64 z,.bool ok]/\YW (II a s ps.l u) (ps.l.getD u.toNat 0) false z ok/\L=E/\R=G):=by
 have hv:=h.v;have rU:=h.len;have q9:=h.ok.Y.places;obtain⟨start,Bp⟩:∃start,start=ps.l.getD u.toNat 0:=⟨_,rfl⟩;have Hc:ps.l[u.toNat]?=some start:=by rw[Bp];exact bJ ps.l u.toNat 0
 have hb:-70368744177664<=start/\start<=70368744177664:=by rw[Bp];exact h.bY.get u.toNat
 have cI:=aMw (s:=s) (start:=start) h.ok (ps:=ps.l) (v:=u) D;have aTK:ps.l.set u.toNat start=ps.l:=by rw[Bp];exact Kr
 have MX:∀y,(ps.l.set u.toNat y)[u.toNat]?=some y:=λy=>by rw[tQ D]
 have xS:∀j:Int,start+m7 false*j=start-j:=λj=>by simp[m7];omega
 have Hp:tY false start=start+70368744177664:=rfl;rw[<-Bp];refine bW 86 call297 func297 ?_;apply(c8);intro cT;apply(iU);intro eH;apply GX∘WR∘a4a;rintro v E G ⟨p0,rfl,Oi,rfl,rfl⟩;apply(KJ);have n9:∀z,(⟨p0,ps.l.set u.toNat z⟩:J Int).ok 1 aL:=λz=>J.oZ CG Oi fX;apply aRE∘eK∘wW∘h7;refine cC rfl (aAz (o:=p0) (y:=start) h hb x8 (n9 start)) ?_;apply(S9);apply(W)<;>intro aO;·exact aZa
 have Va:=n9 start;have Hd:=MX start;have vN:II a s ps.l u start=false:=decide_eq_false aO;apply QN∘aCt∘aC8∘dE∘zG;refine v2 ([8,9,11,12]++b4 30 24) ((⟨λq=>[(11,.int .i64 q.1.1)],λq=>(⟨p0,ps.l.set u.toNat q.1.2.2⟩:J Int).L 3 aL++(⟨eH,s.cells,80⟩::⟨cT,a.cells,32⟩::L),λ_=>R,λ_=>0⟩:dV {q:Int×Int×Int//(-70368744177664<=q.1/\q.1<=start)/\II a s ps.l u q.1=false/\(-70368744177664<=q.2.2/\q.2.2<q.1)/\II a s ps.l u q.2.2=true})) ?_ ?_;·
  refine e3 ?_;refine zY ([8,9,11,12]++b4 30 24) AZ [(11,.int _ _),(12,.int _ _)] bP λeZ=>?_;refine kO ([8,9,11,12]++b4 30 24) ((⟨λq=>[(11,.int .i64 q.1.1),(12,.int .i64 q.1.2.1)],λq=>(⟨p0,ps.l.set u.toNat q.1.2.2⟩:J Int).L 3 aL++(⟨eH,s.cells,80⟩::⟨cT,a.cells,32⟩::L),λ_=>R,λq=>(q.1.1+70368744177664).toNat⟩:dV {q:Int×Int×Int//(-70368744177664<=q.1/\q.1<=start)/\II a s ps.l u q.1=false/\q.2.1=start-q.1+1})) (⟨(start,1,start),by dsimp only;omega,vN,by dsimp only;omega⟩) ?_;rintro⟨⟨bG,step,y⟩,yT,w7,EG⟩ bZ;try dsimp only
  dsimp only at yT w7 EG;have a1V:=n9 y;have Hd:=MX y;refine e3 (a6 (cR ?_));apply(hM);iterate 3 apply(b1)
  apply(kP);refine aG B9 ?_;apply(a5d);refine i4 (jL O ((⟨p0,ps.l.set u.toNat y⟩:J Int)) (max (bG-step) (-70368744177664)) rfl rfl rfl rfl c0 bC bI bC bH aE aE) ?_;rintro v E G ⟨rfl,rfl⟩;apply(y1);obtain⟨w,cV⟩:∃w,w=max (bG-step) (-70368744177664):=⟨_,rfl⟩;have Bt:-70368744177664<=w/\w<=bG/\(-70368744177664<w->w=bG-step):=by omega
  rw[<-cV];refine mJ Xq ?_;have bD5:=n9 w;have Nx:=MX w;apply eK∘wW∘h7;refine cC rfl (aAz (o:=p0) (y:=w) h D x8 (n9 w)) ?_;apply(S9);apply(W)<;>intro bF;·refine lC (lB ?_);refine a4Z rfl ?_;refine tT (lA ?_);have MY:II a s ps.l u w=true:=decide_eq_true bF;exact b0D
  have a1x:II a s ps.l u w=false:=decide_eq_false bF;apply iK∘h7∘a9M∘aC4∘mT;apply(W)<;>intro b2;·apply rN∘uN;refine eI (aZ (iT (gD (iS (wS (iS (a4t ?_)))))));refine bN L R VL ?_;refine⟨0,false,rfl,⟨(λh=>by cases h),λ_=>⟨rfl,λj N V=>?_⟩⟩,rfl,rfl⟩;refine cI.no N V (oE _) ?_;rw[xS,Hp,show start-(start+70368744177664)=w from by omega];exact a1x
  exact b0u
 rintro⟨⟨bG,step,y⟩,yT,w7,EG,Cd⟩ bZ;try dsimp only
 dsimp only at yT w7 EG Cd;have a1V:=n9 y;have Hd:=MX y;apply TC∘a5d∘aPH∘dE;refine eI (aZ (a6 (e3 ?_)));refine c7 [(3,.int _ _),(4,.pointer _),(5,.pointer _),(10,.slice _ _ _),(11,.int _ _),(13,.int _ _)] bP λnS=>?_;refine kO ([11,13]++b4 58 27) ((⟨λq=>[(11,.int .i64 q.1.1),(13,.int .i64 q.1.2.1)],λq=>(⟨p0,ps.l.set u.toNat q.1.2.2⟩:J Int).L 3 aL++(⟨eH,s.cells,80⟩::⟨cT,a.cells,32⟩::L),λ_=>R,λq=>(q.1.1-q.1.2.1).toNat⟩:dV {q:Int×Int×Int//(-70368744177664<=q.2.1/\q.2.1<q.1/\q.1<=start)/\II a s ps.l u q.1=false/\II a s ps.l u q.2.1=true})) (⟨(bG,y,y),by dsimp only;omega,w7,Cd⟩) ?_;rintro⟨⟨aA,b6,z⟩,nK,fB,kF⟩ bZ;try dsimp only
 dsimp only at nK fB kF;have bD6:=n9 z;have bCN:=MX z;apply s2∘z2∘Le;apply(W)<;>intro dZ;·
  obtain⟨pZ,Hh⟩:∃pZ,pZ=b6+(aA-b6).tdiv 2:=⟨_,rfl⟩;have a1L:b6<pZ/\pZ<aA:=by rw[JQ D]at Hh;omega
  have aSO:0<=(aA-b6).tdiv 2/\(aA-b6).tdiv 2<=aA-b6:=by rw[JQ D];omega
  refine dK (aZ (e3 (a6 (cR ?_))));apply(hM);iterate 4 apply(b1)
  apply kP∘PB∘l8∘aOm∘aLP;rintro v E G ⟨rfl,rfl⟩;apply(jW);rw[<-Hh];refine mJ Xq ?_;have bD2:=n9 pZ;have a1y:=MX pZ;apply eK∘wW∘h7;refine cC rfl (aAz (o:=p0) (y:=pZ) h D x8 (n9 pZ)) ?_;apply(S9);apply(W)<;>intro dX;·apply yH∘a5P∘a5y∘dE;refine eI (gV ?_);exact dU ⟨(aA,pZ,pZ),by dsimp only;omega,fB,decide_eq_true dX⟩
  apply yH∘a5P∘a5y∘dE;refine eI (gV ?_);exact dU ⟨(pZ,b6,pZ),by dsimp only;omega,decide_eq_false dX,kF⟩
 apply oD∘b1∘dE∘v9;refine bN L R VL ?_;refine⟨b6,true,rfl,⟨λ_=>⟨start-b6,by omega,by rw[Hp];omega,by rw[xS];omega,kF,λj N V=>?_⟩,λh=>by cases h⟩,rfl,rfl⟩;refine cI.no N (show j<=start-aA by omega) (by rw[Hp];omega) ?_;rw[xS,show start-(start-aA)=aA from by omega];exact fB
def Ku{ps:List Int}(h:ps.findSome? rK=none):qY ps:=λp hp=>by
 obtain⟨i,aA⟩:=List.mem_iff_getElem?.1 hp
 exact b8N h i p aA
def aB4{ps:List Int}(h:qY ps):ps.findSome? rK=none:=List.findSome?_eq_none_iff.2 λp hp=>by
 have:=h p hp
 exact if_neg D
section
variable{a:bR}{s:cE}{ps:a0 Int}{v:Int}
end
end Go.Proofs.YtchfclmokpbldaaGreat
namespace Go.Proofs.YtchfclmokpbldaaGreat
open Go.Aw Go Go.Proofs.Tryz
def CD(m:hZ)(v:Nat):Nat->List Int
 |0=>[]
 |k+1=>if(m.aD.l.getD k default).dM=true then CD m v k
  else if(m.aD.l.getD k default).bK=(v:Int)then CD m v k++[(m.aD.l.getD k default).to]
  else if(m.aD.l.getD k default).to=(v:Int)then CD m v k++[(m.aD.l.getD k default).bK]else CD m v k
def a4M(m:hZ)(v:Nat): ∀k,(CD m v k).length<=k
 |0=>by simp[CD]
 |k+1=>by
  have:=a4M m v k
  rw[CD]
  split
  ·omega
  ·split
   ·simp only[iD,pN];omega
   ·split
    ·simp only[iD,pN];omega
    ·omega
def aL0{m:hZ}(hm:QB m){v:Nat}: ∀k,k<=m.aD.l.length->∀e∈CD m v k,∃w:Nat,e=(w:Int)/\IC m v w
 |0,_,e,h=>by cases h
 |k+1,hk,e,h=>by
  have cM:=aL0 hm (v:=v) k D e
  have hg:=bJ m.aD.l k default
  have kX:=hm.b9 k _ hg
  have N:=kX.bK
  have V:=kX.to
  have DC:=gU hg
  rw[CD]at h
  split at h
  ·exact cM h
  ·rename_i hc
   have hc:(m.aD.l.getD k default).dM=false:=by simpa using hc
   split at h
   ·rename_i hf
    rcases List.mem_append.1 h with h|h
    ·exact cM h
    ·rw[List.mem_singleton.1 h]
     exact⟨(m.aD.l.getD k default).to.toNat,by omega,_,DC,hc,.inl ⟨hf,by omega⟩⟩
   ·split at h
    ·rename_i hf dS
     rcases List.mem_append.1 h with h|h
     ·exact cM h
     ·rw[List.mem_singleton.1 h]
      exact⟨(m.aD.l.getD k default).bK.toNat,by omega,_,DC,hc,.inr ⟨by omega,dS⟩⟩
    ·exact cM h
def aKE(m:hZ)(v:Nat){k:Nat}: ∀{n:Nat},k<=n->∀e∈CD m v k,e∈CD m v n
 |0,h,e,X=>by rw[show k=0 by omega]at X;exact X
 |n+1,h,e,X=>by
  rcases gY n k with cN|cN
  ·rw[show k=n+1 by omega]at X;exact X
  ·have:=aKE m v (n:=n) cN e X
   rw[CD]
   split
   ·exact this
   ·split
    ·exact sI _ this
    ·split
     ·exact sI _ this
     ·exact this
def b48{m:hZ}(hm:QB m){v w:Nat}(h:IC m v w):(w:Int)∈CD m v m.aD.l.length:=by
 obtain⟨r,M,hc,N⟩:=h;obtain⟨i,aA⟩:=List.mem_iff_getElem?.1 M;have Ay:=(List.getElem?_eq_some_iff.1 aA).1;have kX:=hm.b9 i r aA;have iO:=kX.ne;have aE7:m.aD.l.getD i default=r:=getD_some aA;refine aKE m v (k:=i+1) Ay _ ?_;rw[CD,aE7,if_neg (by rw[hc];decide)];rcases N with N|N;·rw[if_pos N.1,N.2];simp
 ·rw[if_neg D,if_pos N.2,N.1];simp
structure V0(m:hZ)(k:Nat)(aC:List (J Int)):Prop where
 len:aC.length=m.places.l.length
 ok:∀(v:Nat) (p:J Int),aC[v]?=some p->p.ok 1 aL/\p.l=CD m v k
def V0.zero(m:hZ):V0 m 0 (List.replicate m.places.l.length J.nil):=by exact aHH
def V0.EQ{m:hZ}{k:Nat}{aC:List (J Int)}(h:V0 m k aC)(hc:(m.aD.l.getD k default).dM=true):V0 m (k+1) aC:=
 ⟨h.len,λv p hp=>⟨(h.ok v p hp).1,by rw[CD,if_pos hc];exact(h.ok v p hp).2⟩⟩
def V0.next{m:hZ}{k:Nat}{aC:List (J Int)}(h:V0 m k aC)(hc: ¬(m.aD.l.getD k default).dM=true){i j:Nat}(aA:(i:Int)=(m.aD.l.getD k default).bK)(aY:(j:Int)=(m.aD.l.getD k default).to)(iO:i≠j)
 {p q:J Int} (hp:aC[i]?=some p) (hq:aC[j]?=some q) {o o':gZ} (hok:(⟨o,p.l++[(m.aD.l.getD k default).to]⟩:J Int).ok 1 aL) (FZ:(⟨o',q.l++[(m.aD.l.getD k default).bK]⟩:J Int).ok 1 aL):
 V0 m (k+1) ((aC.set i ⟨o,p.l++[(m.aD.l.getD k default).to]⟩).set j ⟨o',q.l++[(m.aD.l.getD k default).bK]⟩):=by
 refine⟨by simp[h.len],λv x K=>?_⟩;rw[EU]at K;split at K;·
  rename_i e;subst e;split at K;·cases K;refine⟨FZ,?_⟩;rw[CD,if_neg hc,if_neg D,if_pos D,(h.ok _ q hq).2]
  ·cases K
 ·
  rename_i e;rw[EU]at K;split at K;·
   rename_i eY;subst eY;split at K;·cases K;refine⟨hok,?_⟩;rw[CD,if_neg hc,if_pos D,(h.ok _ p hp).2]
   ·cases K
  ·rename_i eY;refine⟨(h.ok v x K).1,?_⟩;rw[CD,if_neg hc,if_neg D,if_neg D];exact(h.ok v x K).2
abbrev iP(f:List Int)(v:Nat):Int:=f.getD v (-1)
def MC{f:List Int}{k i:Nat}{x:Int}(hk:k<f.length):iP (f.set k x) i=if i=k then x else iP f i:=by unfold iP;exact aHE
def b2T{f:List Int}{v:Nat}(h:0<=iP f v):v<f.length:=by
 rcases gY v f.length with cN|cN;·exact cN
 ·unfold iP at h;rw[iW,sJ cN]at h;simp at h
structure NZ(m:hZ)(f:List Int)(n:Int):Prop where
 len:f.length=m.places.l.length
 F8:∀v,-1<=iP f v/\iP f v<n
 DI:0<=n
 Gb:∀u v,0<=iP f u->IC m u v->iP f v=iP f u
 aRX:∀u v,0<=iP f u->iP f u=iP f v->uR m u v
structure HZ(m:hZ)(tF f:List Int)(n:Int)(i:Nat)(DM:List Int)(Gc:Nat->Prop):Prop where
 len:f.length=m.places.l.length
 qV:∀v,0<=iP tF v->iP f v=iP tF v
 new:∀v,iP tF v<0->iP f v= -1\/(iP f v=n/\uR m i v)
 start:iP f i=n/\iP tF i<0
 a8f:∀e∈DM,∃v:Nat,e=(v:Int)/\iP tF v<0/\iP f v=n
 Gb:∀u,iP tF u<0->iP f u=n->(u:Int)∈DM\/Gc u\/∀v,IC m u v->iP f v=n
def NZ.start{m:hZ}{f:List Int}{n:Int}(h:NZ m f n){i:Nat}(aA:i<m.places.l.length)(hn:iP f i<0):HZ m f (f.set i n) n i [(i:Int)] (λ_=>False):=by
 have hl:=h.len;refine⟨by simp[hl],λv hv=>?_,λv hv=>?_,⟨by rw[MC D,if_pos rfl],hn⟩,λe X=>?_,λu c4 LC=>?_⟩;·rw[MC D,if_neg (λe=>by rw[e]at hv;omega)]
 ·
  rw[MC D];split;·rename_i e;rw[e];exact .inr ⟨rfl,.refl⟩
  ·left;have:=h.F8 v;omega
 ·rw[List.mem_singleton.1 X];exact⟨i,rfl,hn,by rw[MC D,if_pos rfl]⟩
 ·
  rw[MC D]at LC;split at LC;·rename_i e;rw[e];exact .inl fX
  ·have:=h.F8 u;omega
def HZ.aUo{m:hZ}{tF f:List Int}{n:Int}{i:Nat}{DM:List Int}{Gc:Nat->Prop}(h:HZ m tF f n i DM Gc)(hl:NZ m tF n){p q:Nat}(hp:iP tF p<0)(hs:IC m p q):iP tF q<0:=by
 rcases JT (iP tF q) 0 with cN|cN;·exact cN
 ·have:=hl.Gb q p cN hs.symm;omega
def HZ.push{m:hZ}{tF f:List Int}{n:Int}{i:Nat}{DM:List Int}{Gc:Nat->Prop}(h:HZ m tF f n i DM Gc)(hl:NZ m tF n){p q:Nat}(hp:iP tF p<0/\iP f p=n)(hs:IC m p q)(hq:q<m.places.l.length)(hf:iP f q<0):HZ m tF (f.set q n) n i (DM++[(q:Int)]) Gc:=by
 have kD:=h.len;have UN:=h.aUo hl hp.1 hs;have bCd:uR m i p:=by
  rcases h.new p hp.1 with N|N;·have:=hl.DI;omega
  ·exact N.2
 have mX:=hl.DI;refine⟨by simp[kD],λv hv=>?_,λv hv=>?_,⟨?_,h.start.2⟩,λe X=>?_,λu c4 LC=>?_⟩;·rw[MC D,if_neg (λe=>by rw[e]at hv;omega)];exact h.qV v hv
 ·
  rw[MC D];split;·rename_i e;rw[e];exact .inr ⟨rfl,bCd.tail hs⟩
  ·exact h.new v hv
 ·
  rw[MC D];split;·rfl
  ·exact h.start.1
 ·
  rcases List.mem_append.1 X with N|N;·
   obtain⟨v,j5,kK,lV⟩:=h.a8f e N;refine⟨v,j5,kK,?_⟩;rw[MC D];split;·rfl
   ·exact lV
  ·rw[List.mem_singleton.1 N];exact⟨q,rfl,UN,by rw[MC D,if_pos rfl]⟩
 ·
  rw[MC D]at LC;split at LC;·rename_i e;rw[e];exact .inl fX
  ·
   rcases h.Gb u c4 LC with N|N|N;·exact .inl (sI _ N)
   ·exact .inr (.inl N)
   ·
    refine .inr (.inr λv hv=> ?_);rw[MC D];split;·rfl
    ·exact N v hv
def HZ.bGs{m:hZ}{tF f:List Int}{n:Int}{i:Nat}{DM:List Int}{p:Nat}(h:HZ m tF f n i (DM++[(p:Int)]) (λ_=>False)):HZ m tF f n i DM (λu=>u=p):=by
 refine⟨h.len,h.qV,h.new,h.start,λe X=>h.a8f e (sI _ X),λu c4 LC=>?_⟩;rcases h.Gb u c4 LC with N|N|N;·
  rcases List.mem_append.1 N with V|V;·exact .inl V
  ·have:=List.mem_singleton.1 V;exact .inr (.inl D)
 ·exact absurd N id
 ·exact .inr (.inr N)
def HZ.bGO{m:hZ}{tF f:List Int}{n:Int}{i:Nat}{DM:List Int}{p:Nat}(h:HZ m tF f n i DM (λu=>u=p))(hp:∀v,IC m p v->iP f v=n):HZ m tF f n i DM (λ_=>False):=by
 refine⟨h.len,h.qV,h.new,h.start,h.a8f,λu c4 LC=>?_⟩;rcases h.Gb u c4 LC with N|N|N;·exact .inl N
 ·rw[N];exact .inr (.inr hp)
 ·exact .inr (.inr N)
def HZ.done{m:hZ}{tF f:List Int}{n:Int}{i:Nat}(h:HZ m tF f n i [] (λ_=>False))(hl:NZ m tF n):NZ m f (n+1):=by
 have mX:=hl.DI;have a0P:∀v,(0<=iP tF v/\iP f v=iP tF v)\/(iP tF v<0/\iP f v= -1)\/(iP tF v<0/\iP f v=n/\uR m i v):=λv=>by
  rcases JT (iP tF v) 0 with N|N;·
   rcases h.new v N with V|V;·exact .inr (.inl ⟨N,V⟩)
   ·exact .inr (.inr ⟨N,V⟩)
  ·exact .inl ⟨N,h.qV v N⟩
 refine⟨h.len,λv=>?_,by omega,λu v c4 hs=>?_,λu v c4 X=>?_⟩;·have:=hl.F8 v;rcases a0P v with N|N|N<;>omega
 ·
  rcases a0P u with N|N|N;·have V:=hl.Gb u v N.1 hs;rw[h.qV v D,N.2,V]
  ·omega
  ·
   rcases h.Gb u N.1 N.2.1 with V|V|V;·cases V
   ·exact absurd V id
   ·rw[V v hs,N.2.1]
 ·
  have Wd:=hl.F8 u;have bKP:=hl.F8 v;rcases a0P u with N|N|N;·
   rcases a0P v with V|V|V;·exact hl.aRX u v N.1 D
   ·omega
   ·omega
  ·omega
  ·
   rcases a0P v with V|V|V;·omega
   ·omega
   ·exact N.2.2.symm.trans V.2.2
def NZ.Cc{m:hZ}:NZ m (List.replicate m.places.l.length (-1)) 0:=by
 have e:∀v,iP (List.replicate m.places.l.length (-1)) v= -1:=λv=>by unfold iP;rw[iW,R1];split<;>rfl
 refine⟨by simp,λv=>by rw[e];omega,by omega,λu v c4=>by rw[e]at c4;omega,λu v c4=>by rw[e]at c4;omega⟩
structure aAC(m:hZ)(f:List Int)(n:Int):Prop where
 len:f.length=m.places.l.length
 F8:∀v,v<m.places.l.length->0<=iP f v/\iP f v<n
 n:0<=n/\n<=m.places.l.length
 M6:∀u v,u<m.places.l.length->v<m.places.l.length->(iP f u=iP f v↔uR m u v)
def NZ.part{m:hZ}{f:List Int}{n:Int}(h:NZ m f n)(ha:∀v,v<m.places.l.length->0<=iP f v)(hn:n<=m.places.l.length):aAC m f n:=by refine⟨h.len,λv hv=>⟨ha v hv,(h.F8 v).2⟩,⟨h.DI,hn⟩,λu v c4 hv=>⟨λX=>h.aRX u v (ha u c4) X,λhc=>?_⟩⟩;have:=uR.dM (P:=λx=>0<=iP f x/\iP f x=iP f u) (λx y K hs=>by have:=h.Gb x y K.1 hs;omega) hc ⟨ha u c4,rfl⟩;exact this.2.symm
def Dy(f:List Int):Nat:=f.countP (λx=>decide (x<0))
def aOs{f:List Int}{q:Nat}{n:Int}(hq:q<f.length)(hf:iP f q<0)(hn:0<=n):Dy (f.set q n)+1=Dy f:=by
 unfold Dy;have hg:f[q]<0:=by have:=iL (l:=f) (k:=q) (-1) hq;rw[ET hq]at this;rw[y2 this];exact hf
 rw[List.countP_set hq];have:0<List.countP (λx=>decide (x<0)) f:=List.countP_pos_iff.2 ⟨f[q],aIf hq,by simpa using hg⟩;rw[if_pos (by simpa using hg),if_neg (by simpa using hn)];omega
section
attribute [local irreducible] cH c6 dP aI cJ eD e9 e0 e1 e5 eS e8 J.L
def aCv(h:A->B:=by exact(aG (h4 O ((⟨.own C1 m.places.l.length [],f⟩:J Int)) _ rfl rfl ((show _=Value.slice _ _ _ from rfl).trans (v4 fW)) rfl bC (i:=i) cW iC) ·)):=h
def aM3(h:A->B:=by exact(aG (h4 O ((⟨.own C1 m.places.l.length [],iN⟩:J Int)) _ rfl rfl ((show _=Value.slice _ _ _ from rfl).trans (v4 fW)) rfl bC (i:=u) cW iC) ·)):=h
def sU{P n code t L R G}{Q:gA}(h:R=G)(k:cH P n code t L G Q):cH P n code t L R Q:=h▸k
def a0I{f:List Int}{v:Nat}(h:v<f.length):f[v]?=some (iP f v):=iL _ h
def b6R{g cap:Nat}{spare:List Value}{l:List Int}{x:Int}(h:(⟨.own g cap spare,l++[x]⟩:J Int).ok 1 aL):(⟨.own g cap (aL x++spare),l⟩:J Int).ok 1 aL:=by obtain⟨N,V,aQ,b7⟩:=h;dsimp only[]at N V aQ b7;simp only[iD,pN]at V;refine⟨by rw[L9 (aR:=1) (λ_=>rfl)],by dsimp only;omega,aQ,?_⟩;rw[<-b7];simp[aH3,mQ]
def b8F{g cap:Nat}{spare:List Value}{T:TypeId}{l:List Int}{x:Int}:(⟨.own g cap spare,l++[x]⟩:J Int).L T aL=(⟨.own g cap (aL x++spare),l⟩:J Int).L T aL:=by simp[J.L,gZ.L,aH3,mQ]
def b3y(m:hZ)(L:aP)(R:aJ)(hm:N1 m R)(hok:QB m):
 aI prog 281 [m.val].toArray L R (λw E G=>∃(p:J Int) (n:Nat) (S:aJ),w=.tuple #[p.val,.int .i64 n]/\p.ok 1 aL/\aAC m p.l n/\p.L 3 aL++L=E/\S++R=G):=by
 have UJ:=hm.aD;have EB:=hm.places;have q9:=hok.places;have OX:=hok.aD;refine bW 127 call281 func281 ?_;apply(c8);intro gK;apply jS∘mL∘lM∘EL;rintro v E G ⟨MK,rfl,rfl,aD4⟩;replace aD4:=aD4.symm;subst aD4;apply z5∘r9;refine c7 [(1,.pointer _),(4,.slice _ _ _),(20,.slice _ _ _),(21,.int _ _),(22,.int _ _)] bP λeZ=>?_;refine mC ([6]++b4 22 34) ((⟨λq=>[(22,.int .i64 ((q.1.1:Nat):Int))],λq=>⟨MK,q.1.2.flatMap MH,40⟩::⟨gK,m.cells,28⟩::(q.1.2.flatMap (J.L 3 aL)++L),λ_=>R,λq=>m.aD.l.length-q.1.1⟩:dV {q:Nat×List (J Int)//q.1<=m.aD.l.length/\V0 m q.1 q.2})) (⟨(0,List.replicate m.places.l.length J.nil),by dsimp only;omega,V0.zero m⟩) bP (by dsimp only;rw[aAK,<-a98];exact oR _) fF ?_;rintro⟨⟨k,aC⟩,hk,nW⟩ bZ;try dsimp only
 dsimp only at hk nW;apply(h2);apply(W)<;>intro aO;·
  have M:=bJ m.aD.l k default;have kX:=hok.b9 _ _ M;have RI:=kX.bK;have X2:=kX.to;have a7n:=kX.ne;have Lz:=nW.len;have DA:(m.aD.l.getD k default).bK.toNat<aC.length:=by omega
  have jM:(m.aD.l.getD k default).to.toNat<aC.length:=by omega
  obtain⟨p,hp⟩:=IA DA;obtain⟨q,hq⟩:=IA jM;have iB:=nW.ok _ _ hp;have gG:=nW.ok _ _ hq;have eB:=a4M m (m.aD.l.getD k default).bK.toNat k;have gB:=a4M m (m.aD.l.getD k default).to.toNat k;rw[<-iB.2]at eB;rw[<-gG.2]at gB;have iO:(m.aD.l.getD k default).bK.toNat≠(m.aD.l.getD k default).to.toNat:=by omega
  apply j7∘B2∘WQ;intro hP;apply CL∘oW;apply(W)<;>intro bF;·refine a6 ?_;refine hF O [29,30,31] [0,1,2,3,4,5,6,7,8,9,10] [11,12,13] ([a5.mk hP _ _,a5.mk MK _ _]) _ cX bE a2 b0Y ?_;refine m5 oG ?_;apply IM∘QP;refine eO b0h ?_;apply YG∘l1∘VA;rintro v E G ⟨Ab,rfl,rfl,Mp⟩;replace Mp:=Mp.symm;subst Mp;apply(xF);refine o4 (j2 (f:=aL) (a:=(m.aD.l.getD k default).to) O rfl rfl rfl rfl (iB.1) c0 j8 rfl kH) rfl rfl rfl ?_;rintro v E G ⟨aUC,rfl,bDP,rfl,rfl⟩;apply(fS);refine a4 b0h ?_;refine ZA (v:=Value.slice _ _ _) rfl rfl rfl rfl s6 Qv (by exact Kt (x5:=⟨aUC,p.l++[(m.aD.l.getD k default).to]⟩) bI bH bC aE) aE a2 ?_;apply(vW);(have bEp:(aC.set (m.aD.l.getD k default).bK.toNat ⟨aUC,p.l++[(m.aD.l.getD k default).to]⟩)[(m.aD.l.getD k default).to.toNat]?=some q:=by rw[JR iO];exact hq);refine hF O [42,43,44] [0,1,2,3,4,5,6,7,8,9,10] [11,12,13] ([a5.mk hP _ _,a5.mk MK _ _]) _ cX bE a2 b0Y ?_;refine m5 oG ?_;apply IM∘QP;refine eO b0l ?_;apply YG∘l1∘VA;rintro v E G ⟨bIC,rfl,rfl,aEa⟩;replace aEa:=aEa.symm;subst aEa;apply(xF);refine o4 (j2 (f:=aL) (a:=(m.aD.l.getD k default).bK) O rfl rfl rfl rfl (gG.1) c0 j8 rfl kH) rfl rfl rfl ?_;rintro v E G ⟨bF9,rfl,bDT,rfl,rfl⟩;apply(fS);refine a4 b0l ?_;refine ZA (v:=Value.slice _ _ _) rfl rfl rfl rfl s6 Qv (by exact Kt (x5:=⟨bF9,q.l++[(m.aD.l.getD k default).bK]⟩) bI bH bC aE) aE a2 ?_;apply(TL);exact dU ⟨(k+1,_),by dsimp only;omega,nW.next PO D D iO hp hq bDP bDT⟩
  apply(n6);exact dU ⟨(k+1,aC),by dsimp only;omega,nW.EQ PO⟩
 obtain rfl:k=m.aD.l.length:=by omega
 apply(O9);have Lz:=nW.len;refine aKl (A:=[_,_]) (aR:=1) bI bH (λp hp=>?aHn) λe2 uI=>?_;case aHn=>obtain⟨r,M⟩:=List.mem_iff_getElem?.1 hp;exact(nW.ok r p M).1
 apply(HR);refine Zb (A:=[]) (aR:=1) (len:=(aC.map J.U).length) (cap:=m.places.l.length) (rows:=(aC.map J.U).map aBc) (eQ:=(aC.map J.U).map cZ) fX B6 D (λr M=>?s4) bH ?aDj (λx K=>?aHB) ?_;case s4=>obtain⟨y,_,rfl⟩:=List.mem_map.1 M;rfl
 case aDj=>exact aW3
 case aHB=>exact b0z
 apply(HR);obtain⟨ZB,a6I⟩:∃ZB:a0 (a0 Int),ZB=⟨some ⟨MK,0,none⟩,m.places.l.length,aC.map J.U⟩:=⟨_,rfl⟩;have bJf:ZB.l.length=m.places.l.length:=by rw[a6I];simp[Lz]
 have bBj:∀(v:Nat) (x:a0 Int),ZB.l[v]?=some x->x.l=CD m v m.aD.l.length:=λv x K=>by rw[a6I]at K;dsimp only at K;exact aZ5
 have Vj:Value.slice (some ⟨MK,0,none⟩) m.places.l.length m.places.l.length=ZB.val:=by rw[a6I,a0.val,uQ,Lz]
 obtain⟨e4,jR⟩:∃e4,e4=rI ZB::(e2++R):=⟨_,rfl⟩;have bBi:aH (rI ZB) e4:=by rw[jR];exact aM (.head _)
 have aTf:aH (O8 m.places) e4:=by rw[jR];exact EB.mono λr h=>aM (by simp[h])
 rw[Vj];refine sU (show _=e4 by rw[jR,a6I]) ?_;apply eK∘lM∘EL;rintro v E G ⟨C1,rfl,rfl,aEd⟩;replace aEd:=aEd.symm;subst aEd;apply z5∘D2;refine c7 [(4,.slice _ _ _),(7,.slice _ _ _),(61,.int _ _),(62,.int _ _)] bP λnS=>?_;refine mJ (XA (f:=aL) (x:=0) rfl _) ?_;refine kO ([8]++b4 62 7) ((⟨λq=>[(62,.int .i64 ((q.1.1:Nat):Int))],λq=>(⟨.own C1 m.places.l.length [],q.1.2⟩:J Int).L 3 aL++(⟨gK,m.cells,28⟩::L),λ_=>e4,λq=>m.places.l.length-q.1.1⟩:dV {q:Nat×List Int//q.1<=m.places.l.length/\q.2.length=m.places.l.length/\∀j:Nat,j<q.1->q.2[j]?=some (-1)})) (⟨(0,List.replicate m.places.l.length 0),by dsimp only;omega,by simp,λj aY=>by omega⟩) ?_;rintro⟨⟨i,f⟩,nK,fW,kF⟩ bZ;try dsimp only
 dsimp only at nK fW kF;have UG:(⟨.own C1 m.places.l.length [],f⟩:J Int).ok 1 aL:=by have:=JL aL 1 C1 m.places.l.length 0 bI;exact J.oZ bI this a2Z
 apply(h2);apply(W)<;>intro b2;·
  have OV:=a0I (f:=f) (v:=i) D;apply pR∘dE;refine eI (aZ (cR ?_));apply h7∘aCv;refine i4 (jL O ((⟨.own C1 m.places.l.length [],f⟩:J Int)) (-1) rfl rfl rfl rfl c0 bC bI bC bH aE aE) ?_;rintro v E G ⟨rfl,rfl⟩;apply(wB);exact oQ ⟨(i+1,f.set i (-1)),by dsimp only;omega,by simp;exact fW,λj aY=>by
  rw[EU];split;·rw[if_pos D]
  ·exact kF j (by dsimp only at aY;omega)⟩
 obtain rfl:i=m.places.l.length:=by omega
 have w4:f=List.replicate m.places.l.length (-1):=by
  refine R2 λj=>?_;rcases gY j m.places.l.length with h|h;·rw[kF j h,R1,if_pos h]
  ·rw[sJ D,sJ (by simp;exact h)]
 have aSl:NZ m f ((0:Nat):Int):=by rw[w4];exact NZ.Cc
 apply oD∘g7∘D2;refine c7 [(4,.slice _ _ _),(7,.slice _ _ _),(9,.int _ _),(70,.int _ _),(71,.int _ _)] bP λNH=>?_;refine kO ([9,10,11,12,14]++b4 71 54) ((⟨λq=>[(71,.int .i64 ((q.1.1:Nat):Int)),(9,.int .i64 ((q.1.2.1:Nat):Int))],λq=>(⟨.own C1 m.places.l.length [],q.1.2.2⟩:J Int).L 3 aL++(⟨gK,m.cells,28⟩::L),λ_=>e4,λq=>m.places.l.length-q.1.1⟩:dV {q:Nat×Nat×List Int//q.1<=m.places.l.length/\NZ m q.2.2 (q.2.1:Int)/\q.2.1<=q.1/\∀j:Nat,j<q.1->0<=iP q.2.2 j})) (⟨(0,0,f),by dsimp only;omega,aSl,by dsimp only;omega,λj aY=>by dsimp only at aY;omega⟩) ?_;rintro⟨⟨i,n,f⟩,nK,Gi,kF,a2v⟩ bZ;try dsimp only
 dsimp only at nK Gi kF a2v;have fW:=Gi.len;have UG:(⟨.own C1 m.places.l.length [],f⟩:J Int).ok 1 aL:=by have:=JL aL 1 C1 m.places.l.length 0 bI;exact J.oZ bI this a2Z
 apply(h2);apply(W)<;>intro dZ;·
  have OV:=a0I (f:=f) (v:=i) D;apply pR∘g7∘h7∘aCv;refine aG (qK O ((⟨.own C1 m.places.l.length [],f⟩:J Int)) rfl rfl rfl c0 bC bI bC aE) ?_;apply(GY);apply(W)<;>intro dX;·
   refine lC (lB (lA (aZ (cR ?_))));apply(uX);exact oQ ⟨(i+1,n,f),by dsimp only;omega,Gi,by dsimp only;omega,λj aY=>by
   rcases gY j i with h|h;·exact a2v j h
   ·(obtain rfl:j=i:=by dsimp only at aY;omega);omega⟩
  have mX:iP f i<0:=by omega
  have bBc:=Gi.start (i:=i) D mX;have bJL:=aOs (f:=f) (q:=i) (n:=(n:Int)) D mX D;have RG:Dy f<=f.length:=List.countP_le_length;apply QN∘b1∘aCv;refine i4 (jL O ((⟨.own C1 m.places.l.length [],f⟩:J Int)) ((n:Int)) rfl rfl rfl rfl c0 bC bI bC bH aE aE) ?_;rintro v E G ⟨rfl,rfl⟩;apply r1∘b1∘zU;rintro v E G ⟨Fz,rfl,rfl,zL⟩;replace zL:=zL.symm;subst zL;apply jS∘U6;refine zY ([9,10,11,12,14]++b4 71 54) AZ [(9,.int _ _),(11,.slice _ _ _),(71,.int _ _)] bP λWh=>?_;have bBx:(⟨.own Fz 1 [],[(i:Int)]⟩:J Int).ok 1 aL:=⟨rfl,g4 _,by simp only[maxLen];omega,rfl⟩;refine mJ (E:=(⟨.own Fz 1 [],[(i:Int)]⟩:J Int).L 3 aL++((⟨.own C1 m.places.l.length [],f.set i (n:Int)⟩:J Int).L 3 aL++(⟨gK,m.cells,28⟩::L))) (by simp only[J.L,gZ.L,EW,List.flatMap_nil,aL,EX,oF,m0]) ?_;refine kO ([11,12,14]++b4 85 37) ((⟨λq=>[(11,q.1.2.val)],λq=>q.1.2.L 3 aL++((⟨.own C1 m.places.l.length [],q.1.1⟩:J Int).L 3 aL++(⟨gK,m.cells,28⟩::L)),λ_=>e4,λq=>2*Dy q.1.1+q.1.2.l.length⟩:dV {q:List Int×J Int//q.2.ok 1 aL/\HZ m f q.1 (n:Int) i q.2.l (λ_=>False)/\2*Dy q.1+q.2.l.length<=2*m.places.l.length})) (⟨(f.set i (n:Int),⟨.own Fz 1 [],[(i:Int)]⟩),bBx,bBc,by dsimp only;simp only[pN];omega⟩) ?_;rintro⟨⟨iA,⟨Ig,zQ⟩⟩,dN,hR,w3⟩ bZ;try dsimp only
  dsimp only at dN hR w3;apply s2∘nO∘BA;apply(W)<;>intro h3;·
   (have Bg:0<zQ.length:=by have:=h3;(try simp only[J.val]at this);omega);obtain⟨g,cap,spare,ho⟩:=J.a2t dN (i:=0) Bg;dsimp only at ho;subst ho;obtain⟨xX,x,bDh⟩:∃xX x,zQ=xX++[x]:=⟨zQ.dropLast,zQ.getLast (by intro h;rw[h]at Bg;simp at Bg),(List.dropLast_concat_getLast _).symm⟩;subst bDh;obtain⟨v,aGL,Pc,EF⟩:=hR.a8f x fX;subst aGL;(have XV:(xX++[(v:Int)]).length=xX.length+1:=by simp);(have bJy:(xX++[(v:Int)])[xX.length]?=some (v:Int):=by simp);(have aSu:(⟨.own g cap spare,xX++[(v:Int)]⟩:J Int).val=Value.slice (some ⟨g,0,none⟩) (xX.length+1) cap:=by simp[J.val,gZ.oM,gZ.cap]);rw[aSu];have mE:=b6R dN;have MS:=dN.2.1;dsimp only at MS;(have wI:v<m.places.l.length:=by have N:=hR.len;have V:=b2T (f:=iA) (v:=v) D;omega);obtain⟨y,aN⟩:=mP ZB.l v;have aGP:=bBj v y aN;have UU:=aH.U bBi aN;(have aGO:y.l.length<=m.aD.l.length:=by rw[aGP];exact a4M m v _);refine dK (aZ (e3 (a6 (cR ?_))));apply hM∘QQ;refine aG (h4 O ((⟨.own g cap spare,xX++[(v:Int)]⟩:J Int)) _ rfl rfl ((show _=Value.slice _ _ _ from rfl).trans aSu.symm) rfl bC (i:=xX.length) cW iC) ?_;refine aG (qK O ((⟨.own g cap spare,xX++[(v:Int)]⟩:J Int)) rfl rfl rfl c0 bC bI bC aE) ?_;apply mL∘hM∘QQ;refine aG (a0w O rfl rfl rfl rfl (n:=xX.length) cW D) ?_;apply(FG);refine mJ (by rw[b8F]) ?_;apply(yH);refine aG (by first|exact j9 O rfl rfl rfl rfl jC (i:=v) cW D|exact i9 O rfl rfl rfl rfl (i:=v) cW D) ?_;apply jI∘vV∘ZT;refine zY ([11,12,14]++b4 85 37) AZ [(11,.slice _ _ _),(102,.slice _ _ _),(103,.int _ _),(104,.int _ _)] bP λaHC=>?_;refine kO ([11,14]++b4 104 18) ((⟨λq=>[(104,.int .i64 ((q.1.1:Nat):Int)),(11,q.1.2.2.val)],λq=>q.1.2.2.L 3 aL++((⟨.own C1 m.places.l.length [],q.1.2.1⟩:J Int).L 3 aL++(⟨gK,m.cells,28⟩::L)),λ_=>e4,λq=>y.l.length-q.1.1⟩:dV {q:Nat×List Int×J Int//q.1<=y.l.length/\q.2.2.ok 1 aL/\HZ m f q.2.1 (n:Int) i q.2.2.l (λu=>u=v)/\2*Dy q.2.1+q.2.2.l.length<=2*Dy iA+xX.length/\iP q.2.1 v=(n:Int)/\∀(j:Nat) (e:Int),j<q.1->y.l[j]?=some e->iP q.2.1 e.toNat=(n:Int)})) (⟨(0,iA,⟨.own g cap (aL (v:Int)++spare),xX⟩),by dsimp only;omega,mE,hR.bGs,g4 _,EF,λj e aY=>by dsimp only at aY;omega⟩) ?_;rintro⟨⟨k,iN,⟨a2q,a2m⟩⟩,s4,fT,mZ,NK,Wo,ES⟩ bZ;(try dsimp only);dsimp only at s4 fT mZ NK ES Wo;have fW:=mZ.len;(have bJD:(⟨.own C1 m.places.l.length [],iN⟩:J Int).ok 1 aL:=by have:=JL aL 1 C1 m.places.l.length 0 bI;exact J.oZ bI this a2Z);apply(h2);apply(W)<;>intro hW;·
    have a7C:=bJ y.l k 0;obtain⟨e,X⟩:∃e,e=y.l.getD k 0:=⟨_,rfl⟩;rw[<-X]at a7C;obtain⟨u,bE1,cI⟩:=aL0 hok m.aD.l.length (g4 _) e (by rw[<-aGP];exact gU a7C);subst bE1;have Vh:=(cI.lt hok).2;have JC:=a0I (f:=iN) (v:=u) D;apply(j7);refine aG qH ?_;apply ZW∘h7∘aM3;refine aG (qK O ((⟨.own C1 m.places.l.length [],iN⟩:J Int)) rfl rfl rfl c0 bC bI bC aE) ?_;apply(D1);apply(W)<;>intro oO;·
     apply TC∘b1∘aM3;refine i4 (jL O ((⟨.own C1 m.places.l.length [],iN⟩:J Int)) ((n:Int)) rfl rfl rfl rfl c0 bC bI bC bH aE aE) ?_;rintro v E G ⟨rfl,rfl⟩;refine eI (aZ (cR ?_));apply(WT);rintro v E G ⟨bIt,rfl,rfl,aDV⟩;replace aDV:=aDV.symm;subst aDV;refine gO (j2 (f:=aL) (a:=(u:Int)) O rfl rfl rfl rfl (fT) c0 j8 rfl kH) rfl ?_;rintro v E G ⟨bFY,rfl,bDC,rfl,rfl⟩;apply jS∘wB;(have aEJ:iP iN u<0:=by simpa using oO);have Bb:=aOs (f:=iN) (q:=u) (n:=(n:Int)) D aEJ D;exact oQ ⟨(k+1,iN.set u (n:Int),⟨bFY,a2m++[(u:Int)]⟩),by dsimp only;omega,bDC,mZ.push Gi ⟨Pc,Wo⟩ cI Vh aEJ,by dsimp only;rw[iD,pN];omega,by dsimp only;rw[MC D];split;rfl;exact Wo,λj e aY Nz=>by
      dsimp only at aY|-;rw[MC D];split;·rfl
      ·
       rename_i iO;rcases gY j k with h|h;·exact ES j e h Nz
       ·(obtain rfl:j=k:=by omega);rw[a7C]at Nz;cases Nz;exact absurd D iO⟩
    apply(n6);(have aEJ:¬iP iN u<0:=by simpa using oO);exact oQ ⟨(k+1,iN,⟨a2q,a2m⟩),by dsimp only;omega,fT,mZ,NK,Wo,λj e aY Nz=>by
     dsimp only at aY|-;rcases gY j k with h|h;·exact ES j e h Nz
     ·
      (obtain rfl:j=k:=by omega);rw[a7C]at Nz;cases Nz;rw[vY];rcases mZ.new u (mZ.aUo Gi Pc cI)with N|N;·omega
      ·exact N.1⟩
   (obtain rfl:k=y.l.length:=by omega);have OP:=mZ.bGO (λu hs=>by have N:=b48 hok hs;rw[<-aGP]at N;obtain⟨j,aY⟩:=List.mem_iff_getElem?.1 N;exact ES j u (List.getElem?_eq_some_iff.1 aY).1 aY);refine lC (lB (tT (lA (gV ?_))));exact dU ⟨(iN,⟨a2q,a2m⟩),fT,OP,by dsimp only;omega⟩
  have a1J:zQ=[]:=List.length_eq_zero_iff.1 (by have:=h3;(try simp only[J.val]at this);omega);subst a1J;have aSh:=hR.done Gi;refine lC (lB (tT (lA (aZ (cR ?_)))));apply z2∘dE∘wB;exact oQ ⟨(i+1,n+1,iA),by dsimp only;omega,(show((n+1:Nat):Int)=(n:Int)+1 from by omega)▸aSh,by dsimp only;omega,λj aY=>by
  dsimp only at aY|-;rcases gY j i with h|h;·have:=a2v j h;rw[hR.qV j this];exact this
  ·(obtain rfl:j=i:=by omega);rw[hR.start.1];omega⟩
 obtain rfl:i=m.places.l.length:=by omega
 apply oD∘h7∘jS∘q3;refine bN ((⟨.own C1 m.places.l.length [],f⟩:J Int).L 3 aL++L) e4 B8 ?_;exact⟨(⟨.own C1 m.places.l.length [],f⟩:J Int),n,rI ZB::e2,congrArg (λw=>Value.tuple #[w,.int .i64 (n:Int)]) (v4 fW),UG,Gi.part (λv hv=>a2v v hv) D,rfl,jR.symm⟩
def aQG(h:A->B:=by exact(aG (h4 O (p) _ rfl rfl rfl rfl bC (i:=k) cW iC) ·)):=h
def aME(h:A->B:=by exact(aG R8 ·)):=h
def aJu(h:A->B:=by exact(aG (h4 O ((⟨.own KQ kV [],bK⟩:J Bool)) _ rfl rfl ((show _=Value.slice _ _ _ from rfl).trans (v4 fW)) rfl bC (i:=(iP p.l k).toNat) cW iC) ·)):=h
def b2L(m:hZ)(L:aP)(R:aJ)(hm:N1 m R):
 aI prog 196 [m.val].toArray L R (λv E G=>v=.bool (decide (q0 m=0))/\L=E/\R=G):=by refine bW 6 call196 func196 ?_;apply(c8);intro gK;apply QU∘oC;refine cC rfl (aOT m _ _ hm) ?_;apply Ck∘v9;refine lG L R ?_;exact VN
structure PU(m:hZ)(f:List Int)(bK:List Bool)(kV k:Nat):Prop where
 len:bK.length=kV
 M6:∀c:Nat,bK.getD c false=true↔∃j:Nat,j<k/\(m.places.l.getD j default).r3=true/\iP f j=(c:Int)
def PU.zero(m:hZ)(f:List Int)(kV:Nat):PU m f (List.replicate kV false) kV 0:=by refine⟨by simp,λc=>⟨λh=>?_,λ⟨j,aY,_⟩=>by omega⟩⟩;rw[iW,R1]at h;split at h<;>simp at h
def PU.EQ{m:hZ}{f:List Int}{bK:List Bool}{kV k:Nat}(h:PU m f bK kV k)(hs:¬(m.places.l.getD k default).r3=true):PU m f bK kV (k+1):=by
 refine⟨h.len,λc=>(h.M6 c).trans ⟨λ⟨j,N,V,aQ⟩=>⟨j,by omega,V,aQ⟩,λ⟨j,N,V,aQ⟩=>?_⟩⟩;rcases gY j k with b7|b7;·exact⟨j,b7,V,aQ⟩
 ·
  obtain rfl:j=k:=by omega
  exact absurd V hs
def PU.next{m:hZ}{f:List Int}{bK:List Bool}{kV k:Nat}(h:PU m f bK kV k)(hs:(m.places.l.getD k default).r3=true)(bQ:0<=iP f k/\iP f k<(kV:Int)):PU m f (bK.set (iP f k).toNat true) kV (k+1):=by
 have hl:=h.len;refine⟨by simp[hl],λc=>?_⟩;rw[Yf D];split;·rename_i e;exact⟨λ_=>⟨k,by omega,hs,by omega⟩,λ_=>rfl⟩
 ·
  rename_i e;refine(h.M6 c).trans ⟨λ⟨j,N,V,aQ⟩=>⟨j,by omega,V,aQ⟩,λ⟨j,N,V,aQ⟩=>?_⟩;rcases gY j k with b7|b7;·exact⟨j,b7,V,aQ⟩
  ·(obtain rfl:j=k:=by omega);exact absurd D e
def a0o(f:List Int)(bK:List Bool)(n:Nat):List Bool:=(List.range n).map λi=>bK.getD (iP f i).toNat false
def aJ3{f:List Int}{bK:List Bool}{n i:Nat}(h:i<n):(a0o f bK n).getD i false=bK.getD (iP f i).toNat false:=by rw[iW,a0o,pF,LN h];rfl
def aNo{m:hZ}{j:Nat}(h:j<m.places.l.length):(J3 m).getD j false=(m.places.l.getD j default).r3:=by rw[iW,J3,pF,iL (l:=m.places.l) (k:=j) default h];rfl
def PU.xI{m:hZ}{f:List Int}{bK:List Bool}{kV:Nat}(h:PU m f bK kV m.places.l.length)(hp:aAC m f (kV:Int)):lS m (a0o f bK m.places.l.length):=by
 have oA:(J3 m).length=m.places.l.length:=by simp[J3]
 refine⟨by simp[a0o,oA],λi aA=>?_⟩;have a1A:i<m.places.l.length:=by omega
 have M:=hp.F8 i a1A;rw[aJ3 a1A,h.M6];refine⟨λ⟨j,N,V,aQ⟩=>⟨j,by omega,by rw[aNo N];exact V,(hp.M6 j i N a1A).1 D⟩,λ⟨j,N,V,aQ⟩=>?_⟩;have a07:j<m.places.l.length:=by omega
 rw[aNo a07]at V;exact⟨j,a07,V,by rw[(hp.M6 j i a07 a1A).2 aQ];omega⟩
def OK(A:List Bool):Nat->List Int
 |0=>[]
 |k+1=>if A.getD k false=true then OK A k else OK A k++[(k:Int)]
def aC9(A:List Bool): ∀k,(OK A k).length<=k
 |0=>by simp[OK]
 |k+1=>by
  have:=aC9 A k
  rw[OK]
  split
  ·omega
  ·simp only[iD,pN];omega
def aDa{A:List Bool}{e:Int}: ∀{k:Nat},e∈OK A k↔∃i:Nat,e=(i:Int)/\i<k/\¬A.getD i false=true
 |0=>⟨λh=>(by simp[OK]at h),λ⟨i,_,h,_⟩=>D⟩
 |k+1=>by
  have cM:=aDa (A:=A) (e:=e) (k:=k)
  rw[OK]
  split
  ·rename_i h
   refine cM.trans ⟨λ⟨i,N,V,aQ⟩=>⟨i,N,by omega,aQ⟩,λ⟨i,N,V,aQ⟩=>⟨i,N,?_,aQ⟩⟩
   rcases gY i k with b7|b7
   ·exact b7
   ·obtain rfl:i=k:=by omega
    exact absurd h aQ
  ·rename_i h
   rw[Ja,cM,aH8]
   refine⟨λbQ=>?_,λ⟨i,N,V,aQ⟩=>?_⟩
   ·rcases bQ with⟨i,N,V,aQ⟩|bQ
    ·exact⟨i,N,by omega,aQ⟩
    ·exact⟨k,bQ,by omega,h⟩
   ·rcases gY i k with b7|b7
    ·exact .inl ⟨i,N,b7,aQ⟩
    ·obtain rfl:i=k:=by omega
     exact .inr N
def b9V(m:hZ)(L:aP)(R:aJ)(hm:N1 m R)(hok:QB m)(hv:q0 m=0):
 aI prog 243 [m.val].toArray L R (λw E G=>∃(p:J Int) (A:List Bool) (S:aJ),w=p.val/\p.ok 1 aL/\lS m A/\p.l=OK A m.places.l.length/\p.L 3 aL++L=E/\S++R=G):=by
 have EB:=hm.places;have q9:=hok.places;refine bW 57 call243 func243 ?_;apply(c8);intro gK;apply z5∘oC;refine cC rfl (b2L m _ _ hm) ?_;apply(oW);apply(W)<;>intro aO;·apply TD∘AU;refine bN L R vD ?_;exact absurd hv EY
 apply eR∘oC;refine cK (b3y m _ _ hm hok) ?_;rintro v E G ⟨p,kV,S,rfl,iB,i0,rfl,rfl⟩;have eB:=i0.len;have l5:=i0.n;have aTf:aH (O8 m.places) (S++R):=EB.mono λr h=>aM (by simp[h]);refine aG iR ?_;apply Fe∘pQ∘EL;rintro v E G ⟨KQ,rfl,rfl,T7⟩;replace T7:=T7.symm;subst T7;apply z5∘r9;refine c7 [(1,.pointer _),(3,.slice _ _ _),(5,.slice _ _ _),(21,.slice _ _ _),(22,.int _ _),(23,.int _ _)] bP λeZ=>?_;refine mJ Jj ?_;refine kO ([6,7]++b4 23 14) ((⟨λq=>[(23,.int .i64 ((q.1.1:Nat):Int))],λq=>(⟨.own KQ kV [],q.1.2⟩:J Bool).L 4 jF++(p.L 3 aL++(⟨gK,m.cells,28⟩::L)),λ_=>S++R,λq=>m.places.l.length-q.1.1⟩:dV {q:Nat×List Bool//q.1<=m.places.l.length/\PU m p.l q.2 kV q.1})) (⟨(0,List.replicate kV false),by dsimp only;omega,PU.zero m p.l kV⟩) ?_;rintro⟨⟨k,bK⟩,nK,fB⟩ bZ;try dsimp only
 dsimp only at nK fB;have fW:=fB.len;have UG:(⟨.own KQ kV [],bK⟩:J Bool).ok 1 jF:=by have:=JL jF 1 KQ kV false BI;exact J.oZ BI this a2Z
 apply(h2);apply(W)<;>intro bF;·
  have BT:=bJ m.places.l k default;have xQ:=a0I (f:=p.l) (v:=k) D;have LA:=i0.F8 k D;have OV:=bJ bK ((iP p.l k).toNat) false;apply pR∘B2∘OI;intro kL;apply dE∘CL∘b3;apply(W)<;>intro b2;·apply wC∘h7∘aQG∘aME∘aJu;refine i4 (jL O ((⟨.own KQ kV [],bK⟩:J Bool)) (true) rfl rfl rfl rfl c0 bC bI bC bH aE aE) ?_;rintro v E G ⟨rfl,rfl⟩;apply(wB);exact dU ⟨(k+1,_),by dsimp only;omega,fB.next PN LA⟩
  apply(n6);exact dU ⟨(k+1,bK),by dsimp only;omega,fB.EQ PN⟩
 obtain rfl:k=m.places.l.length:=by omega
 have gI:=fB.xI i0;obtain⟨A,aSf⟩:∃A,A=a0o p.l bK m.places.l.length:=⟨_,rfl⟩;rw[<-aSf]at gI;apply oD∘z5∘r9;refine c7 [(3,.slice _ _ _),(5,.slice _ _ _),(8,.slice _ _ _),(39,.int _ _),(40,.int _ _)] bP λnS=>?_;refine mC ([8,9]++b4 40 16) ((⟨λq=>[(40,.int .i64 ((q.1.1:Nat):Int)),(8,q.1.2.val)],λq=>q.1.2.L 3 aL++((⟨.own KQ kV [],bK⟩:J Bool).L 4 jF++(p.L 3 aL++(⟨gK,m.cells,28⟩::L))),λ_=>S++R,λq=>m.places.l.length-q.1.1⟩:dV {q:Nat×J Int//q.1<=m.places.l.length/\q.2.ok 1 aL/\q.2.l=OK A q.1})) (⟨(0,J.nil),by dsimp only;omega,J.g6,rfl⟩) bP DP fF ?_;rintro⟨⟨k,q⟩,s4,fT,mZ⟩ bZ;try dsimp only
 dsimp only at s4 fT mZ;apply(h2);apply(W)<;>intro dZ;·
  have xQ:=a0I (f:=p.l) (v:=k) D;have LA:=i0.F8 k D;have OV:=bJ bK ((iP p.l k).toNat) false;have aSg:A.getD k false=bK.getD (iP p.l k).toNat false:=by rw[aSf];exact aJ3 D
  have gB:=aC9 A k;rw[<-mZ]at gB;apply pR∘mL∘TH∘aQG∘aME∘aJu;refine aG (qK O ((⟨.own KQ kV [],bK⟩:J Bool)) rfl rfl rfl c0 bC bI bC aE) ?_;apply(oW);apply(W)<;>intro dX;·apply yH∘zU;rintro v E G ⟨bAk,rfl,rfl,Mv⟩;replace Mv:=Mv.symm;subst Mv;refine gO (j2 (f:=aL) (a:=(k:Int)) O rfl rfl rfl rfl (fT) c0 j8 rfl kH) rfl ?_;rintro v E G ⟨aHa,rfl,aFK,rfl,rfl⟩;apply jS∘wB;exact dU ⟨(k+1,⟨aHa,q.l++[(k:Int)]⟩),by dsimp only;omega,aFK,by dsimp only;rw[OK,if_neg (by rw[aSg];simpa using dX),mZ]⟩
  apply(n6);exact dU ⟨(k+1,q),by dsimp only;omega,fT,by dsimp only;rw[OK,if_pos (by rw[aSg];simpa using dX),mZ]⟩
 obtain rfl:k=m.places.l.length:=by omega
 apply(TG);refine bN (q.L 3 aL++L) (S++R) vD ?_;exact⟨q,A,S,rfl,fT,gI,mZ,rfl,rfl⟩
def aJ8(h:A->B:=by exact(aG Xz ·)):=h
def aRa(h:A->B:=by exact(a4 (qK O ((⟨zS,l⟩:J Bool)) rfl rfl rfl c0 bC bI bC aE) ·)):=h
def aOu(h:A->B:=by exact(a4 (h4 O ((⟨zS,l⟩:J Bool)) _ rfl rfl ((show _=Value.slice _ _ _ from rfl).trans (by simp only[J.val,pK])) rfl bC (i:=r.to.toNat) cW iC) ·)):=h
def b1L(m:hZ)(seen:a0 Bool)(L:aP)(R:aJ)(hm:N1 m R)(hs:aH (a9U seen) R)(hok:QB m)(hl:seen.l.length=m.places.l.length):
 aI prog 289 [m.val,seen.val].toArray L R (λw E G=>∃p:J Bool,w=p.val/\p.ok 1 jF/\Dm m seen.l p.l/\p.L 4 jF++L=E/\R=G):=by
 have kX:=hm.aD;have q9:=hok.places;have OX:=hok.aD;refine bW 49 call289 func289 ?_;apply(c8);intro cS;apply vG∘hM;refine gO (tV (f:=jF) (xs:=seen) O rfl rfl rfl bH rfl rfl (hs) bI D) rfl ?_;rintro v E G ⟨zS,rfl,Oh,rfl,rfl⟩;apply z5∘uN∘U6;refine c7 [(2,.pointer _),(5,.slice _ _ _),(6,.bool _)] bP λeZ=>?_;refine kO ([6,7,8]++b4 11 37) ((⟨λq=>[(6,.bool q.1.1)],λq=>(⟨zS,q.1.2⟩:J Bool).L 4 jF++(⟨cS,m.cells,28⟩::L),λ_=>R,λq=>KF q.1.2*2+(if q.1.1=true then 1 else 0)⟩:dV {q:Bool×List Bool//(⟨zS,q.2⟩:J Bool).ok 1 jF/\VR m seen.l q.2/\(q.1=false->∀r∈m.aD.l,r.dM=false->q.2.getD r.bK.toNat false=q.2.getD r.to.toNat false)})) (⟨(true,seen.l),Oh,VR.Cc,λh=>by cases h⟩) ?_;rintro⟨⟨b96,nH⟩,nK,fB,kF⟩ bZ;try dsimp only
 dsimp only at nK fB kF;apply s2∘c9∘b3;apply(W)<;>intro aO;·
  refine dK (aZ (e3 (a6 (cR ?_))));apply QU∘mM;refine zY ([6,7,8]++b4 11 37) AZ [(6,.bool _),(7,.int _ _)] bP λnS=>?_;refine kO ([6,7,8]++b4 12 36) ((⟨λq=>[(7,.int .i64 ((q.1.1:Nat):Int)),(6,.bool q.1.2.1)],λq=>(⟨zS,q.1.2.2⟩:J Bool).L 4 jF++(⟨cS,m.cells,28⟩::L),λ_=>R,λq=>m.aD.l.length-q.1.1⟩:dV {q:Nat×Bool×List Bool//q.1<=m.aD.l.length/\(⟨zS,q.2.2⟩:J Bool).ok 1 jF/\VR m seen.l q.2.2/\(q.2.1=true->KF q.2.2<KF nH)/\(q.2.1=false->q.2.2=nH/\∀(j:Nat) (r:eL),j<q.1->m.aD.l[j]?=some r->r.dM=false->nH.getD r.bK.toNat false=nH.getD r.to.toNat false)})) (⟨(0,false,nH),by dsimp only;omega,nK,fB,(λh=>by cases h),λ_=>⟨rfl,λj r aY=>by omega⟩⟩) ?_;rintro⟨⟨i,Tr,l⟩,s4,fT,mZ,NK,ES⟩ bZ;try dsimp only
  dsimp only at s4 fT mZ NK ES;have pK:=mZ.len;apply(oJ);apply(W)<;>intro bF;·
   have M3:=bJ m.aD.l i default;have LA:=hok.b9 i _ M3;obtain⟨r,bEF⟩:∃r,r=m.aD.l.getD i default:=⟨_,rfl⟩;rw[<-bEF]at M3 LA;have RI:=LA.bK;have X2:=LA.to;have a7n:=LA.ne;have a1x:=bJ l r.bK.toNat false;have MY:=bJ l r.to.toNat false;apply CK∘aJ8∘WQ;intro gL;apply(G5);refine gJ O [0,1,2,3,4,5,6,7,8,9,10,11,12,13,14,15] ([a5.mk gL _ _]++((⟨zS,l⟩:J Bool).L 4 jF++[])) cX bE a2 ?_;apply(iI);refine a4 (PX rfl) ?_;apply(tN);refine l0 (k:=27) aW (λfD=>?_) (λfD=>?_);·
    replace fD:=a8 fD;refine a4 oG ?_;apply(iI);refine a4 aYc ?_;apply(aRa);refine a4 oG ?_;apply iI∘aOu∘aRa;refine a4 (b4s O rfl rfl rfl) ?_;apply(m2);apply(W)<;>intro b2;·
     refine hF O [43,44,45] [0,1,2,3,4,5,6] [7,8,9,10] ([a5.mk gL _ _]) _ cX bE a2 g3 ?_;apply(QP);refine m5 oG ?_;apply(IM);refine eO aYc ?_;apply(x1);refine GO (jL O ((⟨zS,l⟩:J Bool)) (true) rfl rfl rfl rfl c0 bC bI bC bH aE aE) rfl rfl ?_;rintro v E G ⟨rfl,rfl⟩;apply fS∘aOu;(have aTE:(l.set r.bK.toNat true)[r.to.toNat]?=some (l.getD r.to.toNat false):=by rw[JR D];exact MY);have l4:(⟨zS,l.set r.bK.toNat true⟩:J Bool).ok 1 jF:=J.oZ BI fT fX;refine GO (jL O ((⟨zS,l.set r.bK.toNat true⟩:J Bool)) (true) rfl rfl rfl rfl c0 bC bI bC bH aE aE) rfl rfl ?_;rintro v E G ⟨rfl,rfl⟩;apply(fS);refine a4 (GN aW) ?_;apply(z4);(have iO:l.getD r.bK.toNat false≠l.getD r.to.toNat false:=by simpa using b2);(have i1:r.dM=false:=by simpa using fD);have cI:IC m r.bK.toNat r.to.toNat:=⟨r,gU M3,i1,.inl ⟨by omega,by omega⟩⟩;have jH:=b18 (l:=l) (u:=r.bK.toNat) (v:=r.to.toNat) D D iO;have HJ:KF l<=KF nH:=by
      cases Tr with
      |true=>have:=NK rfl;omega
      |false=>rw[(ES rfl).1];exact g4 _
     exact dU ⟨(i+1,true,(l.set r.bK.toNat true).set r.to.toNat true),by dsimp only;omega,J.oZ BI fT fX,mZ.next cI D D iO,λ_=>by dsimp only;omega,λh=>by cases h⟩
    exact aV7
   replace fD:=a8 fD;(iterate 11 apply(kQ));apply(m2);refine QK rfl ?_;exact aV7
  obtain rfl:i=m.aD.l.length:=by omega
  have bDo:KF l*2+(if Tr=true then 1 else 0)<KF nH*2+(if b96=true then 1 else 0):=by
   rw[if_pos aO];cases Tr with
   |true=>have:=NK rfl;simp;omega
   |false=>rw[(ES rfl).1];simp
  refine lC (lB (tT (lA (gV ?_))));exact oT ⟨(Tr,l),fT,mZ,λh r M Ul=>by obtain⟨j,aY⟩:=List.mem_iff_getElem?.1 M;rw[(ES h).1];exact(ES h).2 j r (List.getElem?_eq_some_iff.1 aY).1 aY Ul⟩ kG bP a2 fF bDo
 have pK:=fB.len;apply(TG);refine bN ((⟨zS,nH⟩:J Bool).L 4 jF++L) R vD ?_;exact⟨⟨zS,nH⟩,by simp only[J.val,pK],nK,fB.done (kF EY),rfl,rfl⟩
def b4j{m:hZ}{p:J Bool}{A:aP}{R:aJ}(jN:sN (p.L 4 jF) A)(hk:p.ok 1 jF)(hm:N1 m R)(hok:QB m)(hl:p.l.length=m.places.l.length):
 aI prog 289 [m.val,p.val].toArray A R (λw E G=>∃q:J Bool,w=q.val/\q.ok 1 jF/\Dm m p.l q.l/\A++q.L 4 jF=E/\R=G):=by have h:=b1L m p.U [] ([a9U p.U]++R) ⟨hm.places.mono λr h=>aM (.tail _ h),hm.aD.mono λr h=>aM (.tail _ h)⟩ n1 hok hl;have V:=aI.Hz (S:=[a9U p.U]) (Post:=λv E=>∃q:J Bool,v=q.val/\q.ok 1 jF/\Dm m p.l q.l/\q.L 4 jF++[]=E) (y8.aB (L:=A)) (λw aC bX s hs=>by rw[List.mem_singleton.1 hs];exact HA bX jN hk BI bH lQ) (h.mono λv E G ⟨q,j5,kK,lV,q5,AC⟩=>⟨⟨q,j5,kK,lV,q5⟩,AC⟩);exact V.mono λv iM G ⟨E,e,⟨q,j5,kK,lV,q5⟩,AC⟩=>⟨q,j5,kK,lV,by rw[<-q5,EX]at e;exact e,AC⟩
def aPy(m:hZ)(L:aP)(R:aJ)(hm:N1 m R)(hok:QB m):
 aI prog 256 [m.val].toArray L R (λw E G=>∃p:J Bool,w=p.val/\p.ok 1 jF/\lS m p.l/\L++p.L 4 jF=E/\R=G):=by
 have eB:=hm.places;have q9:=hok.places;refine bW 28 call256 func256 ?_;apply(c8);intro gK;apply vG∘lM∘EL;rintro v E G ⟨gL,rfl,rfl,Nb⟩;replace Nb:=Nb.symm;subst Nb;apply(WN);refine c7 [(1,.pointer _),(3,.slice _ _ _),(4,.int _ _)] bP λeZ=>?_;refine mJ Jj ?_;refine kO ([4]++b4 9 16) ((⟨λq=>[(4,.int .i64 ((q.1.1:Nat):Int))],λq=>(⟨.own gL m.places.l.length [],q.1.2⟩:J Bool).L 4 jF++(⟨gK,m.cells,28⟩::L),λ_=>R,λq=>m.places.l.length-q.1.1⟩:dV {q:Nat×List Bool//q.1<=m.places.l.length/\q.2.length=m.places.l.length/\∀(j:Nat) (p:kR),j<q.1->m.places.l[j]?=some p->q.2[j]?=some p.r3})) (⟨(0,List.replicate m.places.l.length false),by dsimp only;omega,by simp,λj p aY=>by omega⟩) ?_;rintro⟨⟨i,l⟩,nK,pK,kF⟩ bZ;try dsimp only
 dsimp only at nK pK kF;have aS9:(⟨.own gL m.places.l.length [],l⟩:J Bool).ok 1 jF:=by have:=JL jF 1 gL m.places.l.length false BI;exact J.oZ BI this a22
 apply(oJ);apply(W)<;>intro aO;·
  have BT:=bJ m.places.l i default;have xQ:=bJ l i false;refine dK (aZ (a6 (e3 (cR ?_))));apply h7∘gE∘aJ8∘sW;refine aG (h4 O ((⟨.own gL m.places.l.length [],l⟩:J Bool)) _ rfl rfl ((show _=Value.slice _ _ _ from rfl).trans (v4 pK)) rfl bC (i:=i) cW iC) ?_;refine i4 (jL O ((⟨.own gL m.places.l.length [],l⟩:J Bool)) ((m.places.l.getD i default).r3) rfl rfl rfl rfl c0 bC bI bC bH aE aE) ?_;rintro v E G ⟨rfl,rfl⟩;apply(GV);exact oQ ⟨(i+1,l.set i (m.places.l.getD i default).r3),by dsimp only;omega,by simp;exact pK,λj p aY hp=>by
  rw[EU];split;·rename_i e;subst e;rw[if_pos D];rw[BT]at hp;cases hp;rfl
  ·rename_i e;exact kF j p (by dsimp only at aY;omega) hp⟩
 obtain rfl:i=m.places.l.length:=by omega
 have Bo:l=J3 m:=by
  refine R2 λj=>?_;rcases gY j m.places.l.length with h|h;·have hp:=iL (l:=m.places.l) (k:=j) default h;rw[kF j _ h hp,J3,pF,hp];rfl
  ·rw[sJ D,sJ (by simp[J3];exact h)]
 apply oD∘oC∘hM;refine cK (aI.cast (b4j (p:=(⟨.own gL m.places.l.length [],l⟩:J Bool)) x8 aS9 hm hok pK) (by show #[_,Value.slice _ (List.length _) _]=_;rw[pK];rfl)) ?_;rintro v E G ⟨p,rfl,hp,h1,rfl,rfl⟩;simp only[mQ,oF,m0];apply(S4);refine bN (L++p.L 4 jF) R vD ?_;exact⟨p,rfl,hp,by rw[Bo]at h1;exact h1,rfl,rfl⟩
def aPf(h:A->B:=by exact(aG (h4 O ((⟨o,l⟩:J Bool)) _ rfl rfl ((show _=Value.slice _ _ _ from rfl).trans (show Value.slice o.oM A.length o.cap=(⟨o,l⟩:J Bool).val by simp only[J.val,pK,Ah])) rfl bC (i:=k) cW iC) ·)):=h
def b9g(h:A->B:=by exact i4 (jL O ((⟨o,l⟩:J Bool)) (_) rfl rfl rfl rfl c0 bC bI bC bH aE aE)):=h
def lS.length{m:hZ}{A:List Bool}(h:lS m A):A.length=m.places.l.length:=by rw[h.len];simp[J3]
def b8a{m:hZ}{A l:List Bool}(gI:lS m A)(hl:l.length=m.places.l.length)(h:∀i:Nat,l.getD i false=true↔(i:Int)∈OK A m.places.l.length):l=A.map (!·):=by
 have Ah:=gI.length;refine R2 λi=>?_;rcases gY i m.places.l.length with aA|aA;·rw[iL (l:=l) (k:=i) false D,pF,iL (l:=A) (k:=i) false D];have N:=h i;rw[aDa]at N;have V:l.getD i false=true↔¬A.getD i false=true:=N.trans ⟨λ⟨j,e,_,aQ⟩=>by rw[show i=j from by omega];exact aQ,λaQ=>⟨i,rfl,aA,aQ⟩⟩;simp only[Jc,Qi];cases ha:A.getD i false<;>cases hb:l.getD i false<;>simp_all
 ·rw[sJ D,sJ B6]
def a4n(m:hZ)(L:aP)(R:aJ)(hm:N1 m R)(hok:QB m)(hv:q0 m=0):
 aI prog 189 [m.val].toArray L R (λw E G=>∃(p:J Bool) (A:List Bool) (S:aJ),w=p.val/\p.ok 1 jF/\lS m A/\p.l=A.map (!·)/\p.L 4 jF++L=E/\S++R=G):=by
 have EB:=hm.places;have q9:=hok.places;refine bW 22 call189 func189 ?_;apply(c8);intro gK;apply vG∘lM∘EL;rintro v E G ⟨h8,rfl,rfl,Gk⟩;replace Gk:=Gk.symm;subst Gk;apply(KJ);refine mJ Jj ?_;apply eK∘oC;refine cK (b9V m _ _ hm hok hv) ?_;rintro v E G ⟨p,A,S,rfl,iB,gI,eB,rfl,rfl⟩;have l5:=aC9 A m.places.l.length;rw[<-eB]at l5;apply vV∘ZT;refine c7 [(3,.slice _ _ _),(11,.slice _ _ _),(12,.int _ _),(13,.int _ _)] bP λeZ=>?_;refine kO ([5]++b4 13 8) ((⟨λq=>[(13,.int .i64 ((q.1.1:Nat):Int))],λq=>p.L 3 aL++((⟨.own h8 m.places.l.length [],q.1.2⟩:J Bool).L 4 jF++(⟨gK,m.cells,28⟩::L)),λ_=>S++R,λq=>p.l.length-q.1.1⟩:dV {q:Nat×List Bool//q.1<=p.l.length/\q.2.length=m.places.l.length/\∀i:Nat,q.2.getD i false=true↔∃j:Nat,j<q.1/\p.l[j]?=some (i:Int)})) (⟨(0,List.replicate m.places.l.length false),by dsimp only;omega,by simp,λi=>⟨λh=>(by simp[iW,R1]at h;split at h<;>simp at h),λ⟨j,aY,_⟩=>D⟩⟩) ?_;rintro⟨⟨k,l⟩,nK,pK,kF⟩ bZ;try dsimp only
 dsimp only at nK pK kF;have UG:(⟨.own h8 m.places.l.length [],l⟩:J Bool).ok 1 jF:=by have:=JL jF 1 h8 m.places.l.length false BI;exact J.oZ BI this a22
 apply(h2);apply(W)<;>intro aO;·
  have hg:=bJ p.l k 0;have DC:=gU hg;rw[eB]at DC;obtain⟨u,DG,wI,bKe⟩:=aDa.1 DC;rw[<-eB]at DG;rw[DG]at hg;have xQ:=bJ l u false;apply(j7);refine aG (h4 O (p) _ rfl rfl rfl rfl bC (i:=k) cW iC) ?_;refine aG R8 ?_;apply(dE);refine eI (aZ (cR ?_));apply(h7);refine aG (h4 O ((⟨.own h8 m.places.l.length [],l⟩:J Bool)) _ rfl rfl ((show _=Value.slice _ _ _ from rfl).trans (v4 pK)) rfl bC (i:=u) cW iC) ?_;refine i4 (jL O ((⟨.own h8 m.places.l.length [],l⟩:J Bool)) (true) rfl rfl rfl rfl c0 bC bI bC bH aE aE) ?_;rintro v E G ⟨rfl,rfl⟩;apply(wB);exact oQ ⟨(k+1,l.set u true),by dsimp only;omega,by simp;exact pK,λi=>by
  dsimp only;rw[Yf D];split;·rename_i e;exact⟨λ_=>⟨k,by omega,by rw[e];exact hg⟩,λ_=>rfl⟩
  ·
   rename_i e;refine(kF i).trans ⟨λ⟨j,N,V⟩=>⟨j,by omega,V⟩,λ⟨j,N,V⟩=>?_⟩;rcases gY j k with b7|b7;·exact⟨j,b7,V⟩
   ·(obtain rfl:j=k:=by omega);rw[hg]at V;exact absurd (by have:=y2 V;omega) e⟩
 obtain rfl:k=p.l.length:=by omega
 have bDe:=b8a gI pK (λi=>by rw[kF i,<-eB,List.mem_iff_getElem?];exact⟨λ⟨j,_,h⟩=>⟨j,h⟩,λ⟨j,h⟩=>⟨j,(List.getElem?_eq_some_iff.1 h).1,h⟩⟩);apply(TG);refine bN ((⟨.own h8 m.places.l.length [],l⟩:J Bool).L 4 jF++L) (S++R) vD ?_;exact⟨(⟨.own h8 m.places.l.length [],l⟩:J Bool),A,S,v4 pK,UG,gI,bDe,rfl,rfl⟩
def ZR(m:hZ)(A:List Bool):List Bool:=(List.range m.places.l.length).map λi=>!(A.getD i false)||(m.places.l.getD i default).r3
def a3K{m:hZ}{A:List Bool}{i:Nat}(h:i<m.places.l.length):(ZR m A)[i]?=some (!(A.getD i false)||(m.places.l.getD i default).r3):=by rw[ZR,pF,LN h];rfl
def b6a(m:hZ)(L:aP)(R:aJ)(hm:N1 m R)(hok:QB m):
 aI prog 286 [m.val].toArray L R (λw E G=>∃(p:J Bool) (A:List Bool),w=p.val/\p.ok 1 jF/\lS m A/\p.l=ZR m A/\L++p.L 4 jF=E/\R=G):=by
 have EB:=hm.places;have q9:=hok.places;refine bW 30 call286 func286 ?_;apply(c8);intro gK;apply vG∘oC;refine cK (aPy m _ _ hm hok) ?_;rintro v E G ⟨p,rfl,hp,gI,rfl,rfl⟩;simp only[mQ,oF,m0];have Ah:=gI.length;obtain⟨o,A⟩:=p;dsimp only at gI Ah;apply(WN);refine c7 [(1,.pointer _),(3,.slice _ _ _),(4,.int _ _)] bP λeZ=>?_;refine kO ([4]++b4 7 22) ((⟨λq=>[(4,.int .i64 ((q.1.1:Nat):Int))],λq=>⟨gK,m.cells,28⟩::(L++(⟨o,q.1.2⟩:J Bool).L 4 jF),λ_=>R,λq=>m.places.l.length-q.1.1⟩:dV {q:Nat×List Bool//q.1<=m.places.l.length/\q.2.length=m.places.l.length/\(⟨o,q.2⟩:J Bool).ok 1 jF/\∀i:Nat,q.2[i]?=if i<q.1 then(ZR m A)[i]? else A[i]?})) (⟨(0,A),by dsimp only;omega,Ah,hp,λi=>by rw[if_neg k1]⟩) ?_;rintro⟨⟨k,l⟩,nK,pK,hk,kF⟩ bZ;try dsimp only
 dsimp only at nK pK hk kF;apply(uA);apply(W)<;>intro aO;·
  have BT:=bJ m.places.l k default;have bA5:=bJ A k false;have xQ:l[k]?=some (A.getD k false):=by rw[kF k,if_neg D];exact bA5
  have MU:=a3K (m:=m) (A:=A) (i:=k) D;refine dK (aZ (a6 (e3 (cR ?_))));apply h7∘h7∘aPf;refine aG (qK O ((⟨o,l⟩:J Bool)) rfl rfl rfl c0 bC bI bC aE) ?_;apply(MF);refine GK (k:=20) aW (λhX=>?_) (λhX=>?_);·replace hX:=a8 hX;(iterate 6 refine SE rfl rfl ?_);exact aVU
  replace hX:=a8 hX;refine kM sM ?_;refine kM E1 ?_;refine kM zV ?_;refine kM qH ?_;refine kM Xe ?_;refine kM Jo ?_;exact aVU
 obtain rfl:k=m.places.l.length:=by omega
 have Hg:l=ZR m A:=by
  refine R2 λi=>?_;rw[kF i];split;·rfl
  ·rw[sJ D,sJ (by simp[ZR];omega)]
 apply(TG);refine bN (L++(⟨o,l⟩:J Bool).L 4 jF) R vD ?_;exact⟨⟨o,l⟩,A,(show Value.slice o.oM A.length o.cap=(⟨o,l⟩:J Bool).val by simp only[J.val,pK,Ah]),hk,gI,Hg,rfl,rfl⟩
def a3T(h:A->B:=by exact(aG R6 ·)):=h
def a6g(h:A->B:=by exact(aG VJ ·)):=h
def aBa(h:B:=by exact⟨by rw[AK,zC g0 D (DD.trans (if_pos D))];rfl,rfl,rfl⟩):=h
def aLH(h:B:=by exact⟨by rw[uB,if_neg aO,if_neg C9,if_neg D,if_pos (by simp_all [Option.isSome_iff_ne_none])],rfl,rfl⟩):=h
structure sV where
 bG:a0 Int
 bO:a0 Int
def sV.cells(s:sV):List Value:=[s.bG.val,s.bO.val]
abbrev sV.val(s:sV):Value:=.agg #[s.bG.val,s.bO.val]
structure Rd(s:sV)(R:aJ):Prop where
 bG:aH (cZ s.bG) R
 bO:aH (cZ s.bO) R
def uU(a:bR)(s:cE)(b:sV)(A:List Bool)(i:Nat):Option Int:=
 if(!(A.getD i false)||(a.Y.places.l.getD i default).r3)=true then(if b.bG.l.getD i 0≠0\/b.bO.l.getD i 0≠0 then some 12 else none)
 else(if BH a s b.bO.l (i:Int)<0\/0<BD a s b.bG.l (i:Int)then some 12 else none)
def uB(a:bR)(s:cE)(b:sV)(A:List Bool):Int:=
 if hO a≠0 then hO a
 else if lL a s=false then 21
 else if b.bG.l.length≠a.Y.places.l.length\/b.bO.l.length≠a.Y.places.l.length then 11
 else if(b.bG.l.findSome? rK).isSome=true\/(b.bO.l.findSome? rK).isSome=true then 1
 else((List.range a.Y.places.l.length).findSome? (uU a s b A)).getD 0
def aBZ(m:hZ)(A:List Bool):(ZR m A).length=m.places.l.length:=by simp[ZR]
def aCU(x:a0 Int)(L:aP)(R:aJ)(K:aH (cZ x) R):
 aI prog 285 [x.val].toArray L R (λv E G=>v=.bool (x.l.findSome? rK).isNone/\L=E/\R=G):=by
 refine nN call285 K λOZ=>?_;refine bW 22 call285 func285 ?_;apply TM∘mM;refine c7 [(0,.slice _ _ _),(3,.int _ _)] bP λeZ=>?_;refine gP (b4 2 20) (λg:FS (rK) (x.l)=>[(3,.int .i64 ((g.1:Nat):Int))]) (λg=>(x.l).length-g.1) ⟨0,BL _ _⟩ ?_;rintro⟨fM,yR,g0⟩ bZ;try dsimp only
 apply(uA);apply(W)<;>intro aO;·
  obtain⟨y,aN⟩:=mP x.l fM;apply j7∘h7∘a3T∘jI∘CI;apply cB (aC:=[_,_,_,_,_]) (j:=5) (a7:=15) rfl rfl aE rfl aW rfl;·intro k5;replace k5:=a8 k5;exact(h7∘a3T∘jI) PQ
  intro Ce;apply(b3);apply(W)<;>intro bF;·apply(FC);refine lG L R ?_;exact⟨by rw[A6 g0 aN (if_pos D)];rfl,rfl,rfl⟩
  apply(mD);exact dU ⟨fM+1,CO g0 aN (if_neg D)⟩
 have mX:=BC g0 D;apply(WF);refine lG L R ?_;exact⟨by rw[mX];rfl,rfl,rfl⟩
def b24(a:bR)(s:cE)(b:sV)(A:List Bool)(L:aP)(R:aJ)(hm:nT a R)(hs:o2 s R)(hb:Rd b R)(gI:hO a=0->lS a.Y A):
 aI prog 255 [a.val,s.val,b.val].toArray L R (λv E G=>v=.int .i64 (uB a s b A)/\L=E/\R=G):=by
 have EB:=hm.places;have FT:=hb.bG;have Ap:=hb.bO;refine nN call255 FT λbBZ=>?_;refine nN call255 Ap λbBX=>?_;refine nN call255 EB λaFt=>?_;refine bW 88 call255 func255 ?_;apply(c8);intro dG;apply(iU);intro cT;apply(iU);intro eH;apply g7∘sD;refine cC rfl (Yu a _ _ hm) ?_;apply(kB);apply(W)<;>intro aO;·apply(S8);refine dC L R ?_;exact⟨by rw[uB,if_pos aO],rfl,rfl⟩
 have bQ:hO a=0:=by omega
 have hok:=zE bQ;have yP:=gI bQ;apply iK∘wW;refine cC rfl (aBJ a s _ _ hm hs) ?_;apply(oW);apply(W)<;>intro bF;·apply(m1);refine dC L R ?_;exact⟨by rw[uB,if_neg aO,if_pos (by simpa[SB,bQ]using bF)],rfl,rfl⟩
 have vN:lL a s=true:=by simpa[SB,bQ]using bF
 have rT:=Ry vN;have C9:¬lL a s=false:=by rw[vN];decide
 apply eR∘z3∘g7∘lM∘b1∘rO;apply cB (aC:=[_,_,_,_,_]) (j:=5) (a7:=29) rfl rfl aE rfl aW rfl;·intro k5;replace k5:=a8 k5;exact(lM∘b1) HW
 intro Ce;apply(b3);apply(W)<;>intro b2;·apply(m1);refine dC L R ?_;exact⟨by rw[uB,if_neg aO,if_neg C9,if_pos D],rfl,rfl⟩
 have kD:b.bG.l.length=a.Y.places.l.length:=by omega
 have a1z:b.bO.l.length=a.Y.places.l.length:=by omega
 apply(GW);refine cC rfl (aCU b.bG _ _ FT) ?_;apply(MF);refine GK (k:=40) aW (λgW=>?_) (λgW=>?_);·
  replace gW:=a8 gW;iterate 4 refine SE rfl rfl ?_
  apply a6g∘b3;refine wR rfl ?_;apply(m1);refine dC L R ?_;exact aLH
 replace gW:=a8 gW;refine kM sM ?_;refine kM E1 ?_;refine Lp rfl (aCU b.bO _ _ Ap) rfl rfl ?_;rintro v E G ⟨rfl,rfl,rfl⟩;refine kM (PX rfl) ?_;apply a6g∘b3;apply(W)<;>intro dZ;·apply(m1);refine dC L R ?_;exact aLH
 have M:¬(b.bG.l.findSome? rK).isSome=true/\¬(b.bO.l.findSome? rK).isSome=true:=by simp_all
 apply eR∘CM;refine cK aIZ ?_;rintro v E G ⟨p,NT,rfl,iB,uF,eB,rfl,rfl⟩;obtain rfl:A=NT:=yP.Iu uF;have a1v:p.l.length=a.Y.places.l.length:=by rw[eB];exact aBZ a.Y A
 have aF4:qY b.bG.l:=Ku (by simpa using M.1);have aF1:qY b.bO.l:=Ku (by simpa using M.2);have AK:uB a s b A=((List.range a.Y.places.l.length).findSome? (uU a s b A)).getD 0:=by rw[uB,if_neg aO,if_neg C9,if_neg D,if_neg (λh=>h.elim M.1 M.2)]
 apply(KJ);refine W3 λc w cI=>⟨_,_,cI.DJ YM,?_⟩;apply(OG);refine c7 [(3,.pointer _),(4,.pointer _),(5,.pointer _),(8,.int _ _),(9,.slice _ _ _),(10,.int _ _)] bP λeZ=>?_;refine gP ([6,10]++b4 49 39) (λg:H0 (uU a s b A) (a.Y.places.l.length)=>[(10,.int .i64 ((g.1:Nat):Int))]) (λg=>(a.Y.places.l.length)-g.1) ⟨0,G9 _ _⟩ ?_;rintro⟨fM,yR,g0⟩ bZ;try dsimp only
 apply(TF);apply(W)<;>intro dX;·
  have BT:p.l[fM]?=some (!(A.getD fM false)||(a.Y.places.l.getD fM default).r3):=by rw[eB];exact a3K D
  have xQ:=bJ b.bG.l fM 0;have aS1:=bJ b.bO.l fM 0;refine dK (aZ (a6 (e3 (a6 (a6 (cR ?_))))));apply(h7);refine aG (h4 O (p) _ rfl rfl rfl rfl bC (i:=fM) cW iC) ?_;refine aG R8 ?_;apply(b3);apply(W)<;>intro h3;·
   (have DD:uU a s b A fM=if b.bG.l.getD fM 0≠0\/b.bO.l.getD fM 0≠0 then some 12 else none:=by rw[uU,if_pos a2X]);apply s2∘gE∘a3T∘jI∘rO;apply cB (aC:=[_,_,_,_,_,_]) (j:=6) (a7:=64) rfl rfl aE rfl aW rfl;·intro kC;replace kC:=a8 kC;exact(gE∘a3T∘jI) HW
   intro JG;apply(b3);apply(W)<;>intro hW;·apply(rN);refine eI (aZ (iT (gD (gD (iS (gD (wS (iS (gD ?_)))))))));refine dC L R ?_;exact aBa
   refine dK (aZ (lC (lB (lA (aZ (cR ?_))))));apply(N7);exact aXX
  have DD:uU a s b A fM=if BH a s b.bO.l (fM:Int)<0\/0<BD a s b.bG.l (fM:Int)then some 12 else none:=by rw[uU,if_neg a2X]
  apply eR∘wW∘gE;refine cC rfl (aRe a s b.bO _ _ _ hm hs Ap hok rT a1z aF1) ?_;apply(CI);refine GK (k:=79) aW (λhX=>?_) (λhX=>?_);·replace hX:=a8 hX;(iterate 7 refine SE rfl rfl ?_);apply a6g∘b3;refine wR rfl ?_;apply(xE);refine dC L R ?_;exact aBa
  replace hX:=a8 hX;refine kM a9p ?_;refine kM R9 ?_;refine kM sM ?_;refine kM E1 ?_;refine kM zV ?_;refine Lp rfl (aNa a s b.bG _ _ _ hm hs FT hok rT kD aF4) rfl rfl ?_;rintro v E G ⟨rfl,rfl,rfl⟩;refine kM YP ?_;apply a6g∘b3;apply(W)<;>intro oO;·apply(xE);refine dC L R ?_;exact aBa
  apply(mD);exact aXX
 exact aZX
def aAc(h:A->B:=by exact(aG a28 ·)):=h
def b5M(h:B:=by exact⟨[sQ n.mO,rI n.kW]++S,by rw[AK,zC EC D (DD.trans (if_pos D))];rfl,rfl,rfl⟩):=h
def aNK(h:A->B:=by exact(a4 R6 ·)):=h
def Lm(b:sV)(i:Nat):Option Int:=[b.bG.l.getD i 0,b.bO.l.getD i 0].findSome? rK
def a6d{a:bR}(h:hO a=0):q0 a.Y=0:=by
 unfold hO at h;split at h;·exact a2C
 ·rename_i N;omega
def b32{b:sV}{n:Nat}(N:b.bG.l.length=n)(V:b.bO.l.length=n)(h:(List.range n).findSome? (Lm b)=none):b.bG.l.findSome? rK=none/\b.bO.l.findSome? rK=none:=by
 rw[NN]at h;have cN:∀i:Nat,i<n->rK (b.bG.l.getD i 0)=none/\rK (b.bO.l.getD i 0)=none:=λi aA=>by have:=h i (List.mem_range.2 aA);rw[Lm,NN]at this;exact⟨this _ fX,this _ fX⟩
 constructor;·rw[NN];intro x K;obtain⟨i,aA⟩:=List.mem_iff_getElem?.1 K;have hl:=(List.getElem?_eq_some_iff.1 aA).1;rw[<-(show b.bG.l.getD i 0=x from getD_some aA)];exact(cN i D).1
 ·rw[NN];intro x K;obtain⟨i,aA⟩:=List.mem_iff_getElem?.1 K;have hl:=(List.getElem?_eq_some_iff.1 aA).1;rw[<-(show b.bO.l.getD i 0=x from getD_some aA)];exact(cN i D).2
def b2P{b:sV}{n k:Nat}(N:b.bG.l.length=n)(V:b.bO.l.length=n)(hk:k<n){e:Int}(h:Lm b k=some e):(b.bG.l.findSome? rK).isSome=true\/(b.bO.l.findSome? rK).isSome=true:=by
 cases dY:b.bG.l.findSome? rK with
 |some x=>exact .inl rfl
 |none=>
  cases eY:b.bO.l.findSome? rK with
  |some x=>exact .inr rfl
  |none=>
   rw[NN]at dY eY;rw[Lm]at h;have:[b.bG.l.getD k 0,b.bO.l.getD k 0].findSome? rK=none:=by
    rw[NN];intro x K;simp only[vC,x7,or_false]at K;rcases K with rfl|rfl;·exact dY _ (gU (bJ b.bG.l k 0))
    ·exact eY _ (gU (bJ b.bO.l k 0))
   rw[this]at h;cases h
def b9W(a:bR)(s:cE)(b:sV)(A:List Bool)(L:aP)(R:aJ)(hm:nT a R)(hs:o2 s R)(hb:Rd b R)(gI:hO a=0->lS a.Y A):
 aI prog 188 [a.val,s.val,b.val].toArray L R (λv E G=>∃S:aJ,v=.int .i64 (uB a s b A)/\L=E/\S++R=G):=by
 have EB:=hm.places;have FT:=hb.bG;have Ap:=hb.bO;refine nN call188 FT λbBZ=>?_;refine nN call188 Ap λbBX=>?_;refine nN call188 EB λaFt=>?_;refine bW 124 call188 func188 ?_;apply(c8);intro dG;apply(iU);intro cT;apply(iU);intro eH;apply g7∘sD;refine cC rfl (a4x a _ _ hm) ?_;apply(kB);apply(W)<;>intro aO;·apply(S8);refine dC L R ?_;exact⟨[],by rw[uB,if_pos aO],rfl,rfl⟩
 have bQ:hO a=0:=by omega
 have hok:=zE bQ;have yP:=gI bQ;have UI:=hok.Y.places;apply iK∘wW;refine cC rfl (aBU a s _ _ hm hs) ?_;apply(oW);apply(W)<;>intro bF;·apply(m1);refine dC L R ?_;exact⟨[],by rw[uB,if_neg aO,if_pos PO],rfl,rfl⟩
 have vN:lL a s=true:=by simpa using bF
 have rT:=Ry vN;have C9:¬lL a s=false:=by rw[vN];decide
 apply QR∘z3∘rO;apply cB (aC:=[_,_,_,_,_,_,_,_]) (j:=8) (a7:=32) rfl rfl aE rfl aW rfl;·intro gM;replace gM:=a8 gM;exact(lM∘z3) HW
 intro wJ;apply(b3);apply(W)<;>intro b2;·apply(m1);refine dC L R ?_;exact⟨[],by rw[uB,if_neg aO,if_neg C9,if_pos D],rfl,rfl⟩
 have kD:b.bG.l.length=a.Y.places.l.length:=by omega
 have a1z:b.bO.l.length=a.Y.places.l.length:=by omega
 apply(QS);refine c7 [(3,.pointer _),(4,.pointer _),(5,.pointer _),(44,.int _ _),(45,.int _ _)] bP λeZ=>?_;refine gP ([6,8,10]++b4 45 27) (λg:H0 (Lm b) (b.bG.l.length)=>[(45,.int .i64 ((g.1:Nat):Int))]) (λg=>(b.bG.l.length)-g.1) ⟨0,G9 _ _⟩ ?_;rintro⟨fM,yR,g0⟩ bZ;try dsimp only
 apply(h2);apply(W)<;>intro dZ;·
  have xQ:=bJ b.bG.l fM 0;have aS1:=bJ b.bO.l fM 0;apply pR∘zG;refine gJ O [0,1,2,3,4,5,6,7,8,9,12,10,11] ([a5.mk eH _ _]) cX bE a2 ?_;apply oV∘aNK∘lW∘oV∘aNK∘lW∘g1;refine o4 a3s rfl rfl rfl ?_;rintro v E G ⟨Fy,rfl,rfl,T9⟩;replace T9:=T9.symm;subst T9;apply(fS);refine a4 vZ ?_;refine gS (aZ (e3 ?_));refine zY ([6,8,10]++b4 45 27) AZ [(45,.int _ _),(58,.slice _ _ _),(59,.int _ _),(60,.int _ _)] bP λnS=>?_;refine mJ (E:=(⟨.own Fy 2 [],[b.bG.l.getD fM 0,b.bO.l.getD fM 0]⟩:J Int).L 3 aL++(⟨eH,b.cells,214⟩::⟨cT,s.cells,80⟩::⟨dG,a.cells,32⟩::L)) (by simp only[J.L,gZ.L,EW,List.flatMap_nil,aL,EX,oF,m0];rfl) ?_;refine gP ([6,10]++b4 60 11) (λg:FS (rK) ([b.bG.l.getD fM 0,b.bO.l.getD fM 0])=>[(60,.int .i64 ((g.1:Nat):Int))]) (λg=>([b.bG.l.getD fM 0,b.bO.l.getD fM 0]).length-g.1) ⟨0,BL _ _⟩ ?_;rintro⟨eU,e6,kE⟩ bZ;try dsimp only
  have bJB:(⟨.own Fy 2 [],[b.bG.l.getD fM 0,b.bO.l.getD fM 0]⟩:J Int).ok 1 aL:=⟨rfl,g4 _,by simp only[maxLen];omega,rfl⟩;have XV:[b.bG.l.getD fM 0,b.bO.l.getD fM 0].length=2:=rfl;apply(h2);apply(W)<;>intro dX;·
   obtain⟨y,aN⟩:=mP [b.bG.l.getD fM 0,b.bO.l.getD fM 0] eU;apply(j7);refine aG (h4 O ((⟨.own Fy 2 [],[b.bG.l.getD fM 0,b.bO.l.getD fM 0]⟩:J Int)) _ rfl rfl rfl rfl bC (i:=eU) cW iC) ?_;refine aG (qK O ((⟨.own Fy 2 [],[b.bG.l.getD fM 0,b.bO.l.getD fM 0]⟩:J Int)) rfl rfl rfl c0 bC bI bC aE) ?_;apply pQ∘CI;apply cB (aC:=[_,_]) (j:=2) (a7:=66) rfl rfl aE rfl aW rfl;·exact GG
   intro mY;apply(b3);apply(W)<;>intro h3;·apply(rN);refine eI (aZ (iT (iS (gD (wS (iS (iS (gD (wS (iS (gD ?_)))))))))));refine dC L R ?_;(have Hm:Lm b fM=some 1:=by rw[Lm];exact A6 kE aN (if_pos D));exact⟨[],by rw[uB,if_neg aO,if_neg C9,if_neg D,if_pos (b2P rfl D D Hm)],rfl,rfl⟩
   apply(n6);exact dU ⟨eU+1,CO kE aN (if_neg D)⟩
  have s1:=BC kE D;refine lC (lB (tT (lA (gV (aZ (cR ?_))))));apply(uX);exact dU ⟨fM+1,KH g0 D s1⟩
 have mX:=KO g0 D;have UO:=b32 (b:=b) rfl D mX;have aF4:qY b.bG.l:=Ku UO.1;have aF1:qY b.bO.l:=Ku UO.2;have AK:uB a s b A=((List.range a.Y.places.l.length).findSome? (uU a s b A)).getD 0:=by rw[uB,if_neg aO,if_neg C9,if_neg D,if_neg (by rw[UO.1,UO.2];simp)]
 apply oD∘CM;refine cK (a4n a.Y _ _ hm.YB hok.Y (a6d bQ)) ?_;rintro v E G ⟨p,NT,S,rfl,iB,uF,eB,rfl,rfl⟩;obtain rfl:A=NT:=yP.Iu uF;have a1v:p.l.length=a.Y.places.l.length:=by rw[eB,uQ];exact yP.length
 have JD:nT a (S++R):=⟨hm.places.mono λr h=>aM (by simp[h]),hm.aD.mono λr h=>aM (by simp[h]),hm.a3.mono λr h=>aM (by simp[h]),hm.aX.mono λr h=>aM (by simp[h])⟩;have RJ:o2 s (S++R):=⟨hs.a3.mono λr h=>aM (by simp[h]),hs.aX.mono λr h=>aM (by simp[h])⟩;apply vG∘wW;refine cK (a9B a s _ _ JD RJ hok rT) ?_;rintro v E G ⟨n,rfl,hn,rfl,rfl⟩;have JE:aH (sQ n.mO) (sQ n.mO::rI n.kW::(S++R)):=aM (.head _);have Am:aH (rI n.kW) (sQ n.mO::rI n.kW::(S++R)):=aM (.tail _ (.head _));have aTg:aH (O8 a.Y.places) (sQ n.mO::rI n.kW::(S++R)):=EB.mono λr h=>aM (by simp[h]);have aSF:aH (cZ b.bG) (sQ n.mO::rI n.kW::(S++R)):=FT.mono λr h=>aM (by simp[h]);have aSE:aH (cZ b.bO) (sQ n.mO::rI n.kW::(S++R)):=Ap.mono λr h=>aM (by simp[h]);apply(dA);intro lN;apply rQ∘eP∘r9;refine c7 [(5,.pointer _),(11,.slice _ _ _),(12,.pointer _),(80,.slice _ _ _),(81,.int _ _),(82,.int _ _)] bP λNH=>?_;refine gP ([6,13,14]++b4 82 42) (λg:H0 (uU a s b A) (a.Y.places.l.length)=>[(82,.int .i64 ((g.1:Nat):Int))]) (λg=>(a.Y.places.l.length)-g.1) ⟨0,G9 _ _⟩ ?_;rintro⟨eE,hK,EC⟩ bZ;try dsimp only
 apply(h2);apply(W)<;>intro hW;·
  have xR:=bJ a.Y.places.l eE default;have BT:p.l[eE]?=some (!(A.getD eE false)):=by have:=yP.length;rw[eB,pF,bJ A eE false];rfl
  have xQ:=bJ b.bG.l eE 0;have aS1:=bJ b.bO.l eE 0;apply pR∘aAc∘OI;intro sA;apply dE∘CL∘c9;apply cB (aC:=[_,_,_,_]) (j:=2) (a7:=89) rfl rfl aE rfl aW rfl;·intro fD;replace fD:=a8 fD;apply(h7);refine aG (h4 O (p) _ rfl rfl rfl rfl bC (i:=eE) cW iC) ?_;refine aG R8 ?_;exact hL
  intro mY;apply(b3);apply(W)<;>intro oO;·
   (have DD:uU a s b A eE=if b.bG.l.getD eE 0≠0\/b.bO.l.getD eE 0≠0 then some 12 else none:=by rw[uU,if_pos (by simpa[or_comm]using oO)]);apply cO∘gE∘aAc∘jI∘rO;apply cB (aC:=[_,_,_,_,_,_]) (j:=6) (a7:=101) rfl rfl aE rfl aW rfl;·intro kC;replace kC:=a8 kC;exact(gE∘aAc∘jI) HW
   intro JG;apply(b3);apply(W)<;>intro FV;·exact aIo
   exact aXg
  have DD:uU a s b A eE=if BH a s b.bO.l (eE:Int)<0\/0<BD a s b.bG.l (eE:Int)then some 12 else none:=by rw[uU,if_neg (by simpa[and_comm]using oO)]
  apply cO∘oC∘gE;refine cC rfl (aKa n a s b.bO _ _ _ JE Am aSE hn hok a1z aF1 D) ?_;apply(CI);refine GK (k:=115) aW (λkC=>?_) (λkC=>?_);·replace kC:=a8 kC;(iterate 6 refine SE rfl rfl ?_);refine aG VJ ?_;apply(b3);refine wR rfl ?_;exact aIo
  replace kC:=a8 kC;refine kM R9 ?_;refine kM sM ?_;refine kM E1 ?_;refine kM zV ?_;refine Lp rfl (aMz n a s b.bG _ _ _ JE Am aSF hn hok kD aF4 D) rfl rfl ?_;rintro v E G ⟨rfl,rfl,rfl⟩;refine kM YP ?_;refine aG VJ ?_;apply(b3);apply(W)<;>intro aEK;·exact aIo
  exact aXg
 have zM:=KO EC D;apply(GZ);refine dC L (sQ n.mO::rI n.kW::(S++R)) ?_;exact⟨[sQ n.mO,rI n.kW]++S,by rw[AK,zM];rfl,rfl,rfl⟩
def kY:a9:=⟨-1125899906842624,1125899906842624⟩
def s9(a:bR)(s:cE)(b:sV)(A:List Bool)(k:Nat):a9:=
 if(a.Y.aD.l.getD k default).dM=true then⟨0,0⟩
 else if A.getD (a.Y.aD.l.getD k default).bK.toNat false=true then
  ⟨tB (lU a s k) (b.bG.l.getD (a.Y.aD.l.getD k default).bK.toNat 0-b.bO.l.getD (a.Y.aD.l.getD k default).to.toNat 0),
   s8 (lU a s k) (b.bO.l.getD (a.Y.aD.l.getD k default).bK.toNat 0-b.bG.l.getD (a.Y.aD.l.getD k default).to.toNat 0)⟩
 else kY
def GR(a:bR)(s:cE)(b:sV)(A:List Bool):List a9:=
 if uB a s b A=0 then(List.range a.Y.aD.l.length).map (s9 a s b A)else[]
def b4S(L:aP)(R:aJ):
 aI prog 34 [].toArray L R (λv E G=>v=kY.val/\L=E/\R=G):=by refine bW 2 call34 func34 ?_;apply(IV);intro a0L;exact(lP∘y0∘wA) a9t
def b5T(h:A->B:=by exact gO Qy rfl):=h
def b4L(h:A->B:=by exact gO aY5 rfl):=h
def aPM(h:A->B:=by exact(eO R9 ·)):=h
def aJX(h:A->B:=by exact(eO aYI ·)):=h
def aLj(h:A->B:=by exact(eO aYM ·)):=h
structure a9u(a:bR)(s:cE)(b:sV):Prop where
 bQ:hO a=0
 hf:lL a s=true
 hl:b.bG.l.length=a.Y.places.l.length
 bX:b.bO.l.length=a.Y.places.l.length
 bS:qY b.bG.l
 yW:qY b.bO.l
def aBn{a:bR}{s:cE}{b:sV}{A:List Bool}(h:uB a s b A=0):a9u a s b:=by
 unfold uB at h;split at h;·exact a2C
 rename_i N;split at h;·cases h
 rename_i V;split at h;·cases h
 rename_i aQ;split at h;·cases h
 rename_i b7;refine⟨by omega,by simpa using V,by omega,by omega,Ku ?_,Ku ?_⟩;·
  cases e:b.bG.l.findSome? rK with
  |none=>rfl
  |some x=>exact absurd (.inl (by rw[e];rfl)) b7
 ·
  cases e:b.bO.l.findSome? rK with
  |none=>rfl
  |some x=>exact absurd (.inr (by rw[e];rfl)) b7
def b9N(a:bR)(s:cE)(b:sV)(A:List Bool)(L:aP)(R:aJ)(hm:nT a R)(hs:o2 s R)(hb:Rd b R)(gI:hO a=0->lS a.Y A):
 aI prog 210 [a.val,s.val,b.val].toArray L R (λv E G=>∃p:J a9,v=p.val/\p.ok 2 a9.cells/\p.l=GR a s b A/\p.L 90 a9.cells++L=E/\R=G):=by
 have UJ:=hm.aD;have FT:=hb.bG;have Ap:=hb.bO;refine bW 84 call210 func210 ?_;apply(c8);intro dG;apply(iU);intro cT;apply(iU);intro eH;apply z5∘wW∘oC;refine cC rfl (b24 a s b A _ _ hm hs hb gI) ?_;apply(qP);apply(W)<;>intro aO;·apply TD∘AU;refine bN L R vD ?_;exact⟨J.nil,rfl,J.g6,by rw[GR,if_neg aO],by rw[lT,m0],rfl⟩
 have AK:uB a s b A=0:=by omega
 have zJ:=aBn AK;have hok:=zE zJ.bQ;have rT:=Ry zJ.hf;have yP:=gI zJ.bQ;have OX:=hok.Y.aD;have kD:=zJ.hl;have a1z:=zJ.bX;apply eR∘CM;refine cK (aPy a.Y _ _ hm.YB hok.Y) ?_;rintro v E G ⟨p,rfl,iB,uF,rfl,rfl⟩;have aTx:p.l=A:=uF.Iu yP;have Ah:=yP.length;apply(FG);refine W3 λc w cI=>⟨_,_,cI.DJ YM,?_⟩;apply eK∘WN;refine c7 [(3,.pointer _),(4,.pointer _),(5,.pointer _),(7,.slice _ _ _),(8,.slice _ _ _),(9,.int _ _)] bP λeZ=>?_;refine mC ([8,9,10,11]++b4 20 63) ((⟨λq=>[(9,.int .i64 ((q.1.1:Nat):Int)),(8,q.1.2.val)],λq=>q.1.2.L 90 a9.cells++(p.L 4 jF++(⟨eH,b.cells,214⟩::⟨cT,s.cells,80⟩::⟨dG,a.cells,32⟩::L)),λ_=>R,λq=>a.Y.aD.l.length-q.1.1⟩:dV {q:Nat×J a9//q.1<=a.Y.aD.l.length/\q.2.ok 2 a9.cells/\q.2.l=(List.range q.1).map (s9 a s b A)})) (⟨(0,J.nil),by dsimp only;omega,J.g6,rfl⟩) bP DP fF ?_;rintro⟨⟨k,q⟩,s4,fT,mZ⟩ bZ;try dsimp only
 dsimp only at s4 fT mZ;apply A7∘eP∘Ey;apply(W)<;>intro bF;·
  have M:=bJ a.Y.aD.l k default;have kX:=hok.Y.b9 _ _ M;have RI:=kX.bK;have X2:=kX.to;have gB:q.l.length=k:=by rw[mZ];simp
  have BT:p.l[(a.Y.aD.l.getD k default).bK.toNat]?=some (A.getD (a.Y.aD.l.getD k default).bK.toNat false):=by rw[aTx];exact iL _ D
  have eB:p.l.length=a.Y.places.l.length:=by rw[aTx];exact Ah
  have u1:=bJ b.bG.l ((a.Y.aD.l.getD k default).bK.toNat) 0;have q7:=bJ b.bG.l ((a.Y.aD.l.getD k default).to.toNat) 0;have KW:=bJ b.bO.l ((a.Y.aD.l.getD k default).bK.toNat) 0;have OM:=bJ b.bO.l ((a.Y.aD.l.getD k default).to.toNat) 0;have dY:=zJ.bS.get (a.Y.aD.l.getD k default).bK.toNat;have eY:=zJ.bS.get (a.Y.aD.l.getD k default).to.toNat;have nV:=zJ.yW.get (a.Y.aD.l.getD k default).bK.toNat;have AE:=zJ.yW.get (a.Y.aD.l.getD k default).to.toNat;apply j7∘FD;refine aG qH ?_;apply(WQ);intro jE;apply rP∘a78∘dA;intro FL;apply G6∘oW;apply(W)<;>intro b2;·
   apply(cO);refine cC rfl JV ?_;apply rP∘BB;refine aG (h4 O (p) _ rfl rfl rfl rfl bC (i:=(a.Y.aD.l.getD k default).bK.toNat) cW iC) ?_;refine aG R8 ?_;apply(b3);apply(W)<;>intro dZ;·(have Ho:s9 a s b A k=⟨tB (lU a s k) (b.bG.l.getD (a.Y.aD.l.getD k default).bK.toNat 0-b.bO.l.getD (a.Y.aD.l.getD k default).to.toNat 0),s8 (lU a s k) (b.bO.l.getD (a.Y.aD.l.getD k default).bK.toNat 0-b.bG.l.getD (a.Y.aD.l.getD k default).to.toNat 0)⟩:=by rw[s9,if_neg PN,if_pos Jk]);refine hF O [] [0,1,2,3,4,5,6,7,8,9,10,11,12,13,14,15,17,18,19,20,21,22,23,24,25,26,27,28,29,30,31,32,16,33,34] [35] ([a5.mk FL _ _,a5.mk jE _ _,a5.mk eH _ _,a5.mk cT _ _,a5.mk dG _ _]) _ cX bE a2 (by(repeat(first|apply List.Sublist.cons (a:=a5.mk FL _ _)|apply List.Sublist.cons_cons));exact oR _) ?_;apply a2x∘aPM∘wM∘QV∘aJX∘vA∘QV∘aLj∘vA∘NE∘a2x∘aPM∘wM∘QV∘aJX∘vA∘QV∘aLj∘vA∘NE;refine k2 rfl (aLy a s _ _ _ _ hm hs hok rT D) rfl rfl ?_;rintro v E G ⟨rfl,rfl,rfl⟩;refine⟨a2,gN,?_⟩;refine k2 rfl (aJC a s _ _ _ _ hm hs hok rT D) rfl rfl ?_;rintro v E G ⟨rfl,rfl,rfl⟩;refine⟨a2,gN,?_⟩;apply Cn∘p7;refine gS (aZ (cR ?_));exact aIM
   (have Ho:s9 a s b A k=kY:=by rw[s9,if_neg PN,if_neg Jk]);refine dK (aZ (cR ?_));exact aIM
  have Ho:s9 a s b A k=⟨0,0⟩:=by rw[s9,if_pos PN]
  refine dK (aZ (cR ?_));exact aIM
 obtain rfl:k=a.Y.aD.l.length:=by omega
 apply(TG);refine bN (q.L 90 a9.cells++L) R vD ?_;exact⟨q,rfl,fT,by rw[GR,if_pos AK];exact mZ,rfl,rfl⟩
end
structure a3A(a:bR)(s:cE)(b:sV)(A:List Bool):Prop where
 iE:a9u a s b
 fix:∀i:Nat,i<a.Y.places.l.length->(!(A.getD i false)||(a.Y.places.l.getD i default).r3)=true->b.bG.l.getD i 0=0/\b.bO.l.getD i 0=0
 Po:∀i:Nat,i<a.Y.places.l.length->¬(!(A.getD i false)||(a.Y.places.l.getD i default).r3)=true->0<=BH a s b.bO.l (i:Int)/\BD a s b.bG.l (i:Int)<=0
def aJR{a:bR}{s:cE}{b:sV}{A:List Bool}(h:a9u a s b):uB a s b A=((List.range a.Y.places.l.length).findSome? (uU a s b A)).getD 0:=by have N:=h.hl;have V:=h.bX;rw[uB,if_neg (by rw[h.bQ];decide),if_neg (by rw[h.hf];decide),if_neg D,if_neg (by rw[aB4 h.bS,aB4 h.yW];simp)]
def b3o(a:bR)(s:cE)(b:sV)(A:List Bool)(i:Nat):uU a s b A i=none\/uU a s b A i=some 12:=by
 unfold uU;split;·exact aHT
 ·exact aHT
def b9i{a:bR}{s:cE}{b:sV}{A:List Bool}:uB a s b A=0↔a3A a s b A:=by
 have node:∀i,uU a s b A i=none↔((!(A.getD i false)||(a.Y.places.l.getD i default).r3)=true->b.bG.l.getD i 0=0/\b.bO.l.getD i 0=0)/\(¬(!(A.getD i false)||(a.Y.places.l.getD i default).r3)=true->0<=BH a s b.bO.l (i:Int)/\BD a s b.bG.l (i:Int)<=0):=λi=>by
  unfold uU;by_cases N:(!(A.getD i false)||(a.Y.places.l.getD i default).r3)=true;·rw[if_pos N];refine⟨λh=>⟨λ_=>?_,λcN=>absurd N cN⟩,λh=>if_neg (by have:=h.1 N;omega)⟩;exact aHU
  ·rw[if_neg N];refine⟨λh=>⟨λcN=>absurd cN N,λ_=>?_⟩,λh=>if_neg (by have:=h.2 N;omega)⟩;exact aHU
 constructor;·
  intro h;have zJ:=aBn h;rw[aJR zJ]at h;have hn:(List.range a.Y.places.l.length).findSome? (uU a s b A)=none:=by
   cases e:(List.range a.Y.places.l.length).findSome? (uU a s b A)with
   |none=>rfl
   |some v=>
    obtain⟨i,_,aA⟩:=PI e;rcases b3o a s b A i with N|N;·rw[N]at aA;cases aA
    ·rw[N]at aA;cases aA;rw[e]at h;cases h
  rw[NN]at hn;exact⟨zJ,λi aA=>((node i).1 (hn i (List.mem_range.2 aA))).1,λi aA=>((node i).1 (hn i (List.mem_range.2 aA))).2⟩
 ·intro h;rw[aJR h.iE,List.findSome?_eq_none_iff.2 (λi aA=>(node i).2 ⟨h.fix i (List.mem_range.1 aA),h.Po i (List.mem_range.1 aA)⟩)];rfl
def aI.turn{P:Program}{f:FuncId}{args:Array Value}{L:aP}{R:aJ}{Post xA:oY}(h:aI P f args L R Post)
 (k:∀v E G,Post v E G->∃iM yD,E.Perm iM/\(∀r∈yD,aH r G)/\xA v iM yD):aI P f args L R xA:=
 ⟨h.1,λw aC bX=>(h.2 w aC bX).mono λe w' ⟨v,E,G,X,hp,cI⟩=>by
  obtain⟨iM,yD,N,V,aQ⟩:=k v E G hp
  exact⟨v,iM,yD,X,aQ,(cI.DJ N).vB g3 V⟩⟩
def WX(g:Int->Bool)(start:Int)(up:Bool):Option Int:=
 ((List.range ((tY up start).toNat+1)).find? λ(m:Nat)=>g (start+m7 up*(m:Int))).map λ(m:Nat)=>start+m7 up*(m:Int)
def b9Z{g:Int->Bool}{start:Int}{up:Bool}{v:Int}(h:YW g start up v true):WX g start up=some v:=by
 obtain⟨m,xZ,RR,a7L,bFO,bFQ⟩:=h.DO rfl;have e:(List.range ((tY up start).toNat+1)).find? (λ(m:Nat)=>g (start+m7 up*(m:Int)))=some m.toNat:=by
  rw[a8L];refine⟨?_,List.mem_range.2 D,λj aY=>?_⟩;·rw[VF xZ,<-a7L];exact bFO
  ·rw[bFQ j D D];rfl
 rw[WX,e,Jc,VF xZ,a7L]
def b8O{g:Int->Bool}{start:Int}{up:Bool}{v:Int}(bQ:0<=tY up start)(h:YW g start up v false):WX g start up=none:=by
 obtain⟨_,aY⟩:=h.no rfl;have e:(List.range ((tY up start).toNat+1)).find? (λ(m:Nat)=>g (start+m7 up*(m:Int)))=none:=by rw[List.find?_range_eq_none];intro i aA;rw[aY i D D];rfl
 rw[WX,e];rfl
def aBC{g:Int->Bool}{start:Int}{up:Bool}{v:Int}(bQ:0<=tY up start)(h:WX g start up=some v):YW g start up v true:=by
 unfold WX at h;obtain⟨m,hm,rfl⟩:=Option.map_eq_some_iff.1 h;rw[a8L]at hm;obtain⟨N,V,aQ⟩:=hm;have aSb:=List.mem_range.1 V;refine⟨λ_=>⟨m,by omega,by omega,rfl,N,λj bFv yT=>?_⟩,λh=>by cases h⟩;have:=aQ j.toNat D;rw[VF bFv]at this;cases e:g (start+m7 up*j)with
 |false=>rfl
 |true=>rw[e]at this;cases this
def aLh{g:Int->Bool}{start:Int}{up:Bool}{v:Int}{ok:Bool}(bQ:0<=tY up start)(h:YW g start up v ok):v=(WX g start up).getD 0/\ok=(WX g start up).isSome:=by
 cases ok with
 |true=>rw[b9Z h];exact⟨rfl,rfl⟩
 |false=>rw[b8O bQ h];exact⟨(h.no rfl).1,rfl⟩
attribute [irreducible] WX
def ZL(a:bR)(s:cE)(up:Bool)(l:List Int)(v:Int):Int->Bool:=if up=true then H7 a s l v else II a s l v
def DV(a:bR)(s:cE)(up:Bool)(l:List Int)(k:Nat):Option Int:=WX (ZL a s up l k) (l.getD k 0) up
abbrev wD(a:bR)(A:List Bool)(k:Nat):Bool:=!(A.getD k false)||(a.Y.places.l.getD k default).r3
def wY(a:bR)(s:cE)(A:List Bool)(up:Bool)(l:List Int):Nat->Option (List Int)
 |0=>some l
 |k+1=>(wY a s A up l k).bind λm=>if wD a A k=true then some m else(DV a s up m k).map λv=>m.set k v
def wU(a:bR)(s:cE)(A:List Bool)(up:Bool):Nat->List Int->Option (List Int)
 |0,_=>none
 |n+1,l=>match wY a s A up l a.Y.places.l.length with
  |none=>none
  |some m=>if m=l then some m else wU a s A up n m
def FJ(a:bR)(ps:List Int)(A:List Bool)(i:Nat):Option Int:=if wD a A i=true/\ps.getD i 0≠0 then some 12 else none
def xD(a:bR)(s:cE)(ps:List Int)(A:List Bool):Int:=
 if hO a≠0 then hO a else if lL a s=false then 21 else if ps.length≠a.Y.places.l.length then 11
 else if(ps.findSome? rK).isSome=true then 1 else((List.range a.Y.places.l.length).findSome? (FJ a ps A)).getD 0
def i5(a:bR)(s:cE)(A:List Bool)(up:Bool)(ps:List Int):Int×List Int:=
 if xD a s ps A≠0 then(xD a s ps A,[])else match wU a s A up 200 ps with
  |none=>(2,[])
  |some l=>(0,l)
def sX(a:bR)(s:cE)(A:List Bool):Int×List Int×List Int:=
 let p:=i5 a s A false (List.replicate a.Y.places.l.length 0)
 if p.1≠0 then(p.1,[],[])else
  let q:=i5 a s A true p.2
  if q.1≠0 then(q.1,[],[])else
   let r:=i5 a s A false q.2
   if r.1≠0 then(r.1,[],[])else(0,r.2,q.2)
structure ZF(a:bR)(s:cE)(ps:List Int)(A:List Bool):Prop where
 bQ:hO a=0
 hf:lL a s=true
 hl:ps.length=a.Y.places.l.length
 hp:qY ps
 fix:∀i:Nat,i<a.Y.places.l.length->wD a A i=true->ps.getD i 0=0
def a5c{a:bR}{s:cE}{ps:List Int}{A:List Bool}:xD a s ps A=0↔ZF a s ps A:=by
 constructor;·
  intro h;unfold xD at h;split at h;·exact a2C
  rename_i N;split at h;·cases h
  rename_i V;split at h;·cases h
  rename_i aQ;split at h;·cases h
  rename_i b7;refine⟨by omega,by simpa using V,by omega,Ku (by simpa using b7),λi aA hf=>?_⟩;have hn:(List.range a.Y.places.l.length).findSome? (FJ a ps A)=none:=by
   cases e:(List.range a.Y.places.l.length).findSome? (FJ a ps A)with
   |none=>rfl
   |some v=>
    obtain⟨j,_,aY⟩:=PI e;unfold FJ at aY;split at aY;·cases aY;rw[e]at h;cases h
    ·cases aY
  rw[NN]at hn;have:=hn i (List.mem_range.2 aA);unfold FJ at this;split at this;·cases this
  ·rename_i eG;exact Decidable.not_not.1 λgF=>eG ⟨hf,gF⟩
 ·intro h;rw[xD,if_neg (by rw[h.bQ];decide),if_neg (by rw[h.hf];decide),if_neg (by rw[h.hl];simp),if_neg (by rw[aB4 h.hp];simp),List.findSome?_eq_none_iff.2 (λi aA=>show FJ a ps A i=none from if_neg (λcN=>cN.2 (h.fix i (List.mem_range.1 aA) cN.1)))];rfl
def b5C{a:bR}{s:cE}{up:Bool}{l:List Int}{k:Nat}{v:Int}(h:qY l)(hv:DV a s up l k=some v):-70368744177664<=v/\v<=70368744177664:=by obtain⟨m,xZ,RR,a7L,_,_⟩:=(aBC (Zt (h.get k)).1 hv).DO rfl;rw[a7L];exact a47 (h.get k) ⟨xZ,RR⟩
structure J5(a:bR)(s:cE)(A:List Bool)(up:Bool)(l:List Int)(k:Nat)(m:List Int):Prop where
 to:wY a s A up l k=some m
 len:m.length=l.length
 bY:qY m
 aB:∀j:Nat,k<=j->m[j]?=l[j]?
def J5.zero{a:bR}{s:cE}{A:List Bool}{up:Bool}{l:List Int}(h:qY l):J5 a s A up l 0 l:=⟨rfl,rfl,h,λ_ _=>rfl⟩
def J5.skip{a:bR}{s:cE}{A:List Bool}{up:Bool}{l m:List Int}{k:Nat}(h:J5 a s A up l k m)(hf:wD a A k=true):J5 a s A up l (k+1) m:=
 ⟨by rw[wY,h.to,Xa,if_pos hf],h.len,h.bY,λj aY=>h.aB j D⟩
def J5.fail{a:bR}{s:cE}{A:List Bool}{up:Bool}{l m:List Int}{k:Nat}(h:J5 a s A up l k m)(hf:¬wD a A k=true)(hn:DV a s up m k=none):∀n,k+1<=n->wY a s A up l n=none:=by
 intro n zM;induction n with
 |zero=>omega
 |succ n cM=>
  rcases gY k n with N|N;·rw[wY,cM D];rfl
  ·(obtain rfl:n=k:=by omega);rw[wY,h.to,Xa,if_neg hf,hn];rfl
def J5.next{a:bR}{s:cE}{A:List Bool}{up:Bool}{l m:List Int}{k:Nat}(h:J5 a s A up l k m)(hf:¬wD a A k=true){v:Int}(hv:DV a s up m k=some v):J5 a s A up l (k+1) (m.set k v):=
 ⟨by rw[wY,h.to,Xa,if_neg hf,hv];rfl,by rw[p6];exact h.len,h.bY.set _ (b5C h.bY hv),λj aY=>by rw[JR D];exact h.aB j D⟩
def J5.aR4{a:bR}{s:cE}{A:List Bool}{up:Bool}{l m:List Int}{k:Nat}(h:J5 a s A up l k m)(hk:k<l.length)(v:Int):decide (m.set k v≠l)=(decide (m≠l)||decide (v≠m.getD k 0)):=by
 have rU:=h.len;have hg:=bJ m k 0;by_cases N:v=m.getD k 0;·rw[N,Kr];simp
 ·
  have V:m.set k v≠l:=λe=>by have aQ:=h.aB k (g4 _);rw[<-e,tQ D,hg]at aQ;exact N (y2 aQ).symm
  rw[decide_eq_true V,decide_eq_true N,Wu]
def aMl{a:bR}{s:cE}{A:List Bool}{up:Bool}{n:Nat}{l m:List Int}(hs:wY a s A up l a.Y.places.l.length=some m)(iO:m≠l):wU a s A up (n+1) l=wU a s A up n m:=by rw[wU,hs];exact if_neg iO
def aKB{a:bR}{s:cE}{A:List Bool}{up:Bool}{n:Nat}{l:List Int}(hs:wY a s A up l a.Y.places.l.length=some l):wU a s A up (n+1) l=some l:=by rw[wU,hs];exact if_pos rfl
def aNL{a:bR}{s:cE}{A:List Bool}{up:Bool}{n:Nat}{l:List Int}(hs:wY a s A up l a.Y.places.l.length=none):wU a s A up (n+1) l=none:=by rw[wU,hs]
def Yq{a:bR}{s:cE}{A:List Bool}{up:Bool}{l:List Int}(hl:qY l): ∀{k:Nat} {m:List Int},wY a s A up l k=some m->J5 a s A up l k m
 |0,m,h=>by cases h;exact .zero hl
 |k+1,m,h=>by
  have cN:=h
  rw[wY,a2J]at cN
  obtain⟨RR,N,V⟩:=cN
  have cM:=Yq hl N
  split at V
  ·rename_i hf
   cases V
   exact cM.skip hf
  ·rename_i hf
   obtain⟨v,hv,rfl⟩:=Option.map_eq_some_iff.1 V
   exact cM.next hf hv
def aAq{a:bR}{s:cE}{A:List Bool}{up:Bool}: ∀{n:Nat} {l m:List Int},qY l->wU a s A up n l=some m->m.length=l.length/\qY m/\wY a s A up m a.Y.places.l.length=some m
 |0,l,m,_,h=>by cases h
 |n+1,l,m,hl,h=>by
  rw[wU]at h
  split at h
  ·cases h
  ·rename_i RR N
   have hs:=Yq hl N
   split at h
   ·rename_i e
    cases h
    subst e
    exact⟨rfl,hl,N⟩
   ·obtain⟨eU,eE,i2⟩:=aAq hs.bY h
    exact⟨eU.trans hs.len,eE,i2⟩
def aB1{a:bR}{s:cE}{A:List Bool}{up:Bool}{ps:List Int}(h:(i5 a s A up ps).1=0):ZF a s ps A/\wU a s A up 200 ps=some (i5 a s A up ps).2:=by
 unfold i5 at h|-;split at h;·exact a2C
 ·
  rename_i N;rw[if_neg N];refine⟨a5c.1 D,?_⟩;split at h;·cases h
  ·rename_i l e;rw[e]
section
attribute [local irreducible] cH c6 dP aI cJ eD e9 e0 e1 e5 eS e8 J.L
def aPv(h:A->B:=by exact(aG (h4 O ((⟨AS,m⟩:J Int)) _ rfl rfl ((show _=Value.slice _ _ _ from rfl).trans a2T) rfl bC (i:=i) cW iC) ·)):=h
def aPz(h:B:=by exact⟨J.nil,by rw[HL];rfl,J.g6,by rw[HL],by rw[lT,m0],rfl⟩):=h
def aQB(h:A->B:=by exact(aG R8 ·)):=h
def b6I(h:A->B:=by exact(aG (qK O ((⟨AS,m⟩:J Int)) rfl rfl rfl c0 bC bI bC aE) ·)):=h
def b8j(h:A->B:=by exact i4 (jL O ((⟨AS,m⟩:J Int)) (u) rfl rfl rfl rfl c0 bC bI bC bH aE aE)):=h
def b6q(h:B:=by exact oT ⟨(i+1,m.set i u),by dsimp only;omega,fB.next Q9 hv,J.oZ CG kF fX⟩ kG ⟨rfl,by dsimp only;rw[fW];rfl,trivial⟩ a2 fF k1):=h
def b86(a:bR)(s:cE)(ps:a0 Int)(A:List Bool)(L:aP)(R:aJ)(hm:nT a R)(hs:o2 s R)(nG:aH (cZ ps) R)(gI:hO a=0->lS a.Y A):
 aI prog 295 [a.val,s.val,ps.val].toArray L R (λv E G=>v=.int .i64 (xD a s ps.l A)/\L=E/\R=G):=by
 have EB:=hm.places;refine nN call295 nG λl5=>?_;refine nN call295 EB λaFt=>?_;refine bW 49 call295 func295 ?_;apply(c8);intro dG;apply(iU);intro cT;apply g7∘sD;refine cC rfl (Yu a _ _ hm) ?_;apply(kB);apply(W)<;>intro aO;·apply(S8);refine dC L R ?_;exact⟨by rw[xD,if_pos aO],rfl,rfl⟩
 have bQ:hO a=0:=by omega
 have hok:=zE bQ;have yP:=gI bQ;apply iK∘wW;refine cC rfl (aBJ a s _ _ hm hs) ?_;apply(oW);apply(W)<;>intro bF;·apply(m1);refine dC L R ?_;exact⟨by rw[xD,if_neg aO,if_pos (by simpa[SB,bQ]using bF)],rfl,rfl⟩
 have vN:lL a s=true:=by simpa[SB,bQ]using bF
 have C9:¬lL a s=false:=by rw[vN];decide
 apply Z0∘z3∘qP;apply(W)<;>intro b2;·apply(m1);refine dC L R ?_;exact⟨by rw[xD,if_neg aO,if_neg C9,if_pos D],rfl,rfl⟩
 have kD:ps.l.length=a.Y.places.l.length:=by omega
 apply iK∘hM;refine cC rfl (aCU ps _ _ nG) ?_;apply(oW);apply(W)<;>intro dZ;·apply(m1);refine dC L R ?_;exact⟨by rw[xD,if_neg aO,if_neg C9,if_neg D,if_pos (by simp_all [Option.isSome_iff_ne_none])],rfl,rfl⟩
 have M:¬(ps.l.findSome? rK).isSome=true:=by simp_all
 apply eR∘CM;refine cK aIZ ?_;rintro v E G ⟨p,NT,rfl,iB,uF,eB,rfl,rfl⟩;obtain rfl:A=NT:=yP.Iu uF;have a1v:p.l.length=a.Y.places.l.length:=by rw[eB];exact aBZ a.Y A
 have AK:xD a s ps.l A=((List.range ps.l.length).findSome? (FJ a ps.l A)).getD 0:=by rw[xD,if_neg aO,if_neg C9,if_neg D,if_neg M,kD]
 apply(KJ);refine W3 λc w cI=>⟨_,_,cI.DJ YM,?_⟩;apply(OG);refine c7 [(2,.slice _ _ _),(8,.slice _ _ _),(9,.int _ _)] bP λeZ=>?_;refine gP ([6,9]++b4 32 17) (λg:H0 (FJ a ps.l A) (ps.l.length)=>[(9,.int .i64 ((g.1:Nat):Int))]) (λg=>(ps.l.length)-g.1) ⟨0,G9 _ _⟩ ?_;rintro⟨fM,yR,g0⟩ bZ;try dsimp only
 apply(uA);apply(W)<;>intro dX;·
  have BT:p.l[fM]?=some (wD a A fM):=by rw[eB];exact a3K D
  have xS:=bJ ps.l fM 0;apply j7∘h7;refine aG (h4 O (p) _ rfl rfl rfl rfl bC (i:=fM) cW iC) ?_;apply aQB∘c9;apply iZ (aC:=[_,_,_,_,_]) (j:=4) (a7:=42) rfl rfl aE rfl aW rfl;·intro gW;replace gW:=a8 gW;apply(h7);refine aG R6 ?_;exact(jI) HW
  intro yU;apply(b3);apply(W)<;>intro h3;·have DD:FJ a ps.l A fM=some 12:=if_pos a2X;apply(xE);refine dC L R ?_;exact⟨by rw[AK,zC g0 D DD];rfl,rfl,rfl⟩
  have DD:FJ a ps.l A fM=none:=if_neg (λ⟨N,V⟩=>by
  rcases h3 with⟨aQ,b7⟩|aQ;·rw[wD,aQ,b7]at N;cases N
  ·exact aQ V)
  apply(mD);exact dU ⟨fM+1,KH g0 D (DD)⟩
 exact aZX
abbrev Zf(x:Option Int):Value:=.tuple #[.int .i64 (x.getD 0),.bool x.isSome]
def aMC{ps:List Int}(h:qY ps)(up:Bool)(k:Nat):0<=tY up (ps.getD k 0):=(Zt (h.get k)).1
def bGU{a:bR}{s:cE}{o:gZ}{l:List Int}{k:Nat}{A:aP}{R:aJ}{DN:Value}(wI:DN=(⟨o,l⟩:J Int).val)(h:Jw a s l k R)(jN:sN ((⟨o,l⟩:J Int).L 3 aL) A)(hok:(⟨o,l⟩:J Int).ok 1 aL):
 aI prog 296 [a.val,s.val,DN,.int .i64 (k:Int)].toArray A R (λw E G=>w=Zf (DV a s true l k)/\A=E/\R=G):=by subst wI;refine aI.Ia jN hok ((b81 a s (⟨o,l⟩:J Int).U k [] _ ⟨IY h.bU λr M=>aM (.tail _ M),PV h.set λr M=>aM (.tail _ M),h.ok,h.C4,h.len,h.bY,h.v⟩ n1).mono ?_);exact aZo
def b2J{a:bR}{s:cE}{o:gZ}{l:List Int}{k:Nat}{A:aP}{R:aJ}{DN:Value}(wI:DN=(⟨o,l⟩:J Int).val)(h:Jw a s l k R)(jN:sN ((⟨o,l⟩:J Int).L 3 aL) A)(hok:(⟨o,l⟩:J Int).ok 1 aL):
 aI prog 297 [a.val,s.val,DN,.int .i64 (k:Int)].toArray A R (λw E G=>w=Zf (DV a s false l k)/\A=E/\R=G):=by subst wI;refine aI.Ia jN hok ((b89 a s (⟨o,l⟩:J Int).U k [] _ ⟨IY h.bU λr M=>aM (.tail _ M),PV h.set λr M=>aM (.tail _ M),h.ok,h.C4,h.len,h.bY,h.v⟩ n1).mono ?_);exact aZg
def aMX(a:bR)(s:cE)(ps:a0 Int)(up:Bool)(A:List Bool)(L:aP)(R:aJ)(hm:nT a R)(hs:o2 s R)(nG:aH (cZ ps) R)(gI:hO a=0->lS a.Y A):
 aI prog 284 [a.val,s.val,ps.val,.bool up].toArray L R (λw E G=>∃p:J Int,w=.tuple #[p.val,.int .i64 (i5 a s A up ps.l).1]/\p.ok 1 aL/\p.l=(i5 a s A up ps.l).2/\p.L 3 aL++L=E/\R=G):=by
 have EB:=hm.places;refine bW 79 call284 func284 ?_;apply(c8);intro cT;apply(iU);intro eH;apply jS∘g7∘WU;refine cC rfl (b86 a s ps A _ _ hm hs nG gI) ?_;apply(kB);apply(W)<;>intro aO;·apply yF∘jS∘z1;refine bN L R B8 ?_;exact⟨J.nil,by rw[i5,if_pos aO];rfl,J.g6,by rw[i5,if_pos aO],by rw[lT,m0],rfl⟩
 have xT:=a5c.1 (show xD a s ps.l A=0 by omega);have hok:=zE xT.bQ;have rT:=Ry xT.hf;have yP:=gI xT.bQ;have kD:=xT.hl;have q9:=hok.Y.places;have Ov:i5 a s A up ps.l=match wU a s A up 200 ps.l with
  |none=>(2,[])
  |some l=>(0,l):=by rw[i5,if_neg aO]<;>rfl
 apply(G1);refine gO b0q rfl ?_;rintro v E G ⟨AS,rfl,aFC,rfl,rfl⟩;apply vG∘CM;refine cK aIZ ?_;rintro v E G ⟨p,NT,rfl,iB,uF,eB,rfl,rfl⟩;obtain rfl:A=NT:=yP.Iu uF;have a1v:p.l.length=a.Y.places.l.length:=by rw[eB];exact aBZ a.Y A
 apply(KJ);refine W3 λc w cI=>⟨_,_,cI.DJ YM,?_⟩;apply(OG);refine c7 [(3,.bool _),(4,.pointer _),(5,.pointer _),(11,.slice _ _ _),(12,.slice _ _ _),(13,.int _ _)] bP λeZ=>?_;refine kO ([8,9,13,14,15,16,17]++b4 30 49) ((⟨λq=>[(13,.int .i64 ((q.1.1:Nat):Int))],λq=>p.L 4 jF++((⟨AS,q.1.2⟩:J Int).L 3 aL++(⟨eH,s.cells,80⟩::⟨cT,a.cells,32⟩::L)),λ_=>R,λq=>200-q.1.1⟩:dV {q:Nat×List Int//q.1<=200/\wU a s A up 200 ps.l=wU a s A up (200-q.1) q.2/\q.2.length=ps.l.length/\qY q.2/\(⟨AS,q.2⟩:J Int).ok 1 aL})) (⟨(0,ps.l),by dsimp only;omega,rfl,rfl,xT.hp,aFC⟩) ?_;rintro⟨⟨n,l⟩,s4,fT,mZ,NK,ES⟩ bZ;try dsimp only
 dsimp only at s4 fT mZ NK ES;apply A7∘D1;apply(W)<;>intro bF;·
  have aDn:200-n=(200-(n+1))+1:=by omega
  rw[aDn]at fT;apply j7∘IQ∘mM;refine zY ([8,9,13,14,15,16,17]++b4 30 49) AZ [(13,.int _ _),(14,.bool _),(15,.int _ _)] bP λnS=>?_;refine mC ([8,9,14,15,16,17]++b4 34 42) ((⟨λq=>[(15,.int .i64 ((q.1.1:Nat):Int)),(14,.bool (decide (q.1.2≠l)))],λq=>p.L 4 jF++((⟨AS,q.1.2⟩:J Int).L 3 aL++(⟨eH,s.cells,80⟩::⟨cT,a.cells,32⟩::L)),λ_=>R,λq=>ps.l.length-q.1.1⟩:dV {q:Nat×List Int//q.1<=ps.l.length/\J5 a s A up l q.1 q.2/\(⟨AS,q.2⟩:J Int).ok 1 aL})) (⟨(0,l),by dsimp only;omega,.zero NK,ES⟩) ⟨rfl,by simp;rfl,trivial⟩ a2 fF ?_;rintro⟨⟨i,m⟩,nK,fB,kF⟩ bZ;try dsimp only
  dsimp only at nK fB kF;have pX:=fB.len;apply(uA);apply(W)<;>intro b2;·
   obtain⟨Lt,FY⟩:∃Lt,Lt=wD a A i:=⟨_,rfl⟩;(have BT:p.l[i]?=some Lt:=by rw[eB,FY];exact a3K D);have xR:=bJ m i 0;refine dK (aZ (a6 (e3 (a6 (a6 (cR ?_))))));apply(h7);refine aG (h4 O (p) _ rfl rfl rfl rfl bC (i:=i) cW iC) ?_;apply aQB∘b3;apply(W)<;>intro dZ;·have Q9:wD a A i=true:=FY▸dZ;refine lC (lB (lA (aZ (cR ?_))));apply(N7);exact aXN
   (have Q9:¬wD a A i=true:=by rw[<-FY,dZ];decide);have a6H:Jw a s m i R:=⟨hm,hs,hok,rT,by omega,fB.bY,by omega⟩;apply eR∘Lg∘c9∘b3;apply(W)<;>intro dX;·have EE:up=true:=dX;apply eK∘wW∘h7;refine cC rfl (bGU (o:=AS) (l:=m) ((show _=Value.slice _ _ _ from rfl).trans a2T) a6H x8 kF) ?_;exact aV8
   (have EE:up=false:=by simpa using dX);apply eK∘wW∘h7;refine cC rfl (b2J (o:=AS) (l:=m) ((show _=Value.slice _ _ _ from rfl).trans a2T) a6H x8 kF) ?_;exact aV8
  obtain rfl:i=ps.l.length:=by omega
  have HN:=fB.to;rw[kD]at HN;apply oD∘WK;apply(W)<;>intro hW;·(have K8:m=l:=by simpa using hW);(have HL:i5 a s A up ps.l=(0,m):=by rw[Ov,fT,K8,aKB (by rw[<-K8]at HN|-;exact HN)]);apply cO∘hM∘jS∘WI;refine bN ((⟨AS,m⟩:J Int).L 3 aL++L) R B8 ?_;exact⟨⟨AS,m⟩,by rw[HL];simp only[J.val,pX,mZ],kF,by rw[HL],rfl,rfl⟩
  have K8:m≠l:=by simpa using hW
  apply(mD);exact dU ⟨(n+1,m),by dsimp only;omega,fT.trans (aMl HN K8),pX.trans mZ,fB.bY,kF⟩
 obtain rfl:n=200:=by omega
 have HL:i5 a s A up ps.l=(2,[]):=by rw[Ov,fT];rfl
 apply oD∘jS∘q3;refine bN L R B8 ?_;exact aPz
def b4Q(a:bR)(s:cE)(ps:a0 Int)(A:List Bool)(L:aP)(R:aJ)(hm:nT a R)(hs:o2 s R)(nG:aH (cZ ps) R)(gI:hO a=0->lS a.Y A):
 aI prog 254 [a.val,s.val,ps.val].toArray L R (λw E G=>∃p:J Int,w=.tuple #[p.val,.int .i64 (i5 a s A true ps.l).1]/\p.ok 1 aL/\p.l=(i5 a s A true ps.l).2/\p.L 3 aL++L=E/\R=G):=by refine bW 14 call254 func254 ?_;apply(c8);intro dG;apply(iU);intro cT;apply jS∘mL∘WU;refine cK (aMX a s ps true A _ _ hm hs nG gI) ?_;exact aZf
def b5a(a:bR)(s:cE)(ps:a0 Int)(A:List Bool)(L:aP)(R:aJ)(hm:nT a R)(hs:o2 s R)(nG:aH (cZ ps) R)(gI:hO a=0->lS a.Y A):
 aI prog 253 [a.val,s.val,ps.val].toArray L R (λw E G=>∃p:J Int,w=.tuple #[p.val,.int .i64 (i5 a s A false ps.l).1]/\p.ok 1 aL/\p.l=(i5 a s A false ps.l).2/\p.L 3 aL++L=E/\R=G):=by refine bW 14 call253 func253 ?_;apply(c8);intro dG;apply(iU);intro cT;apply jS∘mL∘WU;refine cK (aMX a s ps false A _ _ hm hs nG gI) ?_;exact aZf
def aBm(h:B:=by exact⟨J.nil,J.nil,by rw[xU];rfl,J.g6,J.g6,by rw[xU],by rw[xU],by rw[lT,m0,m0],rfl⟩):=h
def aPD{aV:Type}{f:aV->List Value}{z:List Value}{b n:Nat}{T:TypeId}{x:aV}{A:aP}(eC:z=f x):sN ((⟨.own b n [],List.replicate n x⟩:J aV).L T f) (⟨b,CX z n,T⟩::A):=by rw[XA eC A];exact aL7
def aJB{a:bR}{s:cE}{q:J Int}{A:List Bool}{L:aP}{R:aJ}{DN:Value}(wI:DN=q.val)(hm:nT a R)(hs:o2 s R)(gI:hO a=0->lS a.Y A)(jN:sN (q.L 3 aL) L)(hok:q.ok 1 aL):
 aI prog 253 [a.val,s.val,DN].toArray L R (λw E G=>∃p:J Int,w=.tuple #[p.val,.int .i64 (i5 a s A false q.l).1]/\p.ok 1 aL/\p.l=(i5 a s A false q.l).2/\p.L 3 aL++L=E/\R=G):=by subst wI;have V:=aI.Hz (S:=[cZ q.U]) (Post:=λv E=>∃p:J Int,v=.tuple #[p.val,.int .i64 (i5 a s A false q.l).1]/\p.ok 1 aL/\p.l=(i5 a s A false q.l).2/\p.L 3 aL++[]=E) (y8.aB (L:=L)) (λw aC bX s hs=>by rw[List.mem_singleton.1 hs];exact HA bX jN hok bI bH lQ) ((b5a a s q.U A [] _ (IY hm λr h=>aM (.tail _ h)) (PV hs λr h=>aM (.tail _ h)) n1 gI).mono λv E G ⟨p,j5,kK,lV,q5,AC⟩=>⟨⟨p,j5,kK,lV,q5⟩,AC⟩);exact b02
def b8u(a:bR)(s:cE)(A:List Bool)(L:aP)(R:aJ)(hm:nT a R)(hs:o2 s R)(gI:hO a=0->lS a.Y A)(q9:a.Y.places.l.length<=64):
 aI prog 209 [a.val,s.val].toArray L R (λw E G=>∃b6 aA:J Int,w=.tuple #[.agg #[b6.val,aA.val],.int .i64 (sX a s A).1]/\b6.ok 1 aL/\aA.ok 1 aL/\b6.l=(sX a s A).2.1/\aA.l=(sX a s A).2.2/\b6.L 3 aL++(aA.L 3 aL++L)=E/\R=G):=by
 have EB:=hm.places;have aGW:∀b,(⟨.own b a.Y.places.l.length [],List.replicate a.Y.places.l.length 0⟩:J Int).ok 1 aL:=λb=>Sy bI Qn;refine bW 50 call209 func209 ?_;apply(c8);intro cS;apply(iU);intro dG;apply(dA);intro cT;apply(zG);refine gJ O [0,1,2,3,4,5,6,7,8,9,10,11,12] ([a5.mk dG _ _,a5.mk cS _ _]) cX bE a2 ?_;apply ND∘YF∘OE;refine a4 vZ ?_;refine o4 a3o rfl rfl rfl ?_;rintro v E G ⟨I3,rfl,rfl,aD3⟩;replace aD3:=aD3.symm;subst aD3;apply(fS);refine q1 rfl (aJB (q:=⟨.own I3 a.Y.places.l.length [],List.replicate a.Y.places.l.length 0⟩) (aA8 (aV:=Int)).symm hm hs gI (aPD (f:=aL) (x:=0) rfl) (aGW I3)) rfl rfl ?_;rintro v E G ⟨p,rfl,iB,eB,rfl,rfl⟩;refine⟨a2,gN,?_⟩;replace eB:p.l=(i5 a s A false (List.replicate a.Y.places.l.length 0)).2:=eB;refine a4 iR ?_;refine a4 sL ?_;refine a4 sL ?_;refine a4 A0 ?_;apply(qD);refine gS (aZ (a6 (a6 ?_)));refine vF (A:=[]) (aR:=1) [] bI bH iB lQ ?_;refine mJ a3y ?_;have AQ:nT a (cZ p.U::R):=IY hm λr h=>aM (.tail _ h);have Ow:o2 s (cZ p.U::R):=PV hs λr h=>aM (.tail _ h);obtain⟨x,K⟩:∃x,x=i5 a s A false (List.replicate a.Y.places.l.length 0):=⟨_,rfl⟩;rw[<-K]at eB|-;apply(WS);apply(W)<;>intro aO;·
  apply ZX∘tZ;refine lJ (E:=L) (G:=R) Jp ?hp ?c2 ?bD;case hp=>(have xU:sX a s A=(x.1,[],[]):=by rw[sX];dsimp only;rw[<-K,if_pos aO]);exact aBm
  case c2=>exact a2
  case bD=>exact λr h=>aM (by simp[h])
 apply eR∘WU;refine cK (b4Q a s p.U A _ _ AQ Ow n1 gI) ?_;rintro v E G ⟨q,rfl,gG,gB,rfl,rfl⟩;replace gB:q.l=(i5 a s A true p.l).2:=gB;obtain⟨y,aN⟩:∃y,y=i5 a s A true p.l:=⟨_,rfl⟩;rw[<-aN]at gB|-;have UT:y=i5 a s A true x.2:=by rw[aN,eB]
 refine aG iR ?_;apply Fe∘TJ;apply(W)<;>intro bF;·
  apply ZX∘tZ;refine lJ (E:=L) (G:=R) Jp ?hp ?c2 ?bD;case hp=>(have xU:sX a s A=(y.1,[],[]):=by rw[sX];dsimp only;rw[<-K,if_neg aO,<-UT,if_pos bF]);exact aBm
  case c2=>exact a2
  case bD=>exact λr h=>aM (by simp[h])
 apply eR∘WU;refine cK (aJB (q:=q) rfl AQ Ow gI x8 gG) ?_;rintro v E G ⟨u,rfl,aTW,Vh,rfl,rfl⟩;obtain⟨z,eC⟩:∃z,z=i5 a s A false q.l:=⟨_,rfl⟩;rw[<-eC]at Vh|-;have X6:z=i5 a s A false y.2:=by rw[eC,gB]
 refine aG iR ?_;apply Fe∘TJ;apply(W)<;>intro b2;·
  apply ZX∘tZ;refine lJ (E:=L) (G:=R) Jp ?hp ?c2 ?bD;case hp=>(have xU:sX a s A=(z.1,[],[]):=by rw[sX];dsimp only;rw[<-K,if_neg aO,<-UT,if_neg bF,<-X6,if_pos b2]);exact aBm
  case c2=>exact a2
  case bD=>exact λr h=>aM (by simp[h])
 apply G1∘hM;refine aG a9s ?_;apply(pI);refine lJ (E:=u.L 3 aL++(q.L 3 aL++L)) (G:=R) Jp ?hp ?c2 ?bD;case hp=>exact b0m
 case c2=>exact a2
 case bD=>exact λr h=>aM (by simp[h])
end
end Go.Proofs.YtchfclmokpbldaaGreat
