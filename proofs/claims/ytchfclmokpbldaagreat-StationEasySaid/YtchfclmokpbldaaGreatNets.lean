-- By an AI agent; no person has read it.
import Derived.Test.YtchfclmokpbldaaGreatFits
import Derived.Test.YtchfclmokpbldaaGreatDraws
set_option linter.all false
set_option maxHeartbeats 4000000
variable{A B:Prop}
def MR(h:A->B:=by exact bE oS rfl rfl rfl):=h
def Zu(h:A->B:=by exact gZ N [0,1,2,3,4,5,6,7,8,9,10,11,12,13,14,15,16,17] _ dO bI hA):=h
def a0s(h:A->B:=by exact bE aQx rfl rfl rfl):=h
def a0f(h:A->B:=by exact bE aQB rfl rfl rfl):=h
def a05(h:A->B:=by exact aI X1 rfl):=h
def Yt(h:A->B:=by exact hT aRi rfl):=h
def a6X(h:A->B:=by exact aI (jA N ((⟨oP,ps.l.set u.toNat start⟩:J Int)) _ rfl rfl ((show _=Value.slice _ _ _ from rfl).trans RO) rfl bR (i:=u.toNat) dA jC) rfl):=h
def a5q(h:A->B:=by exact aI (tK N ((⟨oP,ps.l.set u.toNat start⟩:J Int)) rfl rfl rfl cF bR bD bR aB) rfl):=h
def a0t(h:A->B:=by exact aI (jA N ((⟨oP,ps.l.set u.toNat y⟩:J Int)) _ rfl rfl ((show _=Value.slice _ _ _ from rfl).trans RO) rfl bR (i:=u.toNat) dA jC) rfl):=h
def a53(h:A->B:=by exact aI (jA N ((⟨oP,ps.l.set u.toNat w⟩:J Int)) _ rfl rfl ((show _=Value.slice _ _ _ from rfl).trans RO) rfl bR (i:=u.toNat) dA jC) rfl):=h
def a50(h:A->B:=by exact aI (tK N ((⟨oP,ps.l.set u.toNat w⟩:J Int)) rfl rfl rfl cF bR bD bR aB) rfl):=h
def a0x(h:A->B:=by exact aI (jA N ((⟨oP,ps.l.set u.toNat oO⟩:J Int)) _ rfl rfl ((show _=Value.slice _ _ _ from rfl).trans RO) rfl bR (i:=u.toNat) dA jC) rfl):=h
def a08(h:A->B:=by exact aI (tK N ((⟨oP,ps.l.set u.toNat oO⟩:J Int)) rfl rfl rfl cF bR bD bR aB) rfl):=h
def aGN(h:A->B:=by exact aI (by first|exact j4 N rfl rfl rfl rfl i9 (i:=v.toNat) dA D|exact i5 N rfl rfl rfl rfl (i:=v.toNat) dA D) rfl):=h
def aKq(h:A->B:=by exact aI (by first|exact j4 N rfl rfl rfl rfl i9 (i:=e.toNat) dA D|exact i5 N rfl rfl rfl rfl (i:=e.toNat) dA D) rfl):=h
def aGr(h:A->B:=by exact bE (by first|exact j4 N rfl rfl rfl rfl i9 (i:=p.cV.cR.toNat) dA D|exact i5 N rfl rfl rfl rfl (i:=p.cV.cR.toNat) dA D) rfl rfl rfl):=h
def aEI(h:A->B:=by exact bE (by first|exact j4 N rfl rfl rfl rfl i9 (i:=p.cV.to.toNat) dA D|exact i5 N rfl rfl rfl rfl (i:=p.cV.to.toNat) dA D) rfl rfl rfl):=h
def aLm(h:A->B:=by exact aI pL rfl):=h
def aKX(h:A->B:=by exact kB aDe rfl rfl):=h
def aD8(h:A->B:=by exact kB Wr rfl rfl):=h
def aKG(h:A->B:=by exact aI (jA N ((⟨o,ps.set u.toNat y⟩:J Int)) _ rfl rfl ((show _=Value.slice _ _ _ from rfl).trans RO) rfl bR (i:=u.toNat) dA jC) rfl):=h
def aG5(h:A->B:=by exact jH (j5 N ((⟨o,ps.set u.toNat y⟩:J Int)) (x) rfl rfl rfl rfl cF bR bD bR aW aB aB)):=h
def aFx(h:A->B:=by exact aI (by first|exact j4 N rfl rfl rfl rfl i9 (i:=u.toNat) dA D|exact i5 N rfl rfl rfl rfl (i:=u.toNat) dA D) rfl):=h
def aJN(h:A->B:=by exact eM (show _=(⟨oP,ps.l.set u.toNat start⟩:J Int).L 3 a1++(⟨gQ,s.cells,80⟩::⟨eD,a.cells,32⟩::L)from by rw[aM8];rfl)):=h
def aTY(h:B:=by exact⟨start,true,rfl,⟨λ_=>⟨0,by omega,by rw[Ak];omega,by simp,by rw[decide_eq_true_eq];exact aQ,λj O X=>by omega⟩,λh=>by cases h⟩,rfl,rfl⟩):=h
def aET(h:A->B:=by exact aI (tK N ((⟨oP,ps.l.set u.toNat y⟩:J Int)) rfl rfl rfl cF bR bD bR aB) rfl):=h
def aGT(h:A->B:=by exact aI (jA N ((⟨oP,ps.l.set u.toNat z⟩:J Int)) _ rfl rfl ((show _=Value.slice _ _ _ from rfl).trans RO) rfl bR (i:=u.toNat) dA jC) rfl):=h
def aKW(h:A->B:=by exact jH (j5 N ((⟨oP,ps.l.set u.toNat z⟩:J Int)) ((b5+(aE-b5).tdiv 2)) rfl rfl rfl rfl cF bR bD bR aW aB aB)):=h
namespace Go.Proofs.YtchfclmokpbldaaGreat
open Go.Aw Go Go.Proofs.Tryz
def r8(a:b3)(ps:List Int)(k:Nat):Int:=ps.getD (a.aC.aJ.l.getD k default).cR.toNat 0-ps.getD (a.aC.aJ.l.getD k default).to.toNat 0
def AD(F Z:(Int->bC)->Int->Int)(a:b3)(s:cS)(ps:List Int)(v:Int)(k:Nat):Int:=
 if(a.aC.aJ.l.getD k default).eJ=true then 0
 else if(a.aC.aJ.l.getD k default).cR=v then F (mN a s k) (r8 a ps k)
 else if(a.aC.aJ.l.getD k default).to=v then -(Z (mN a s k) (r8 a ps k))else 0
def w5(F Z:(Int->bC)->Int->Int)(a:b3)(s:cS)(ps:List Int)(v:Int):Nat->Int
 |0=>0
 |k+1=>w5 F Z a s ps v k+AD F Z a s ps v k
def yO(a:b3)(s:cS)(ps:List Int)(v:Int):Int:=w5 rN rO a s ps v a.aC.aJ.l.length
def yN(a:b3)(s:cS)(ps:List Int)(v:Int):Int:=w5 rO rN a s ps v a.aC.aJ.l.length
structure Ends(F:(Int->bC)->Int->Int)(a:b3)(s:cS):Prop where
 tT:∀k:Nat,k<a.aC.aJ.l.length->∀p,-1048577<=F (mN a s k) p/\F (mN a s k) p<=1048577
def VG{a:b3}{s:cS}(bT:p3 a):Ends rN a s:=⟨λk aG p=>by have:=(a6q (s:=s) bT (r:=(k:Int)) D p).tT;omega⟩
def U3{a:b3}{s:cS}(bT:p3 a):Ends rO a s:=⟨λk aG p=>by have:=(a6c (s:=s) bT (r:=(k:Int)) D p).tT;omega⟩
section
variable{F Z:(Int->bC)->Int->Int}{a:b3}{s:cS}{ps:List Int}{v:Int}
def aKj(kN:Ends F a s)(n7:Ends Z a s){k:Nat}(aG:k<a.aC.aJ.l.length):-1048577<=AD F Z a s ps v k/\AD F Z a s ps v k<=1048577:=by
 have O:=kN.tT k aG (r8 a ps k);have X:=n7.tT k aG (r8 a ps k);unfold AD;split;·omega
 ·
  split;·exact O
  ·split<;>omega
def a52(kN:Ends F a s)(n7:Ends Z a s): ∀k:Nat,k<=a.aC.aJ.l.length-> -(1048577*(k:Int))<=w5 F Z a s ps v k/\w5 F Z a s ps v k<=1048577*(k:Int)
 |0,_=>by simp[w5]
 |k+1,aG=>by
  have c6:=a52 kN n7 k D
  have h:=aKj (ps:=ps) (v:=v) kN n7 (k:=k) D
  rw[w5]
  omega
def z9(F Z:(Int->bC)->Int->Int)(a:b3)(s:cS)(ps:List Int)(v:Int)(n:Nat):List Int->Int
 |[]=>0
 |e::l=>z9 F Z a s ps v n l+AD F Z a s ps v ((pD a n).getD e.toNat 0)
def aFH(n:Nat)(l m:List Int):z9 F Z a s ps v n (l++m)=z9 F Z a s ps v n l+z9 F Z a s ps v n m:=by
 induction l with
 |nil=>simp[z9]
 |cons e l c6=>rw[pK,z9,z9,c6];omega
def a65(a:b3){k:Nat}: ∀{n:Nat},k<=n->∃m,pD a n=pD a k++m
 |0,h=>⟨[],by rw[show k=0 by omega];rfl⟩
 |n+1,h=>by
  rcases hF n k with c4|c4
  ·exact⟨[],by rw[show k=n+1 by omega];simp⟩
  ·obtain⟨m,a3⟩:=a65 a (k:=k) (n:=n) c4
   rw[pD]
   split
   ·exact⟨m,a3⟩
   ·exact⟨m++[n],by rw[a3,oB]⟩
def aIo(a:b3){k n:Nat}(aG:k<n)(cG:¬(a.aC.aJ.l.getD k default).eJ=true):(pD a n).getD (pD a k).length 0=k:=by obtain⟨m,a3⟩:=a65 a (show k+1<=n from aG);rw[a3,pD,if_neg cG,oB,m8,Nv (iK _)];simp
def a7c(n:Nat){v:Nat}: ∀k,k<=n->z9 F Z a s ps v n (HZ a v k)=w5 F Z a s ps v k
 |0,_=>rfl
 |k+1,aG=>by
  have c6:=a7c n (v:=v) k D
  rw[HZ,w5]
  split
  ·rename_i cG
   rw[c6,AD,if_pos cG];omega
  ·rename_i cG
   split
   ·rename_i cY
    rw[aFH,c6,z9,z9,xP,aIo a D cG]
    omega
   ·rename_i cY
    rw[c6,AD,if_neg cG,if_neg (λh=>cY (.inl h)),if_neg (λh=>cY (.inr h))];omega
def a1h(a:b3){v:Nat}: ∀k,∀e∈HZ a v k,∃i:Nat,i<k/\e=((pD a i).length:Int)/\¬(a.aC.aJ.l.getD i default).eJ=true/\((a.aC.aJ.l.getD i default).cR=(v:Int)\/(a.aC.aJ.l.getD i default).to=(v:Int))
 |0,e,h=>by cases h
 |k+1,e,h=>by
  rw[HZ]at h
  split at h
  ·obtain⟨i,O,X⟩:=a1h a k e h;exact⟨i,by omega,X⟩
  ·rename_i cG
   split at h
   ·rename_i cY
    rcases List.mem_append.1 h with h|h
    ·obtain⟨i,O,X⟩:=a1h a k e h;exact⟨i,by omega,X⟩
    ·rw[List.mem_singleton.1 h];exact⟨k,by omega,rfl,cG,cY⟩
   ·obtain⟨i,O,X⟩:=a1h a k e h;exact⟨i,by omega,X⟩
end
structure Zl(F:(Int->bC)->Int->Int)(a:b3)(s:cS):Prop where
 mono:∀k:Nat,k<a.aC.aJ.l.length->∀p q:Int,p<=q->F (mN a s k) p<=F (mN a s k) q
def aEv{a:b3}{s:cS}(bT:p3 a):Zl rN a s:=⟨λk aG p q h=>aWr (s:=s) bT (r:=(k:Int)) D h⟩
def aFT{a:b3}{s:cS}(bT:p3 a):Zl rO a s:=⟨λk aG p q h=>b0X (s:=s) bT (r:=(k:Int)) D h⟩
structure Xv(ps iD:List Int)(v:Int):Prop where
 own:ps.getD v.toNat 0<=iD.getD v.toNat 0
 aD:∀k:Nat,k≠v.toNat->iD.getD k 0<=ps.getD k 0
def a4r{F Z:(Int->bC)->Int->Int}{a:b3}{s:cS}{ps iD:List Int}{v:Int}(bT:p3 a)(kN:Zl F a s)(n7:Zl Z a s)(h:Xv ps iD v): ∀k:Nat,k<=a.aC.aJ.l.length->w5 F Z a s ps v k<=w5 F Z a s iD v k
 |0,_=>pJ _
 |k+1,aG=>by
  have c6:=a4r bT kN n7 h k D
  have mJ:=bT.aC.cV k _ X4
  have O:=mJ.cR
  have X:=mJ.to
  have aU:=mJ.ne
  have dG:=h.own
  rw[w5,w5,AD,AD]
  split
  ·omega
  ·split
   ·rename_i aF
    have M:=h.aD (a.aC.aJ.l.getD k default).to.toNat D
    have:=kN.mono k D (r8 a ps k) (r8 a iD k) (by rw[r8,r8,aF];omega)
    omega
   ·split
    ·rename_i aF fH
     have M:=h.aD (a.aC.aJ.l.getD k default).cR.toNat D
     have:=n7.mono k D (r8 a iD k) (r8 a ps k) (by rw[r8,r8,fH];omega)
     omega
    ·omega
def aUw{a:b3}{s:cS}{ps iD:List Int}{v:Int}(bT:p3 a)(h:Xv ps iD v):yO a s ps v<=yO a s iD v:=a4r bT (aEv bT) (aFT bT) h _ (iK _)
def aWe{a:b3}{s:cS}{ps iD:List Int}{v:Int}(bT:p3 a)(h:Xv ps iD v):yN a s ps v<=yN a s iD v:=a4r bT (aFT bT) (aEv bT) h _ (iK _)
def Ki{l:List Int}{k i:Nat}{v:Int}(aG:k<l.length):(l.set k v).getD i 0=if i=k then v else l.getD i 0:=by exact aCa
def aHc{ps:List Int}{v x y:Int}(cY:v.toNat<ps.length)(h:x<=y):Xv (ps.set v.toNat x) (ps.set v.toNat y) v:=
 ⟨by rw[Ki cY,Ki cY,if_pos rfl,if_pos rfl];exact h,λk aG=>by rw[Ki cY,Ki cY,if_neg aG,if_neg aG];exact pJ _⟩
def Dk{l:List Int}{k:Nat}:l.set k (l.getD k 0)=l:=by
 rcases hF k l.length with h|h;·have:=bJ (l:=l) (k:=k) 0 h;obtain⟨_,X⟩:=List.getElem?_eq_some_iff.1 this;rw[<-X,List.set_getElem_self]
 ·exact List.set_eq_of_length_le h
def pP(ps:List Int):Prop:=∀p∈ps,-70368744177664<=p/\p<=70368744177664
def pP.get{ps:List Int}(h:pP ps)(k:Nat):-70368744177664<=ps.getD k 0/\ps.getD k 0<=70368744177664:=by
 rcases hF k ps.length with c4|c4;·exact h _ (hV (bJ (l:=ps) 0 c4))
 ·rw[m8,uF c4];decide
def pP.set{ps:List Int}(h:pP ps)(k:Nat){x:Int}(K:-70368744177664<=x/\x<=70368744177664):pP (ps.set k x):=λp aP=>by
 rcases List.mem_or_eq_of_mem_set aP with O|O
 ·exact h p O
 ·rw[O];exact K
end Go.Proofs.YtchfclmokpbldaaGreat
namespace Go.Proofs.YtchfclmokpbldaaGreat
open Go.Aw Go Go.Proofs.Tryz
set_option maxRecDepth 20000
attribute [local irreducible] cQ dF dV aM cP eC e5 e1 e2 e6 eX e4 J.L
structure aTu(n:s5)(a:b3)(s:cS)(v:Int)(e:Int)(i:Nat)(p:lI):Prop where
 aE:i<a.aC.aJ.l.length
 W:0<=e/\e<n.lN.l.length
 get:n.lN.l[e.toNat]?=some p
 pY:(pD a a.aC.aJ.l.length).getD e.toNat 0=i
 is:Ji a s i p
 ok:Jj p
 drop:HK p=mN a s i
 eJ:¬(a.aC.aJ.l.getD i default).eJ=true
 aLB:(a.aC.aJ.l.getD i default).cR=v\/(a.aC.aJ.l.getD i default).to=v
 cR:p.cV.cR=(a.aC.aJ.l.getD i default).cR
 to:p.cV.to=(a.aC.aJ.l.getD i default).to
 cV:aGd a.aC.places.l.length (a.aC.aJ.l.getD i default)
def K5.entry{n:s5}{a:b3}{s:cS}(b1:K5 a s n)(bT:p3 a){v:Nat}{e:Int}(W:e∈HZ a v a.aC.aJ.l.length):∃(i:Nat) (p:lI),aTu n a s v e i p:=by
 obtain⟨i,aE,rfl,cG,cY⟩:=a1h a _ e W;have Z7:=aIo a aE cG;have i3:(pD a i).length<(pD a a.aC.aJ.l.length).length:=by obtain⟨m,a3⟩:=a65 a (show i+1<=a.aC.aJ.l.length from aE);rw[a3,pD,if_neg cG];simp only[l9,OW];omega
 have b7:(pD a a.aC.aJ.l.length)[(pD a i).length]?=some i:=by rw[bJ 0 i3,Z7]
 have a2j:=congrArg (λl=>l[(pD a i).length]?) b1.XG;simp only[pA,b7,Bw]at a2j;obtain⟨p,aP,lK⟩:=Option.map_eq_some_iff.1 a2j;have Mb:=b1.RB p (hV aP);rw[lK]at Mb;have b9L:=(List.getElem?_eq_some_iff.1 aP).1;refine⟨i,p,aE,by omega,by rw[xP];exact aP,by rw[xP];exact Z7,Mb,aHK bT D Mb,funext λq=>aF3 Mb q,cG,cY,?_,?_,bT.aC.cV i _ (bJ default aE)⟩;·rw[Mb.cV,xP]
 ·rw[Mb.cV,xP]
section
variable{F Z:(Int->bC)->Int->Int}{a:b3}{s:cS}{ps:List Int}{v:Int}
def aEZ{n:Nat}{l:List Int}{k:Nat}{e:Int}(W:l[k]?=some e):z9 F Z a s ps v n (l.take (k+1))=z9 F Z a s ps v n (l.take k)+AD F Z a s ps v ((pD a n).getD e.toNat 0):=by
 have:l.take (k+1)=l.take k++[e]:=by rw[ME,W];rfl
 rw[this,aFH,z9,z9];omega
def aTz{a:b3}{n:Nat}(b1:1<=n)(i:Nat):(pD a n).getD i 0<n:=by
 rcases hF i (pD a n).length with h|h;·have:=hV (bJ (l:=pD a n) 0 h);exact(Xz.1 this).1
 ·rw[m8,uF h];exact b1
def a5W(kN:Ends F a s)(n7:Ends Z a s)(b1:1<=a.aC.aJ.l.length): ∀l:List Int,-(1048577*(l.length:Int))<=z9 F Z a s ps v a.aC.aJ.l.length l/\z9 F Z a s ps v a.aC.aJ.l.length l<=1048577*(l.length:Int)
 |[]=>by simp[z9]
 |e::l=>by
  have c6:=a5W kN n7 b1 l
  have h:=aKj (ps:=ps) (v:=v) kN n7 (k:=(pD a a.aC.aJ.l.length).getD e.toNat 0) (aTz b1 _)
  rw[z9,wD]
  omega
end
def aL.V{x:a4 (a4 Int)}{R:aO}(h:aL (qA x) R){i:Nat}{y:a4 Int}(aE:x.l[i]?=some y):aL (dU y) R:=
 h.sub (.S3 (List.mem_map.2 ⟨y,hV aE,rfl⟩) .lT)
def aJq(n:s5)(a:b3)(s:cS)(ps:a4 Int)(v:Int)(L:aR)(R:aO)(GJ:aL (q3 n.lN) R)(WD:aL (qA n.l3) R)(nE:aL (dU ps) R)(b1:K5 a s n)(bT:p3 a)(aX:ps.l.length=a.aC.places.l.length)(a5:pP ps.l)(cY:0<=v/\v<a.aC.places.l.length):
 aM prog 241 [n.val,ps.val,.int .i64 v].toArray L R (λw E G=>w=.int .i64 (yO a s ps.l v)/\L=E/\R=G):=by
 obtain⟨x,K⟩:=jW (l:=n.l3.l) (k:=v.toNat) (by rw[b1.a1D];omega);have OA:=b1.l3 _ _ K;have b5Q:=aL.V WD K;have N7:=bT.aC.aJ;have b2F:=b1.a1D;have QZ:x.l.length<=a.aC.aJ.l.length:=by rw[OA];exact Qd a _ _
 refine b6 57 call241 func241 rfl rfl rfl ?_;apply(dB);intro eS;apply mO∘hH∘gK∘aGN∘jG∘u0∘VM;refine dS [(1,.slice _ _ _),(2,.int _ _),(3,.pointer _),(7,.int _ _),(16,.slice _ _ _),(17,.int _ _),(18,.int _ _)] bV λfK=>?_;refine gY ([7,9,10,11]++cN 18 38) (λg:{k:Nat//k<=x.l.length}=>[(7,.int .i64 (z9 rN rO a s ps.l v a.aC.aJ.l.length (x.l.take g.1))),(18,.int .i64 ((g.1:Nat):Int))]) (λg=>x.l.length-g.1) (⟨0,by omega⟩) ?_;rintro⟨k,aG⟩ cH;try dsimp only
 apply(h0);refine U ?_ ?_<;>intro aQ;·
  obtain⟨e,W⟩:=jW (l:=x.l) (k:=k) D;obtain⟨i,p,c5⟩:=b1.entry bT (v:=v.toNat) (e:=e) (by rw[<-OA];exact hV W);have b3l:=c5.W;have zD:=c5.get;have aAr:=aL.RB GJ zD;have mJ:=c5.cV;have N8:=mJ.cR;have TQ:=mJ.to;have TF:=c5.cR;have Fw:=c5.to;have aE:=c5.aE;have ES:=a5W (ps:=ps.l) (v:=v) (VG (s:=s) bT) (U3 (s:=s) bT) D (x.l.take k);have Ut:(x.l.take k).length<=k:=List.length_take_le _ _;have cT:=aEZ (F:=rN) (Z:=rO) (a:=a) (s:=s) (ps:=ps.l) (v:=v) (n:=a.aC.aJ.l.length) W;rw[c5.pY]at cT;have qU:=bJ (l:=ps.l) (k:=p.cV.cR.toNat) 0 D;have Ag:=bJ (l:=ps.l) (k:=p.cV.to.toNat) 0 D;have GB:=a5.get p.cV.cR.toNat;have C6:=a5.get p.cV.to.toNat;have Fu:r8 a ps.l i=ps.l.getD p.cV.cR.toNat 0-ps.l.getD p.cV.to.toNat 0:=by rw[r8,TF,Fw]
  have gA:=(VG (s:=s) bT).tT i aE (r8 a ps.l i);have Fy:=(U3 (s:=s) bT).tT i aE (r8 a ps.l i);rw[<-c5.drop,Fu]at gA Fy;rw[AD,if_neg c5.eJ,Fu,<-c5.drop,<-TF]at cT;have a9B:=c5.aLB;rw[<-TF,<-Fw]at a9B;apply j9∘GO∘VU∘gK∘aKq∘aB3∘dZ;intro i0;apply(HT);refine gZ N [0,1,2,3,4,5,6,7,8,9,10,11,12,13] _ dO bI hA ?_;apply MR∘LD∘aGr∘k4∘MR∘LD∘aEI∘k4∘vQ∘qV;refine g5 (a8 (bK (c2 ?_)));apply BM∘nJ;refine U ?_ ?_<;>intro bL;·rw[if_pos bL]at cT;apply tR∘Mx∘cE;refine cD rfl aTb ?_;exact(k3) a3N
  rw[if_neg bL,if_pos D]at cT;apply tR∘Mx∘cE;refine cD rfl aTf ?_;exact(j3) a3N
 obtain rfl:k=x.l.length:=by omega
 apply(PO);refine cX L R ?_;have e:=a7c (F:=rN) (Z:=rO) (a:=a) (s:=s) (ps:=ps.l) (v:=v.toNat) a.aC.aJ.l.length a.aC.aJ.l.length (iK _);rw[RF cY.1]at e;exact⟨by rw[yO,Hv,OA,e],rfl,rfl⟩
def aGB(n:s5)(a:b3)(s:cS)(ps:a4 Int)(v:Int)(L:aR)(R:aO)(GJ:aL (q3 n.lN) R)(WD:aL (qA n.l3) R)(nE:aL (dU ps) R)(b1:K5 a s n)(bT:p3 a)(aX:ps.l.length=a.aC.places.l.length)(a5:pP ps.l)(cY:0<=v/\v<a.aC.places.l.length):
 aM prog 242 [n.val,ps.val,.int .i64 v].toArray L R (λw E G=>w=.int .i64 (yN a s ps.l v)/\L=E/\R=G):=by
 obtain⟨x,K⟩:=jW (l:=n.l3.l) (k:=v.toNat) (by rw[b1.a1D];omega);have OA:=b1.l3 _ _ K;have b5Q:=aL.V WD K;have N7:=bT.aC.aJ;have b2F:=b1.a1D;have QZ:x.l.length<=a.aC.aJ.l.length:=by rw[OA];exact Qd a _ _
 refine b6 57 call242 func242 rfl rfl rfl ?_;apply(dB);intro eS;apply mO∘hH∘gK∘aGN∘jG∘u0∘VM;refine dS [(1,.slice _ _ _),(2,.int _ _),(3,.pointer _),(7,.int _ _),(16,.slice _ _ _),(17,.int _ _),(18,.int _ _)] bV λfK=>?_;refine gY ([7,9,10,11]++cN 18 38) (λg:{k:Nat//k<=x.l.length}=>[(7,.int .i64 (z9 rO rN a s ps.l v a.aC.aJ.l.length (x.l.take g.1))),(18,.int .i64 ((g.1:Nat):Int))]) (λg=>x.l.length-g.1) (⟨0,by omega⟩) ?_;rintro⟨k,aG⟩ cH;try dsimp only
 apply(h0);refine U ?_ ?_<;>intro aQ;·
  obtain⟨e,W⟩:=jW (l:=x.l) (k:=k) D;obtain⟨i,p,c5⟩:=b1.entry bT (v:=v.toNat) (e:=e) (by rw[<-OA];exact hV W);have b3l:=c5.W;have zD:=c5.get;have aAr:=aL.RB GJ zD;have mJ:=c5.cV;have N8:=mJ.cR;have TQ:=mJ.to;have TF:=c5.cR;have Fw:=c5.to;have aE:=c5.aE;have ES:=a5W (ps:=ps.l) (v:=v) (U3 (s:=s) bT) (VG (s:=s) bT) D (x.l.take k);have Ut:(x.l.take k).length<=k:=List.length_take_le _ _;have cT:=aEZ (F:=rO) (Z:=rN) (a:=a) (s:=s) (ps:=ps.l) (v:=v) (n:=a.aC.aJ.l.length) W;rw[c5.pY]at cT;have qU:=bJ (l:=ps.l) (k:=p.cV.cR.toNat) 0 D;have Ag:=bJ (l:=ps.l) (k:=p.cV.to.toNat) 0 D;have GB:=a5.get p.cV.cR.toNat;have C6:=a5.get p.cV.to.toNat;have Fu:r8 a ps.l i=ps.l.getD p.cV.cR.toNat 0-ps.l.getD p.cV.to.toNat 0:=by rw[r8,TF,Fw]
  have gA:=(U3 (s:=s) bT).tT i aE (r8 a ps.l i);have Fy:=(VG (s:=s) bT).tT i aE (r8 a ps.l i);rw[<-c5.drop,Fu]at gA Fy;rw[AD,if_neg c5.eJ,Fu,<-c5.drop,<-TF]at cT;have a9B:=c5.aLB;rw[<-TF,<-Fw]at a9B;apply j9∘GO∘VU∘gK∘aKq∘aB3∘dZ;intro i0;apply(HT);refine gZ N [0,1,2,3,4,5,6,7,8,9,10,11,12,13] _ dO bI hA ?_;apply MR∘LD∘aGr∘k4∘MR∘LD∘aEI∘k4∘vQ∘qV;refine g5 (a8 (bK (c2 ?_)));apply BM∘nJ;refine U ?_ ?_<;>intro bL;·rw[if_pos bL]at cT;apply tR∘Mx∘cE;refine cD rfl aTf ?_;exact(k3) a3N
  rw[if_neg bL,if_pos D]at cT;apply tR∘Mx∘cE;refine cD rfl aTb ?_;exact(j3) a3N
 obtain rfl:k=x.l.length:=by omega
 apply(PO);refine cX L R ?_;have e:=a7c (F:=rO) (Z:=rN) (a:=a) (s:=s) (ps:=ps.l) (v:=v.toNat) a.aC.aJ.l.length a.aC.aJ.l.length (iK _);rw[RF cY.1]at e;exact⟨by rw[yN,Hv,OA,e],rfl,rfl⟩
def aI0(a:b3)(s:cS)(ps:a4 Int)(v:Int)(L:aR)(R:aO)(a3:mZ a R)(aH:pQ s R)(nE:aL (dU ps) R)(bT:p3 a)(aF:UQ a s)(aX:ps.l.length=a.aC.places.l.length)(a5:pP ps.l):
 aM prog 287 [a.val,s.val,ps.val,.int .i64 v].toArray L R (λw E G=>w=.int .i64 (yO a s ps.l v)/\L=E/\R=G):=by
 have N7:=bT.aC.aJ;have QR:=a3.aJ;refine b6 71 call287 func287 rfl rfl rfl ?_;apply(dB);intro eD;apply(iV);intro gQ;apply mO∘hH∘nP;refine dS [(2,.slice _ _ _),(3,.int _ _),(4,.pointer _),(5,.pointer _),(9,.int _ _),(10,.int _ _)] bV λfK=>?_;refine gY (cN 9 61) (λg:{k:Nat//k<=a.aC.aJ.l.length}=>[(9,.int .i64 (w5 rN rO a s ps.l v g.1)),(10,.int .i64 ((g.1:Nat):Int))]) (λg=>a.aC.aJ.l.length-g.1) (⟨0,by omega⟩) ?_;rintro⟨k,aG⟩ cH;try dsimp only
 apply FR∘e7∘Qw;refine U ?_ ?_<;>intro aQ;·
  have mJ:=bJ (l:=a.aC.aJ.l) (k:=k) default D;have IH:=bT.aC.cV _ _ mJ;have N8:=IH.cR;have TQ:=IH.to;have a2q:=IH.ne;have ES:=a52 (ps:=ps.l) (v:=v) (VG (s:=s) bT) (U3 (s:=s) bT) k aG;have qU:=bJ (l:=ps.l) (k:=(a.aC.aJ.l.getD k default).cR.toNat) 0 D;have Ag:=bJ (l:=ps.l) (k:=(a.aC.aJ.l.getD k default).to.toNat) 0 D;have GB:=a5.get (a.aC.aJ.l.getD k default).cR.toNat;have C6:=a5.get (a.aC.aJ.l.getD k default).to.toNat;have gA:=(VG (s:=s) bT).tT k D (r8 a ps.l k);have Fy:=(U3 (s:=s) bT).tT k D (r8 a ps.l k);rw[r8]at gA Fy;have cT:w5 rN rO a s ps.l v (k+1)=w5 rN rO a s ps.l v k+AD rN rO a s ps.l v k:=rfl;rw[AD,r8]at cT;apply j9∘BM∘aLm∘SR;intro H1;apply F0∘b9;refine U ?_ ?_<;>intro bL;·exact aQ2
  rw[if_neg MH]at cT;apply hN∘gK∘nJ;refine U ?_ ?_<;>intro cC;·rw[if_pos cC]at cT;apply Zu∘hK∘KI∘T7∘hK∘MR∘g7∘a0s∘k4∘MR∘g7∘a0f∘k4∘vQ;refine lW rfl aS3 ?_;apply GR∘qV;refine g5 (a8 (bK (c2 ?_)));apply gK∘nJ;exact aPl
  rw[if_neg cC]at cT;apply e0∘gK∘nJ;exact aPl
 obtain rfl:k=a.aC.aJ.l.length:=by omega
 exact(PO) Oa
def aFY(a:b3)(s:cS)(ps:a4 Int)(v:Int)(L:aR)(R:aO)(a3:mZ a R)(aH:pQ s R)(nE:aL (dU ps) R)(bT:p3 a)(aF:UQ a s)(aX:ps.l.length=a.aC.places.l.length)(a5:pP ps.l):
 aM prog 288 [a.val,s.val,ps.val,.int .i64 v].toArray L R (λw E G=>w=.int .i64 (yN a s ps.l v)/\L=E/\R=G):=by
 have N7:=bT.aC.aJ;have QR:=a3.aJ;refine b6 71 call288 func288 rfl rfl rfl ?_;apply(dB);intro eD;apply(iV);intro gQ;apply mO∘hH∘nP;refine dS [(2,.slice _ _ _),(3,.int _ _),(4,.pointer _),(5,.pointer _),(9,.int _ _),(10,.int _ _)] bV λfK=>?_;refine gY (cN 9 61) (λg:{k:Nat//k<=a.aC.aJ.l.length}=>[(9,.int .i64 (w5 rO rN a s ps.l v g.1)),(10,.int .i64 ((g.1:Nat):Int))]) (λg=>a.aC.aJ.l.length-g.1) (⟨0,by omega⟩) ?_;rintro⟨k,aG⟩ cH;try dsimp only
 apply FR∘e7∘Qw;refine U ?_ ?_<;>intro aQ;·
  have mJ:=bJ (l:=a.aC.aJ.l) (k:=k) default D;have IH:=bT.aC.cV _ _ mJ;have N8:=IH.cR;have TQ:=IH.to;have a2q:=IH.ne;have ES:=a52 (ps:=ps.l) (v:=v) (U3 (s:=s) bT) (VG (s:=s) bT) k aG;have qU:=bJ (l:=ps.l) (k:=(a.aC.aJ.l.getD k default).cR.toNat) 0 D;have Ag:=bJ (l:=ps.l) (k:=(a.aC.aJ.l.getD k default).to.toNat) 0 D;have GB:=a5.get (a.aC.aJ.l.getD k default).cR.toNat;have C6:=a5.get (a.aC.aJ.l.getD k default).to.toNat;have gA:=(U3 (s:=s) bT).tT k D (r8 a ps.l k);have Fy:=(VG (s:=s) bT).tT k D (r8 a ps.l k);rw[r8]at gA Fy;have cT:w5 rO rN a s ps.l v (k+1)=w5 rO rN a s ps.l v k+AD rO rN a s ps.l v k:=rfl;rw[AD,r8]at cT;apply j9∘BM∘aLm∘SR;intro H1;apply F0∘b9;refine U ?_ ?_<;>intro bL;·exact aQ2
  rw[if_neg MH]at cT;apply hN∘gK∘nJ;refine U ?_ ?_<;>intro cC;·rw[if_pos cC]at cT;apply Zu∘hK∘KI∘T7∘hK∘MR∘g7∘a0s∘k4∘MR∘g7∘a0f∘k4∘vQ;refine lW rfl aS8 ?_;apply GR∘qV;refine g5 (a8 (bK (c2 ?_)));apply gK∘nJ;exact aPm
  rw[if_neg cC]at cT;apply e0∘gK∘nJ;exact aPm
 obtain rfl:k=a.aC.aJ.l.length:=by omega
 exact(PO) Oa
abbrev l7(up:Bool):Int:=if up then 1 else -1
abbrev sF(up:Bool)(start:Int):Int:=if up then 70368744177664-start else start+70368744177664
structure UP(g:Int->Bool)(start:Int)(up:Bool)(v:Int)(ok:Bool):Prop where
 A9:ok=true->∃m,0<=m/\m<=sF up start/\v=start+l7 up*m/\g v=true/\∀j,0<=j->j<m->g (start+l7 up*j)=false
 no:ok=false->v=0/\∀j,0<=j->j<=sF up start->g (start+l7 up*j)=false
def Qa(g:Int->Bool)(start:Int)(up:Bool):Prop:=∀i j,0<=i->i<=j->j<=sF up start->g (start+l7 up*i)=true->g (start+l7 up*j)=true
def Qa.no{g:Int->Bool}{start:Int}{up:Bool}(h:Qa g start up){i j:Int}(b2:0<=i)(a9L:i<=j)(a6:j<=sF up start)(b7:g (start+l7 up*j)=false):g (start+l7 up*i)=false:=by
 cases e:g (start+l7 up*i)with
 |false=>rfl
 |true=>rw[h i j b2 a9L a6 e]at b7;cases b7
def Yh{up:Bool}{z:Int}(h:0<=z/\z<=281474976710656):-281474976710656<=l7 up*z/\l7 up*z<=281474976710656:=by cases up<;>simp only[l7]<;>simp<;>omega
def Yb{up:Bool}{start z:Int}(aH:-70368744177664<=start/\start<=70368744177664)(h:0<=z/\z<=sF up start):-70368744177664<=start+l7 up*z/\start+l7 up*z<=70368744177664:=by cases up<;>simp only[l7,sF]at h|- <;>simp at h|- <;>omega
def Pk{up:Bool}{start:Int}(aH:-70368744177664<=start/\start<=70368744177664):0<=sF up start/\sF up start<=140737488355328:=by cases up<;>simp[sF]<;>omega
def aJe(f:FuncId)(cap:Array Value)(MT:Int->aR)(g:Int->Bool)(start:Int)(up:Bool)(y:Int)(R:aO)(aH: -70368744177664<=start/\start<=70368744177664)(a3:Qa g start up)
 (cG:∀x y,-70368744177664<=x/\x<=70368744177664->aM prog f (.int .i64 x::cap.toList).toArray (MT y) R (λv E G=>v=.bool (g x)/\MT x=E/\R=G)):
 aM prog 278 [.int .i64 start,.bool up,.func (.func f) #[] cap].toArray (MT y) R (λv E G=>∃(z:Int) (ok:Bool) (aQj:Int),v=.tuple #[.int .i64 z,.bool ok]/\UP g start up z ok/\MT aQj=E/\R=G):=by
 have mJ:=Pk (up:=up) aH;have a8h:start+l7 up*0=start:=by simp
 refine b6 80 call278 func278 rfl rfl rfl ?_;apply m3∘F1;refine aI iL rfl ?_;apply(cE);refine US (Iy rfl rfl (cG start y aH)) rfl rfl ?_;rintro v E G ⟨rfl,rfl,rfl⟩;apply(b9);refine U ?_ ?_<;>intro aQ;·apply HO∘D6∘A3;refine bQ (MT start) R RG ?_;exact⟨start,true,start,rfl,⟨λ_=>⟨0,by omega,by omega,a8h.symm,aQ,λj O X=>by omega⟩,λh=>by cases h⟩,rfl,rfl⟩
 apply e0∘aIM∘dM∘hH∘SK;refine F3 [8,9,21,22] ((⟨λ_=>[(8,.int .i64 (l7 up)),(9,.int .i64 (sF up start))],λ_=>MT start,λ_=>R,λ_=>0⟩:fB Unit)) ?_ ?_;·
  skip
  refine U ?_ ?_<;>intro bL;·apply eB∘M7∘dM∘Dp;subst bL;exact wU ()
  refine eP ?_;subst bL;exact wU ()
 rintro u cH;try dsimp only
 apply m3∘x2;refine F3 ([10,11]++cN 23 16) ((⟨λg=>[(10,.int .i64 g.1.1),(11,.int .i64 g.1.2.1)],λg=>MT g.1.2.2,λ_=>R,λ_=>0⟩:fB {q:Int×Int×Int//(0<=q.1/\q.1<q.2.1/\q.2.1<=281474976710656)/\g (start+l7 up*q.1)=false/\(q.1=0\/q.1<sF up start)/\(q.2.1<sF up start->g (start+l7 up*q.2.1)=true)})) ?_ ?_;·
  refine fR ?_;refine FP ([10,11]++cN 23 16) G1 [(10,.int _ _),(11,.int _ _)] bV λfK=>?_;refine k2 ([10,11]++cN 23 16) ((⟨λg=>[(10,.int .i64 g.1.1),(11,.int .i64 g.1.2.1)],λg=>MT g.1.2.2,λ_=>R,λg=>(sF up start+1-g.1.1).toNat⟩:fB {q:Int×Int×Int//((q.1=0/\q.2.1=1)\/(1<=q.1/\q.2.1=q.1*2))/\g (start+l7 up*q.1)=false/\(q.1=0\/q.1<sF up start)})) (⟨(0,1,start),.inl ⟨rfl,rfl⟩,by rw[a8h];exact aQ,.inl rfl⟩) ?_;rintro⟨⟨AJ,V9,DJ⟩,a15,GB,a17⟩ cH;try dsimp only
  dsimp only at a15 GB a17;have Tk:=Yh (up:=up) (z:=V9) D;apply FR∘Y2;refine HC (k:=26) aY (λeR=>?_) (λeR=>?_);·
   replace eR:=bB eR;refine kB iL rfl rfl ?_;(iterate 3 refine kB zS rfl rfl ?_);apply aKX∘aD8;refine US (Iy rfl rfl (cG (start+l7 up*V9) DJ (Yb aH D))) rfl rfl ?_;rintro v E G ⟨rfl,rfl,rfl⟩;refine kB (NQ rfl) rfl rfl ?_;apply a05∘b9;refine U ?_ ?_<;>intro cC;·refine eP (a8 (bK (fR (c2 ?_))));apply cE∘dM∘RD∘ND∘Dp;exact eO ⟨(V9,V9*2,start+l7 up*V9),by dsimp only;omega,by simpa using cC,by dsimp only;omega⟩
   exact aRp
  replace eR:=bB eR;iterate 8 refine RU rfl rfl ?_
  apply a05∘b9;refine MX rfl ?_;exact aRp
 rintro⟨⟨AJ,V9,DJ⟩,a15,GB,a17,J6⟩ cH;try dsimp only
 dsimp only at a15 GB a17 J6;apply FR∘cE∘D7;refine F3 ([6,7,11]++cN 42 14) ((⟨λq=>[(11,.int .i64 q.1.1)],λq=>MT q.1.2,λ_=>R,λ_=>0⟩:fB {q:Int×Int//AJ<q.1/\q.1<=sF up start/\g (start+l7 up*q.1)=true})) ?_ ?_;·
  skip
  refine U ?_ ?_<;>intro dX;·
   apply HO∘x2;have Tk:=Yh (up:=up) (z:=sF up start) D;apply eB∘lD∘XK∘dE;refine HC (k:=46) aY (λeR=>?_) (λeR=>?_);·replace eR:=bB eR;(iterate 8 refine RU rfl rfl ?_);apply a05∘b9;refine vS rfl ?_;exact aOU
   replace eR:=bB eR;refine kB iL rfl rfl ?_;(iterate 3 refine kB zS rfl rfl ?_);apply aKX∘aD8;refine US (Iy rfl rfl (cG (start+l7 up*sF up start) DJ (Yb aH D))) rfl rfl ?_;rintro v E G ⟨rfl,rfl,rfl⟩;refine kB (NQ rfl) rfl rfl ?_;apply a05∘b9;refine U ?_ ?_<;>intro dY;·exact aOU
   refine eP ?_;exact wU ⟨(sF up start,start+l7 up*sF up start),by dsimp only;omega,by dsimp only;omega,by simpa using dY⟩
  refine eP ?_;exact wU ⟨(V9,DJ),by dsimp only;omega,by dsimp only;omega,J6 D⟩
 rintro⟨⟨b1N,MB⟩,b1S,b1T,aLO⟩ cH;try dsimp only
 dsimp only at b1S b1T aLO;refine bK (fR ?_);refine dS [(0,.int _ _),(2,_),(8,.int _ _),(10,.int _ _),(11,.int _ _)] bV λoA=>?_;refine k2 ([10,11,12]++cN 56 19) ((⟨λq=>[(10,.int .i64 q.1.1),(11,.int .i64 q.1.2.1)],λq=>MT q.1.2.2,λ_=>R,λq=>(q.1.2.1-q.1.1).toNat⟩:fB {q:Int×Int×Int//(0<=q.1/\q.1<q.2.1/\q.2.1<=sF up start)/\g (start+l7 up*q.1)=false/\g (start+l7 up*q.2.1)=true})) (⟨(AJ,b1N,MB),by dsimp only;omega,GB,aLO⟩) ?_;rintro⟨⟨b5,aE,Bs⟩,uB,fW,jU⟩ cH;try dsimp only
 dsimp only at uB fW jU;apply tD∘M7∘Dt;refine U ?_ ?_<;>intro h1;·
  obtain⟨oO,Ac⟩:∃oO,oO=b5+(aE-b5).tdiv 2:=⟨_,rfl⟩;have Tv:b5<oO/\oO<aE:=by rw[GY D]at Ac;omega
  have aMg:0<=(aE-b5).tdiv 2/\(aE-b5).tdiv 2<=aE-b5:=by rw[GY D];omega
  refine eP (a8 (fR (bK (c2 ?_))));iterate 3 apply(cE)
  apply j3∘L6∘k3∘x2;rw[<-Ac];have Tk:=Yh (up:=up) (z:=oO) D;apply(eB);refine aI iL rfl ?_;iterate 3 apply(cE)
  apply L5∘k3;refine US (Iy rfl rfl (cG (start+l7 up*oO) Bs (Yb aH D))) rfl rfl ?_;rintro v E G ⟨rfl,rfl,rfl⟩;apply(b9);refine U ?_ ?_<;>intro h2;·apply tR∘dM;refine eZ (hI ?_);exact eO ⟨(b5,oO,start+l7 up*oO),by dsimp only;omega,fW,h2⟩
  apply tR∘dM;refine eZ (hI ?_);exact eO ⟨(oO,aE,start+l7 up*oO),by dsimp only;omega,h2,jU⟩
 apply(Hk);have Tk:=Yh (up:=up) (z:=aE) D;apply(eB);iterate 3 apply(cE)
 apply L5∘k3∘dM∘uK;refine bQ (MT Bs) R RG ?_;exact⟨start+l7 up*aE,true,Bs,rfl,⟨λ_=>⟨aE,by omega,by omega,rfl,jU,λj O X=>a3.no O (show j<=b5 by omega) D fW⟩,λh=>by cases h⟩,rfl,rfl⟩
def aM.Av{P:Program}{f:FuncId}{args:Array Value}{A:aR}{R:aO}{p:J Int}{T:TypeId}{u:Value}(kG:xT (p.L T a1) A)(bH:p.ok 1 a1)
 (h:aM P f args [] (dU p.V::R) (λv E G=>v=u/\[]=E/\dU p.V::R=G)):aM P f args A R (λv E G=>v=u/\A=E/\R=G):=by have X:=aM.Mn (S:=[dU p.V]) (Post:=λv E=>v=u/\[]=E) (zZ.aD (L:=A)) (λw Z b4 s aH=>by rw[List.mem_singleton.1 aH];exact VF b4 kG bH bD aW e8) (h.mono λv E G ⟨k7,lJ,m4⟩=>⟨⟨k7,lJ⟩,m4⟩);exact aSe
def RO{o:g6}{l:List Int}{k:Nat}{y:Int}:(⟨o,l⟩:J Int).val=(⟨o,l.set k y⟩:J Int).val:=J.b62.symm
structure RN(n:s5)(a:b3)(s:cS)(ps:List Int)(v:Int)(R:aO):Prop where
 rE:aL (q3 n.lN) R
 a1A:aL (qA n.l3) R
 is:K5 a s n
 ok:p3 a
 len:ps.length=a.aC.places.l.length
 c8:pP ps
 v:0<=v/\v<a.aC.places.l.length
def b0o{n:s5}{a:b3}{s:cS}{o:g6}{ps:List Int}{v y:Int}{A:aR}{R:aO}(h:RN n a s ps v R)(aS:-70368744177664<=y/\y<=70368744177664)(kG:xT ((⟨o,ps.set v.toNat y⟩:J Int).L 3 a1) A)(bH:(⟨o,ps.set v.toNat y⟩:J Int).ok 1 a1):
 aM prog 241 [n.val,(⟨o,ps⟩:J Int).val,.int .i64 v].toArray A R (λw E G=>w=.int .i64 (yO a s (ps.set v.toNat y) v)/\A=E/\R=G):=by rw[RO (k:=v.toNat) (y:=y)];exact aM.Av kG bH (aJq n a s (⟨o,ps.set v.toNat y⟩:J Int).V v [] _ (h.rE.mono λr M=>aT (.tail _ M)) (h.a1A.mono λr M=>aT (.tail _ M)) mA h.is h.ok (by simp[h.len]) (h.c8.set _ aS) h.v)
def aXV{n:s5}{a:b3}{s:cS}{o:g6}{ps:List Int}{v y:Int}{A:aR}{R:aO}(h:RN n a s ps v R)(aS:-70368744177664<=y/\y<=70368744177664)(kG:xT ((⟨o,ps.set v.toNat y⟩:J Int).L 3 a1) A)(bH:(⟨o,ps.set v.toNat y⟩:J Int).ok 1 a1):
 aM prog 242 [n.val,(⟨o,ps⟩:J Int).val,.int .i64 v].toArray A R (λw E G=>w=.int .i64 (yN a s (ps.set v.toNat y) v)/\A=E/\R=G):=by rw[RO (k:=v.toNat) (y:=y)];exact aM.Av kG bH (aGB n a s (⟨o,ps.set v.toNat y⟩:J Int).V v [] _ (h.rE.mono λr M=>aT (.tail _ M)) (h.a1A.mono λr M=>aT (.tail _ M)) mA h.is h.ok (by simp[h.len]) (h.c8.set _ aS) h.v)
structure Cr(a:b3)(s:cS)(ps:List Int)(v:Int)(R:aO):Prop where
 b0:mZ a R
 set:pQ s R
 ok:p3 a
 LO:UQ a s
 len:ps.length=a.aC.places.l.length
 c8:pP ps
 v:0<=v/\v<a.aC.places.l.length
def a7B{a:b3}{s:cS}{o:g6}{ps:List Int}{v y:Int}{A:aR}{R:aO}(h:Cr a s ps v R)(aS:-70368744177664<=y/\y<=70368744177664)(kG:xT ((⟨o,ps.set v.toNat y⟩:J Int).L 3 a1) A)(bH:(⟨o,ps.set v.toNat y⟩:J Int).ok 1 a1):
 aM prog 287 [a.val,s.val,(⟨o,ps⟩:J Int).val,.int .i64 v].toArray A R (λw E G=>w=.int .i64 (yO a s (ps.set v.toNat y) v)/\A=E/\R=G):=by rw[RO (k:=v.toNat) (y:=y)];exact aM.Av kG bH (aI0 a s (⟨o,ps.set v.toNat y⟩:J Int).V v [] _ (FN h.b0 λr M=>aT (.tail _ M)) (NS h.set λr M=>aT (.tail _ M)) mA h.ok h.LO (by simp[h.len]) (h.c8.set _ aS))
def a7p{a:b3}{s:cS}{o:g6}{ps:List Int}{v y:Int}{A:aR}{R:aO}(h:Cr a s ps v R)(aS:-70368744177664<=y/\y<=70368744177664)(kG:xT ((⟨o,ps.set v.toNat y⟩:J Int).L 3 a1) A)(bH:(⟨o,ps.set v.toNat y⟩:J Int).ok 1 a1):
 aM prog 288 [a.val,s.val,(⟨o,ps⟩:J Int).val,.int .i64 v].toArray A R (λw E G=>w=.int .i64 (yN a s (ps.set v.toNat y) v)/\A=E/\R=G):=by rw[RO (k:=v.toNat) (y:=y)];exact aM.Av kG bH (aFY a s (⟨o,ps.set v.toNat y⟩:J Int).V v [] _ (FN h.b0 λr M=>aT (.tail _ M)) (NS h.set λr M=>aT (.tail _ M)) mA h.ok h.LO (by simp[h.len]) (h.c8.set _ aS))
abbrev FO(a:b3)(s:cS)(ps:List Int)(v:Int):Int->Bool:=λx=>decide (0<=yO a s (ps.set v.toNat x) v)
abbrev FG(a:b3)(s:cS)(ps:List Int)(v:Int):Int->Bool:=λx=>decide (yN a s (ps.set v.toNat x) v<=0)
def aJb{a:b3}{s:cS}{ps:List Int}{v start:Int}(bT:p3 a)(cY:v.toNat<ps.length):Qa (FO a s ps v) start true:=by intro i j b2 a9L a6 b7;rw[decide_eq_true_eq]at b7|-;have:=aUw (s:=s) bT (aHc (ps:=ps) cY (show start+l7 true*i<=start+l7 true*j by simp only[l7];simp;omega));omega
def aFc{a:b3}{s:cS}{ps:List Int}{v start:Int}(bT:p3 a)(cY:v.toNat<ps.length):Qa (FG a s ps v) start false:=by intro i j b2 a9L a6 b7;rw[decide_eq_true_eq]at b7|-;have:=aWe (s:=s) bT (aHc (ps:=ps) cY (show start+l7 false*j<=start+l7 false*i by simp only[l7];simp;omega));omega
abbrev S0(h6 gQ eS:Nat)(n:s5)(o:g6)(ps:List Int)(v:Int)(L:aR)(y:Int):aR:=
 ⟨h6,[(⟨o,ps⟩:J Int).val],40⟩::((⟨o,ps.set v.toNat y⟩:J Int).L 3 a1++(⟨gQ,[.int .i64 v],3⟩::⟨eS,n.cells,221⟩::L))
def aXE{h6 gQ eS:Nat}{n:s5}{a:b3}{s:cS}{o:g6}{ps:List Int}{u:Int}{L:aR}{R:aO}(h:RN n a s ps u R)(bH:(⟨o,ps⟩:J Int).ok 1 a1)(x y:Int)(K:-70368744177664<=x/\x<=70368744177664):
 aM prog 280 [.int .i64 x,.pointer (some ⟨h6,0,none⟩),.pointer (some ⟨gQ,0,none⟩),.pointer (some ⟨eS,0,none⟩)].toArray (S0 h6 gQ eS n o ps u L y) R (λw E G=>w=.bool (FO a s ps u x)/\S0 h6 gQ eS n o ps u L x=E/\R=G):=by have cY:=h.v;have vN:=h.len;have pH:∀z,(⟨o,ps.set u.toNat z⟩:J Int).ok 1 a1:=λz=>J.o6 HW bH g2;have Ue:=pH y;have Z7:=bJ (l:=ps.set u.toNat y) (k:=u.toNat) 0 DQ;refine b6 15 call280 func280 rfl rfl rfl ?_;apply LA∘j8∘kP∘kP∘cE∘aKG∘aG5;rintro v E G ⟨rfl,rfl⟩;apply(j2);refine eM Of ?_;apply eB∘nZ∘kP∘kP;refine cD rfl (b0o (o:=o) (y:=x) h K G2 (pH x)) ?_;apply GQ∘uK;refine lG (S0 h6 gQ eS n o ps u L x) R ?_;exact MK
def aVZ(n:s5)(a:b3)(s:cS)(ps:a4 Int)(u:Int)(L:aR)(R:aO)(h:RN n a s ps.l u R)(nE:aL (dU ps) R):
 aM prog 240 [n.val,ps.val,.int .i64 u].toArray L R (λw E G=>∃(z:Int) (ok:Bool),w=.tuple #[.int .i64 z,.bool ok]/\UP (FO a s ps.l u) (ps.l.getD u.toNat 0) true z ok/\L=E/\R=G):=by have cY:=h.v;have vN:=h.len;have r0:=h.ok.aC.places;have Z7:=bJ (l:=ps.l) (k:=u.toNat) 0 D;have a5:=h.c8.get u.toNat;have cT:=aJb (s:=s) (start:=ps.l.getD u.toNat 0) h.ok (ps:=ps.l) (v:=u) D;refine b6 19 call240 func240 rfl rfl rfl ?_;apply(dB);intro eS;refine a6T (v:=Value.int _ _) rfl rfl rfl ?_;intro gQ;apply D6∘LF∘Yt;rintro v E G ⟨xM,rfl,Gi,rfl,rfl⟩;apply(dZ);intro h6;apply a24∘LF∘kP∘aFx∘jG;refine aI (Yf rfl) rfl ?_;refine a5R aS4 ?_;refine dT rfl (aJe 280 #[.pointer (some ⟨h6,0,none⟩),.pointer (some ⟨gQ,0,none⟩),.pointer (some ⟨eS,0,none⟩)] (S0 h6 gQ eS n xM ps.l u L) (FO a s ps.l u) (ps.l.getD u.toNat 0) true (ps.l.getD u.toNat 0) _ a5 cT (λx y K=>aXE h Gi x y K)) rfl ?_;exact aTm
def aVx{h6 gQ eS:Nat}{n:s5}{a:b3}{s:cS}{o:g6}{ps:List Int}{u:Int}{L:aR}{R:aO}(h:RN n a s ps u R)(bH:(⟨o,ps⟩:J Int).ok 1 a1)(x y:Int)(K:-70368744177664<=x/\x<=70368744177664):
 aM prog 279 [.int .i64 x,.pointer (some ⟨h6,0,none⟩),.pointer (some ⟨gQ,0,none⟩),.pointer (some ⟨eS,0,none⟩)].toArray (S0 h6 gQ eS n o ps u L y) R (λw E G=>w=.bool (FG a s ps u x)/\S0 h6 gQ eS n o ps u L x=E/\R=G):=by have cY:=h.v;have vN:=h.len;have pH:∀z,(⟨o,ps.set u.toNat z⟩:J Int).ok 1 a1:=λz=>J.o6 HW bH g2;have Ue:=pH y;have Z7:=bJ (l:=ps.set u.toNat y) (k:=u.toNat) 0 DQ;refine b6 15 call279 func279 rfl rfl rfl ?_;apply LA∘j8∘kP∘kP∘cE∘aKG∘aG5;rintro v E G ⟨rfl,rfl⟩;apply(j2);refine eM Of ?_;apply eB∘nZ∘kP∘kP;refine cD rfl (aXV (o:=o) (y:=x) h K G2 (pH x)) ?_;apply XK∘uK;refine lG (S0 h6 gQ eS n o ps u L x) R ?_;exact MK
def aT8(n:s5)(a:b3)(s:cS)(ps:a4 Int)(u:Int)(L:aR)(R:aO)(h:RN n a s ps.l u R)(nE:aL (dU ps) R):
 aM prog 239 [n.val,ps.val,.int .i64 u].toArray L R (λw E G=>∃(z:Int) (ok:Bool),w=.tuple #[.int .i64 z,.bool ok]/\UP (FG a s ps.l u) (ps.l.getD u.toNat 0) false z ok/\L=E/\R=G):=by have cY:=h.v;have vN:=h.len;have r0:=h.ok.aC.places;have Z7:=bJ (l:=ps.l) (k:=u.toNat) 0 D;have a5:=h.c8.get u.toNat;have cT:=aFc (s:=s) (start:=ps.l.getD u.toNat 0) h.ok (ps:=ps.l) (v:=u) D;refine b6 19 call239 func239 rfl rfl rfl ?_;apply(dB);intro eS;refine a6T (v:=Value.int _ _) rfl rfl rfl ?_;intro gQ;apply D6∘LF∘Yt;rintro v E G ⟨xM,rfl,Gi,rfl,rfl⟩;apply(dZ);intro h6;apply a24∘LF∘kP∘aFx∘jG;refine aI (Yf rfl) rfl ?_;refine a5R aS4 ?_;refine dT rfl (aJe 279 #[.pointer (some ⟨h6,0,none⟩),.pointer (some ⟨gQ,0,none⟩),.pointer (some ⟨eS,0,none⟩)] (S0 h6 gQ eS n xM ps.l u L) (FG a s ps.l u) (ps.l.getD u.toNat 0) false (ps.l.getD u.toNat 0) _ a5 cT (λx y K=>aVx h Gi x y K)) rfl ?_;exact aTm
def aXA(a:b3)(s:cS)(ps:a4 Int)(u:Int)(L:aR)(R:aO)(h:Cr a s ps.l u R)(nE:aL (dU ps) R):
 aM prog 296 [a.val,s.val,ps.val,.int .i64 u].toArray L R (λw E G=>∃(z:Int) (ok:Bool),w=.tuple #[.int .i64 z,.bool ok]/\UP (FO a s ps.l u) (ps.l.getD u.toNat 0) true z ok/\L=E/\R=G):=by
 have cY:=h.v;have vN:=h.len;have r0:=h.ok.aC.places;obtain⟨start,W1⟩:∃start,start=ps.l.getD u.toNat 0:=⟨_,rfl⟩;have Z7:ps.l[u.toNat]?=some start:=by rw[W1];exact bJ (l:=ps.l) (k:=u.toNat) 0 D
 have a5:-70368744177664<=start/\start<=70368744177664:=by rw[W1];exact h.c8.get u.toNat
 have cT:=aJb (s:=s) (start:=start) h.ok (ps:=ps.l) (v:=u) D;have aM8:ps.l.set u.toNat start=ps.l:=by rw[W1];exact Dk
 have J5:∀y,(ps.l.set u.toNat y)[u.toNat]?=some y:=λy=>by rw[tJ D]
 have wN:∀j:Int,start+l7 true*j=start+j:=λj=>by simp[l7]
 have Ak:sF true start=70368744177664-start:=rfl;rw[<-W1];refine b6 86 call296 func296 rfl rfl rfl ?_;apply(dB);intro eD;apply(iV);intro gQ;apply D6∘LF∘Yt;rintro v E G ⟨oP,rfl,Gj,rfl,rfl⟩;apply(HR);have pH:∀z,(⟨oP,ps.l.set u.toNat z⟩:J Int).ok 1 a1:=λz=>J.o6 HW Gj g2;apply aJN∘eB∘vC∘h9;refine cD rfl (a7B (o:=oP) (y:=start) h a5 G2 (pH start)) ?_;apply(D7);refine U ?_ ?_<;>intro aQ;·exact aSF
 have aMU:=pH start;have Z8:=J5 start;have v9:FO a s ps.l u start=false:=decide_eq_false aQ;apply NC∘a6X∘a5q∘dM∘x2;refine F3 ([8,9,11,12]++cN 30 24) ((⟨λq=>[(11,.int .i64 q.1.1)],λq=>(⟨oP,ps.l.set u.toNat q.1.2.2⟩:J Int).L 3 a1++(⟨gQ,s.cells,80⟩::⟨eD,a.cells,32⟩::L),λ_=>R,λ_=>0⟩:fB {q:Int×Int×Int//(start<=q.1/\q.1<=70368744177664)/\FO a s ps.l u q.1=false/\(q.1<q.2.2/\q.2.2<=70368744177664)/\FO a s ps.l u q.2.2=true})) ?_ ?_;·
  refine fR ?_;refine FP ([8,9,11,12]++cN 30 24) G1 [(11,.int _ _),(12,.int _ _)] bV λfK=>?_;refine k2 ([8,9,11,12]++cN 30 24) ((⟨λq=>[(11,.int .i64 q.1.1),(12,.int .i64 q.1.2.1)],λq=>(⟨oP,ps.l.set u.toNat q.1.2.2⟩:J Int).L 3 a1++(⟨gQ,s.cells,80⟩::⟨eD,a.cells,32⟩::L),λ_=>R,λq=>(70368744177664-q.1.1).toNat⟩:fB {q:Int×Int×Int//(start<=q.1/\q.1<=70368744177664)/\FO a s ps.l u q.1=false/\q.2.1=q.1-start+1})) (⟨(start,1,start),by dsimp only;omega,v9,by dsimp only;omega⟩) ?_;rintro⟨⟨bU,step,y⟩,xJ,wB,DF⟩ cH;try dsimp only
  dsimp only at xJ wB DF;have Ue:=pH y;have Z8:=J5 y;refine fR (bK (c2 ?_));apply(gU);iterate 3 apply(cE)
  apply(k3);refine aI KT rfl ?_;apply(a0t);refine jH (j5 N ((⟨oP,ps.l.set u.toNat y⟩:J Int)) (min (bU+step) 70368744177664) rfl rfl rfl rfl cF bR bD bR aW aB aB) ?_;rintro v E G ⟨rfl,rfl⟩;apply(CB);obtain⟨w,dH⟩:∃w,w=min (bU+step) 70368744177664:=⟨_,rfl⟩;have W5:w<=70368744177664/\bU<=w/\(w<70368744177664->w=bU+step):=by omega
  rw[<-dH];refine eM Of ?_;have b4N:=pH w;have Fz:=J5 w;apply eB∘vC∘h9;refine cD rfl (a7B (o:=oP) (y:=w) h D G2 (pH w)) ?_;apply(D7);refine U ?_ ?_<;>intro bL;·refine mD (mF ?_);refine a0E rfl ?_;refine xY (mB ?_);have J6:FO a s ps.l u w=true:=decide_eq_true bL;exact aQ6
  have Tj:FO a s ps.l u w=false:=decide_eq_false bL;apply hN∘h9∘a53∘a50∘nJ;refine U ?_ ?_<;>intro cC;·apply m3∘nG;refine eZ (a8 (iY (gB (iM (vW (iM (a5S ?_)))))));refine bQ L R RG ?_;refine⟨0,false,rfl,⟨(λh=>by cases h),λ_=>⟨rfl,λj O X=>?_⟩⟩,rfl,rfl⟩;refine cT.no O X (pJ _) ?_;rw[wN,Ak,show start+(70368744177664-start)=w from by omega];exact Tj
  exact aQS
 rintro⟨⟨bU,step,y⟩,xJ,wB,DF,As⟩ cH;try dsimp only
 dsimp only at xJ wB DF As;have Ue:=pH y;have Z8:=J5 y;apply SN∘a0t∘aET∘dM;refine eZ (a8 (bK (fR ?_)));refine dS [(3,.int _ _),(4,.pointer _),(5,.pointer _),(10,.slice _ _ _),(11,.int _ _),(13,.int _ _)] bV λoA=>?_;refine k2 ([11,13]++cN 58 27) ((⟨λq=>[(11,.int .i64 q.1.1),(13,.int .i64 q.1.2.1)],λq=>(⟨oP,ps.l.set u.toNat q.1.2.2⟩:J Int).L 3 a1++(⟨gQ,s.cells,80⟩::⟨eD,a.cells,32⟩::L),λ_=>R,λq=>(q.1.2.1-q.1.1).toNat⟩:fB {q:Int×Int×Int//(start<=q.1/\q.1<q.2.1/\q.2.1<=70368744177664)/\FO a s ps.l u q.1=false/\FO a s ps.l u q.2.1=true})) (⟨(bU,y,y),by dsimp only;omega,wB,As⟩) ?_;rintro⟨⟨b5,aE,z⟩,uB,fW,jU⟩ cH;try dsimp only
 dsimp only at uB fW jU;have b4O:=pH z;have b3H:=J5 z;apply tD∘M7∘Dt;refine U ?_ ?_<;>intro dX;·
  obtain⟨oO,Ac⟩:∃oO,oO=b5+(aE-b5).tdiv 2:=⟨_,rfl⟩;have Tv:b5<oO/\oO<aE:=by rw[GY D]at Ac;omega
  have aMg:0<=(aE-b5).tdiv 2/\(aE-b5).tdiv 2<=aE-b5:=by rw[GY D];omega
  refine eP (a8 (fR (bK (c2 ?_))));apply(gU);iterate 4 apply(cE)
  apply j3∘L6∘k3∘aGT∘aKW;rintro v E G ⟨rfl,rfl⟩;apply(j2);rw[<-Ac];refine eM Of ?_;have b4M:=pH oO;have Tk:=J5 oO;apply eB∘vC∘h9;refine cD rfl (a7B (o:=oP) (y:=oO) h D G2 (pH oO)) ?_;apply(D7);refine U ?_ ?_<;>intro dY;·apply wJ∘a0x∘a08∘dM;refine eZ (hI ?_);exact eO ⟨(b5,oO,oO),by dsimp only;omega,fW,decide_eq_true dY⟩
  apply wJ∘a0x∘a08∘dM;refine eZ (hI ?_);exact eO ⟨(oO,aE,oO),by dsimp only;omega,decide_eq_false dY,jU⟩
 apply n9∘cE∘dM∘uK;refine bQ L R RG ?_;refine⟨aE,true,rfl,⟨λ_=>⟨aE-start,by omega,by rw[Ak];omega,by rw[wN];omega,jU,λj O X=>?_⟩,λh=>by cases h⟩,rfl,rfl⟩;refine cT.no O (show j<=b5-start by omega) (by rw[Ak];omega) ?_;rw[wN,show start+(b5-start)=b5 from by omega];exact fW
def aYK(a:b3)(s:cS)(ps:a4 Int)(u:Int)(L:aR)(R:aO)(h:Cr a s ps.l u R)(nE:aL (dU ps) R):
 aM prog 297 [a.val,s.val,ps.val,.int .i64 u].toArray L R (λw E G=>∃(z:Int) (ok:Bool),w=.tuple #[.int .i64 z,.bool ok]/\UP (FG a s ps.l u) (ps.l.getD u.toNat 0) false z ok/\L=E/\R=G):=by
 have cY:=h.v;have vN:=h.len;have r0:=h.ok.aC.places;obtain⟨start,W1⟩:∃start,start=ps.l.getD u.toNat 0:=⟨_,rfl⟩;have Z7:ps.l[u.toNat]?=some start:=by rw[W1];exact bJ (l:=ps.l) (k:=u.toNat) 0 D
 have a5:-70368744177664<=start/\start<=70368744177664:=by rw[W1];exact h.c8.get u.toNat
 have cT:=aFc (s:=s) (start:=start) h.ok (ps:=ps.l) (v:=u) D;have aM8:ps.l.set u.toNat start=ps.l:=by rw[W1];exact Dk
 have J5:∀y,(ps.l.set u.toNat y)[u.toNat]?=some y:=λy=>by rw[tJ D]
 have wN:∀j:Int,start+l7 false*j=start-j:=λj=>by simp[l7];omega
 have Ak:sF false start=start+70368744177664:=rfl;rw[<-W1];refine b6 86 call297 func297 rfl rfl rfl ?_;apply(dB);intro eD;apply(iV);intro gQ;apply D6∘LF∘Yt;rintro v E G ⟨oP,rfl,Gj,rfl,rfl⟩;apply(HR);have pH:∀z,(⟨oP,ps.l.set u.toNat z⟩:J Int).ok 1 a1:=λz=>J.o6 HW Gj g2;apply aJN∘eB∘vC∘h9;refine cD rfl (a7p (o:=oP) (y:=start) h a5 G2 (pH start)) ?_;apply(PX);refine U ?_ ?_<;>intro aQ;·exact aSF
 have aMU:=pH start;have Z8:=J5 start;have v9:FG a s ps.l u start=false:=decide_eq_false aQ;apply NC∘a6X∘a5q∘dM∘x2;refine F3 ([8,9,11,12]++cN 30 24) ((⟨λq=>[(11,.int .i64 q.1.1)],λq=>(⟨oP,ps.l.set u.toNat q.1.2.2⟩:J Int).L 3 a1++(⟨gQ,s.cells,80⟩::⟨eD,a.cells,32⟩::L),λ_=>R,λ_=>0⟩:fB {q:Int×Int×Int//(-70368744177664<=q.1/\q.1<=start)/\FG a s ps.l u q.1=false/\(-70368744177664<=q.2.2/\q.2.2<q.1)/\FG a s ps.l u q.2.2=true})) ?_ ?_;·
  refine fR ?_;refine FP ([8,9,11,12]++cN 30 24) G1 [(11,.int _ _),(12,.int _ _)] bV λfK=>?_;refine k2 ([8,9,11,12]++cN 30 24) ((⟨λq=>[(11,.int .i64 q.1.1),(12,.int .i64 q.1.2.1)],λq=>(⟨oP,ps.l.set u.toNat q.1.2.2⟩:J Int).L 3 a1++(⟨gQ,s.cells,80⟩::⟨eD,a.cells,32⟩::L),λ_=>R,λq=>(q.1.1+70368744177664).toNat⟩:fB {q:Int×Int×Int//(-70368744177664<=q.1/\q.1<=start)/\FG a s ps.l u q.1=false/\q.2.1=start-q.1+1})) (⟨(start,1,start),by dsimp only;omega,v9,by dsimp only;omega⟩) ?_;rintro⟨⟨bU,step,y⟩,xJ,wB,DF⟩ cH;try dsimp only
  dsimp only at xJ wB DF;have Ue:=pH y;have Z8:=J5 y;refine fR (bK (c2 ?_));apply(gU);iterate 3 apply(cE)
  apply(j3);refine aI E1 rfl ?_;apply(a0t);refine jH (j5 N ((⟨oP,ps.l.set u.toNat y⟩:J Int)) (max (bU-step) (-70368744177664)) rfl rfl rfl rfl cF bR bD bR aW aB aB) ?_;rintro v E G ⟨rfl,rfl⟩;apply(CB);obtain⟨w,dH⟩:∃w,w=max (bU-step) (-70368744177664):=⟨_,rfl⟩;have W5:-70368744177664<=w/\w<=bU/\(-70368744177664<w->w=bU-step):=by omega
  rw[<-dH];refine eM Of ?_;have b4N:=pH w;have Fz:=J5 w;apply eB∘vC∘h9;refine cD rfl (a7p (o:=oP) (y:=w) h D G2 (pH w)) ?_;apply(PX);refine U ?_ ?_<;>intro bL;·refine mD (mF ?_);refine a0E rfl ?_;refine xY (mB ?_);have J6:FG a s ps.l u w=true:=decide_eq_true bL;exact aQ6
  have Tj:FG a s ps.l u w=false:=decide_eq_false bL;apply hN∘h9∘a53∘a50∘nJ;refine U ?_ ?_<;>intro cC;·apply m3∘nG;refine eZ (a8 (iY (gB (iM (vW (iM (a5S ?_)))))));refine bQ L R RG ?_;refine⟨0,false,rfl,⟨(λh=>by cases h),λ_=>⟨rfl,λj O X=>?_⟩⟩,rfl,rfl⟩;refine cT.no O X (pJ _) ?_;rw[wN,Ak,show start-(start+70368744177664)=w from by omega];exact Tj
  exact aQS
 rintro⟨⟨bU,step,y⟩,xJ,wB,DF,As⟩ cH;try dsimp only
 dsimp only at xJ wB DF As;have Ue:=pH y;have Z8:=J5 y;apply SN∘a0t∘aET∘dM;refine eZ (a8 (bK (fR ?_)));refine dS [(3,.int _ _),(4,.pointer _),(5,.pointer _),(10,.slice _ _ _),(11,.int _ _),(13,.int _ _)] bV λoA=>?_;refine k2 ([11,13]++cN 58 27) ((⟨λq=>[(11,.int .i64 q.1.1),(13,.int .i64 q.1.2.1)],λq=>(⟨oP,ps.l.set u.toNat q.1.2.2⟩:J Int).L 3 a1++(⟨gQ,s.cells,80⟩::⟨eD,a.cells,32⟩::L),λ_=>R,λq=>(q.1.1-q.1.2.1).toNat⟩:fB {q:Int×Int×Int//(-70368744177664<=q.2.1/\q.2.1<q.1/\q.1<=start)/\FG a s ps.l u q.1=false/\FG a s ps.l u q.2.1=true})) (⟨(bU,y,y),by dsimp only;omega,wB,As⟩) ?_;rintro⟨⟨aE,b5,z⟩,uB,fW,jU⟩ cH;try dsimp only
 dsimp only at uB fW jU;have b4O:=pH z;have b3H:=J5 z;apply tD∘M7∘Dt;refine U ?_ ?_<;>intro dX;·
  obtain⟨oO,Ac⟩:∃oO,oO=b5+(aE-b5).tdiv 2:=⟨_,rfl⟩;have Tv:b5<oO/\oO<aE:=by rw[GY D]at Ac;omega
  have aMg:0<=(aE-b5).tdiv 2/\(aE-b5).tdiv 2<=aE-b5:=by rw[GY D];omega
  refine eP (a8 (fR (bK (c2 ?_))));apply(gU);iterate 4 apply(cE)
  apply j3∘L6∘k3∘aGT∘aKW;rintro v E G ⟨rfl,rfl⟩;apply(j2);rw[<-Ac];refine eM Of ?_;have b4M:=pH oO;have Tk:=J5 oO;apply eB∘vC∘h9;refine cD rfl (a7p (o:=oP) (y:=oO) h D G2 (pH oO)) ?_;apply(PX);refine U ?_ ?_<;>intro dY;·apply wJ∘a0x∘a08∘dM;refine eZ (hI ?_);exact eO ⟨(aE,oO,oO),by dsimp only;omega,fW,decide_eq_true dY⟩
  apply wJ∘a0x∘a08∘dM;refine eZ (hI ?_);exact eO ⟨(oO,b5,oO),by dsimp only;omega,decide_eq_false dY,jU⟩
 apply n9∘cE∘dM∘uK;refine bQ L R RG ?_;refine⟨b5,true,rfl,⟨λ_=>⟨start-b5,by omega,by rw[Ak];omega,by rw[wN];omega,jU,λj O X=>?_⟩,λh=>by cases h⟩,rfl,rfl⟩;refine cT.no O (show j<=start-aE by omega) (by rw[Ak];omega) ?_;rw[wN,show start-(start-aE)=aE from by omega];exact fW
def Dd{ps:List Int}(h:ps.findSome? tN=none):pP ps:=λp aP=>by
 obtain⟨i,aE⟩:=List.mem_iff_getElem?.1 aP
 exact aYL h i p aE
def a6k{ps:List Int}(h:pP ps):ps.findSome? tN=none:=List.findSome?_eq_none_iff.2 λp aP=>by
 have:=h p aP
 exact if_neg D
section
variable{a:b3}{s:cS}{ps:a4 Int}{v:Int}
end
end Go.Proofs.YtchfclmokpbldaaGreat
namespace Go.Proofs.YtchfclmokpbldaaGreat
open Go.Aw Go Go.Proofs.Tryz
end Go.Proofs.YtchfclmokpbldaaGreat
