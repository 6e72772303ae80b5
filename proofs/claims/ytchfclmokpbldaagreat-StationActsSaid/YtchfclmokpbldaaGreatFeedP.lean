--By an AI agent.
import Derived.Test.YtchfclmokpbldaaGreatCutB
import Derived.Test.YtchfclmokpbldaaGreatFlows
import Derived.Test.YtchfclmokpbldaaGreatData
import Derived.Test.YtchfclmokpbldaaGreatOwn
import Derived.Test.YtchfclmokpbldaaGreatFits
import Derived.RangeFuncRecord
import Derived.RangeFuncSeq
import Derived.OwnWalkIn
import Derived.LoopNIn
set_option maxRecDepth 9999
set_option linter.all false
set_option maxHeartbeats 0
variable{A B:Prop}
namespace Go.Proofs.YtchfclmokpbldaaGreat
open Go.Aw Go Go.Proofs.Tryz
attribute [local irreducible] cH c6 dP aI cJ eD e9 e0 e1 e5 eS e8 J.L
def a34(h:A->B:=by exact(eO aYJ ·)):=h
def aCJ(h:A->B:=by exact(aG aY8 ·)):=h
def aLR(h:A->B:=by exact(aG aYl ·)):=h
def aRw(h:A->B:=by exact(aG aYJ ·)):=h
def aJU(h:A->B:=by exact hF O [] [0,1,2,3,4,5,6,7,8,9,10,11,12,13] [14] ((⟨kL,eX.cells x,172⟩::((⟨.own FM l.l.length [],vs⟩:J Int).L 3 aL++[]))) _ cX bE a2 dT):=h
def aLV(h:A->B:=by exact(eO b1c ·)):=h
def aQI(h:A->B:=by exact(eO (h4 O ((⟨.own FM l.l.length [],vs⟩:J Int)) _ rfl rfl ((show _=Value.slice _ _ _ from rfl).trans (v4 wI)) rfl bC (i:=x.right.toNat) cW iC) ·)):=h
def aQY(h:A->B:=by exact(eO aYl ·)):=h
def J1(l:List eX)(dO:List Int)(k:Nat):List Int:=pH l dO k++List.replicate (l.length-k) 0
def b6f{l:List eX}{dO:List Int}{k:Nat}(h:k<=l.length):(J1 l dO k).length=l.length:=by rw[J1,iD,VT,VG];omega
def b6l{l:List eX}{dO:List Int}{k:Nat}{v:Int}(hk:k<l.length)(h:v=CS dO (pH l dO k) (l.getD k default)):(J1 l dO k).set k v=J1 l dO (k+1):=by have hl:=VT (l:=l) (dO:=dO) k;rw[J1,J1,pH,<-h,show l.length-k=(l.length-(k+1))+1 by omega,a8w,List.set_append_right k v D,hl,Ws,aIa];simp
def b90{l:List eX}{dO:List Int}{k:Nat}(hk:k<l.length)(h:CS dO (pH l dO k) (l.getD k default)=0):J1 l dO k=J1 l dO (k+1):=by rw[J1,J1,pH,h,show l.length-k=(l.length-(k+1))+1 by omega,a8w];simp
def aAw{l:List eX}{dO:List Int}{k j:Nat}(h:j<k):(J1 l dO k)[j]?=some ((pH l dO k).getD j 0):=by have hl:=VT (l:=l) (dO:=dO) k;rw[J1,HU D];exact iL 0 D
def b9E{l:List eX}{dO:List Int}:J1 l dO l.length=pH l dO l.length:=by rw[J1,Ws];simp
def a4w{dO v:List Int}{x:eX}(h:x.kind=1):CS dO v x=Y6 dO x.cond:=by rw[CS,if_pos h]
def aKo{dO v:List Int}{x:eX}(h:x.kind=2):CS dO v x= -(v.getD x.left.toNat 0):=by rw[CS,if_neg D,if_pos h]
def aLi{dO v:List Int}{x:eX}(h:x.kind=3):CS dO v x=min (v.getD x.left.toNat 0) (v.getD x.right.toNat 0):=by rw[CS,if_neg D,if_neg D,if_pos h]
def aMU{dO v:List Int}{x:eX}(N:¬x.kind=1)(V:¬x.kind=2)(aQ:¬x.kind=3):CS dO v x=max (v.getD x.left.toNat 0) (v.getD x.right.toNat 0):=by rw[CS,if_neg N,if_neg V,if_neg aQ]
def aQ2(l:a0 eX)(dO:a0 Int)(L:aP)(R:aJ)(hl:aH (DT l) R)(hv:aH (cZ dO) R):
 aI prog 160 [l.val,dO.val].toArray L R (λv E G=>v=.int .i64 (v0 l.l dO.l)/\L=E/\R=G):=by
 refine bW 102 call160 func160 ?_;apply TK∘hM;refine cC rfl (aLd l _ _ hl) ?_;apply(oW);apply(W)<;>intro aO;·exact aXb
 have M:CA l.l=true:=by simpa using aO
 have kD:=(Kk.1 M).1;apply eR∘nO∘EL;rintro v E G ⟨FM,rfl,rfl,HE⟩;replace HE:=HE.symm;subst HE;apply(KJ);refine mJ (XA (f:=aL) (x:=0) rfl _) ?_;apply eK∘D2;refine c7 [(1,.slice _ _ _),(5,.slice _ _ _),(14,.slice _ _ _),(15,.int _ _),(16,.int _ _)] bP λeZ=>?_;refine kO ([6,7]++b4 16 80) ((⟨λg=>[(16,.int .i64 ((g.1.1:Nat):Int))],λg=>(⟨.own FM l.l.length [],g.1.2⟩:J Int).L 3 aL++L,λ_=>R,λg=>l.l.length-g.1.1⟩:dV {g:Nat×List Int//g.1<=l.l.length/\g.2=J1 l.l dO.l g.1})) (⟨(0,List.replicate l.l.length 0),by dsimp only;omega,rfl⟩) ?_;rintro⟨⟨k,vs⟩,hk,Pd⟩ bZ;try dsimp only
 dsimp only at hk Pd;have wI:vs.length=l.l.length:=by rw[Pd];exact b6f hk
 have aGG:(⟨.own FM l.l.length [],vs⟩:J Int).ok 1 aL:=by have:=JL aL 1 FM l.l.length 0 CG;exact J.oZ CG this (by simp;exact wI)
 apply(h2);apply(W)<;>intro bF;·
  have rB:=bJ l.l k default;have w6:=aKW M k D;have aTY:=bJ vs k 0;have Vf:=λ(v:Int)=>b6l (l:=l.l) (dO:=dO.l) (k:=k) (v:=v) D;have cI:=b90 (l:=l.l) (dO:=dO.l) (k:=k) D;rw[<-Pd]at Vf cI;rw[Kb]at w6;obtain⟨x,K⟩:∃x,x=l.l.getD k default:=⟨_,rfl⟩;rw[<-K]at rB w6 Vf cI;apply(pR);refine aG qH ?_;apply(OH);intro kL;apply dE∘CL;refine eI (aZ (e3 (a6 (cR ?_))));apply(v8);apply(W)<;>intro b2;·
   apply N9∘nO∘CI;apply iZ (aC:=[_,_,_,_,_,_]) (j:=5) (a7:=44) rfl rfl aE rfl aW rfl;·intro k5;replace k5:=a8 k5;have rR:=bJ dO.l x.cond.toNat 0;exact(BB∘aCJ∘jI) PP
   intro Ce;apply(c9);apply iZ (aC:=[_,_,_,_,_,_]) (j:=13) (a7:=52) rfl rfl aE rfl aW rfl;·intro pW;replace pW:=a8 pW;have rR:=bJ dO.l x.cond.toNat 0;exact(BB∘aCJ∘jI) VP
   intro UW;apply(b3);apply(W)<;>intro dZ;·have rR:=bJ dO.l x.cond.toNat 0;apply yH∘BB∘aCJ∘jI∘aLR;refine i4 (jL O ((⟨.own FM l.l.length [],vs⟩:J Int)) (dO.l.getD x.cond.toNat 0) rfl rfl rfl rfl c0 bC bI bC bH aE aE) ?_;rintro v E G ⟨rfl,rfl⟩;refine eI (gV (gV (aZ (cR ?_))));apply(uX);exact dU ⟨(k+1,vs.set k (dO.l.getD x.cond.toNat 0)),by dsimp only;omega,Vf _ (by rw[a4w b2,Y6,if_pos D])⟩
   refine dK (gV (gV (aZ (cR ?_))));apply(uX);exact dU ⟨(k+1,vs),by dsimp only;omega,cI (by rw[a4w b2,Y6,if_neg D])⟩
  apply(oX);apply(W)<;>intro dX;·(have jH:x.left.toNat<k:=by omega);have xQ:=aAw (l:=l.l) (dO:=dO.l) jH;rw[<-Pd]at xQ;have aTd:=a5e (l:=l.l) (dO:=dO.l) k x.left.toNat;apply yH∘BB;refine aG b1c ?_;apply aRw∘x3∘aLR;refine i4 (jL O ((⟨.own FM l.l.length [],vs⟩:J Int)) (-((pH l.l dO.l k).getD x.left.toNat 0)) rfl rfl rfl rfl c0 bC bI bC bH aE aE) ?_;rintro v E G ⟨rfl,rfl⟩;refine eI (gV (gV (aZ (cR ?_))));apply(uX);exact dU ⟨(k+1,vs.set k (-((pH l.l dO.l k).getD x.left.toNat 0))),by dsimp only;omega,Vf _ (by rw[aKo dX])⟩
  have jH:x.left.toNat<k:=by omega
  have xQ:=aAw (l:=l.l) (dO:=dO.l) jH;have aGr:x.right.toNat<k:=by omega
  have UP:=aAw (l:=l.l) (dO:=dO.l) aGr;rw[<-Pd]at xQ UP;apply(oX);apply(W)<;>intro h3;·apply aJU∘G2∘QP∘aLV∘a34∘QP∘aQI∘a34;refine eO NR ?_;apply aQY∘x1;refine GO (jL O ((⟨.own FM l.l.length [],vs⟩:J Int)) (min ((pH l.l dO.l k).getD x.left.toNat 0) ((pH l.l dO.l k).getD x.right.toNat 0)) rfl rfl rfl rfl c0 bC bI bC bH aE aE) rfl rfl ?_;rintro v E G ⟨rfl,rfl⟩;apply(fS);refine gS (gV (gV (aZ (cR ?_))));apply(uX);exact dU ⟨(k+1,vs.set k (min ((pH l.l dO.l k).getD x.left.toNat 0) ((pH l.l dO.l k).getD x.right.toNat 0))),by dsimp only;omega,Vf _ (by rw[aLi h3])⟩
  apply aJU∘G2∘QP∘aLV∘a34∘QP∘aQI∘a34;refine eO B9 ?_;apply aQY∘x1;refine GO (jL O ((⟨.own FM l.l.length [],vs⟩:J Int)) (max ((pH l.l dO.l k).getD x.left.toNat 0) ((pH l.l dO.l k).getD x.right.toNat 0)) rfl rfl rfl rfl c0 bC bI bC bH aE aE) rfl rfl ?_;rintro v E G ⟨rfl,rfl⟩;apply(fS);refine gS (gV (gV (aZ (cR ?_))));apply(uX);exact dU ⟨(k+1,vs.set k (max ((pH l.l dO.l k).getD x.left.toNat 0) ((pH l.l dO.l k).getD x.right.toNat 0))),by dsimp only;omega,Vf _ (by rw[aMU b2 dX h3])⟩
 obtain rfl:k=l.l.length:=by omega
 rw[b9E]at Pd;have aTY:=bJ vs (l.l.length-1) 0;have Nv:v0 l.l dO.l=vs.getD (l.l.length-1) 0:=by rw[v0,if_pos M,Pd]
 apply S5∘QQ;refine aG (h4 O ((⟨.own FM l.l.length [],vs⟩:J Int)) _ rfl rfl ((show _=Value.slice _ _ _ from rfl).trans (v4 wI)) rfl bC (i:=l.l.length-1) cW iC) ?_;apply aRw∘q3;refine dC L R ?_;exact⟨by rw[Nv],rfl,rfl⟩
def Eu(h:A->B:=by exact(a4 oG ·)):=h
def aKu(h:A->B:=by exact(cK (cM (i-1) _ D D D) ·)):=h
def aB6(h:A->B:=by exact(aG qH ·)):=h
def aCH(h:A->B:=by exact(aG aY8 ·)):=h
def b3z(h:B:=by exact⟨-1,0,rfl,Z2 D (by rw[k3,if_neg bQ,<-K,if_neg bF,if_neg dZ,if_neg D]),rfl,rfl⟩):=h
def aPb(h:A->B:=by exact gJ O [0,1,2,3,5,6,7,8,4,9,10,11] ([a5.mk kL _ _]) cX bE a2):=h
structure Rq(l:List eX)(n:Nat)(i f d:Int):Prop where
 vK:0<=d/\d<=n
 DO:∀a b,k3 l n i=some (a,b)->f=a/\d=b
 no:k3 l n i=none->f= -1
def Z2{l:List eX}{n:Nat}{i:Int}{d:Int}(hd:0<=d/\d<=n)(h:k3 l n i=none):Rq l n i (-1) d:=⟨hd,(λa b bX=>by rw[h]at bX;cases bX),λ_=>rfl⟩
def a95{l:List eX}{n:Nat}{i f d:Int}(h:k3 l n i=some (f,d)):Rq l n i f d:=
 ⟨by have:=(VU _ _ _ _ h).2.1;omega,(λa b bX=>by rw[h]at bX;cases bX;exact⟨rfl,rfl⟩),λbX=>by rw[h]at bX;cases bX⟩
def b5G(l:a0 eX)(n:Nat)(i:Int)(L:aP)(R:aJ)(aA:i<0):
 aI prog 176 [l.val,.int .i64 i].toArray L R (λv E G=>∃f d:Int,v=.tuple #[.int .i64 f,.int .i64 d]/\Rq l.l n i f d/\L=E/\R=G):=by
 refine bW 116 call176 func176 ?_;apply rN∘WL;apply cB (aC:=[_,_,_,_]) (j:=2) (a7:=15) rfl rfl aE rfl aW rfl;·exact a3f
 intro mY;apply(b3);apply(W)<;>intro aO;·apply rN∘z1;refine bN L R DQ ?_;exact⟨-1,0,rfl,Z2 D (a0m aA n),rfl,rfl⟩
 (exfalso;omega)
def b6j(l:a0 eX)(n:Nat)(R:aJ)(hl:aH (DT l) R)(hn:n<=64)
 (cM:∀(i:Int) (L:aP),i<n->i<l.l.length->-1<=i->aI prog 176 [l.val,.int .i64 i].toArray L R (λv E G=>∃f d:Int,v=.tuple #[.int .i64 f,.int .i64 d]/\Rq l.l n i f d/\L=E/\R=G))
 (i:Int) (L:aP) (aA:i<n+1) (Ay:i<l.l.length) (BR:-1<=i):
 aI prog 176 [l.val,.int .i64 i].toArray L R (λv E G=>∃f d:Int,v=.tuple #[.int .i64 f,.int .i64 d]/\Rq l.l (n+1) i f d/\L=E/\R=G):=by
 refine bW 116 call176 func176 ?_;apply rN∘WL;apply cB (aC:=[_,_,_,_]) (j:=2) (a7:=15) rfl rfl aE rfl aW rfl;·exact a3f
 intro mY;apply(b3);apply(W)<;>intro aO;·apply rN∘z1;refine bN L R DQ ?_;exact⟨-1,0,rfl,Z2 D (a0m D _),rfl,rfl⟩
 have rB:=bJ l.l i.toNat default;obtain⟨x,K⟩:∃x,x=l.l.getD i.toNat default:=⟨_,rfl⟩;rw[<-K]at rB;have bQ:¬i<0:=by omega
 apply(QN);refine aG aZq ?_;apply(OH);intro hP;apply(G6);refine eI (aZ (e3 (a6 (cR ?_))));apply(v8);apply(W)<;>intro bF;·
  have qC:k3 l.l (n+1) i=if x.left=0/\x.right=0/\0<=x.cond/\x.cond<64 then some (i,1)else none:=by rw[k3,if_neg bQ,<-K,if_pos bF]
  apply s2∘r8;apply cB (aC:=[_,_,_]) (j:=3) (a7:=32) rfl rfl aE rfl aW rfl;·intro eN;replace eN:=a8 eN;exact(fH) PP
  intro iG;apply(c9);apply cB (aC:=[_,_,_]) (j:=8) (a7:=37) rfl rfl aE rfl aW rfl;·intro gM;replace gM:=a8 gM;exact(a5j) hL
  intro wJ;apply(c9);apply cB (aC:=[_,_,_]) (j:=13) (a7:=42) rfl rfl aE rfl aW rfl;·intro pW;replace pW:=a8 pW;exact(a5j) hL
  intro UW;apply(b3);apply(W)<;>intro b2;·apply rN∘dE;refine eI (aZ (iT (gD (iS (gD ?_)))));refine bN L R DQ ?_;exact⟨-1,0,rfl,Z2 D (by rw[qC,if_neg D]),rfl,rfl⟩
  apply WV∘dE∘Ld;refine bN L R DQ ?_;exact⟨i,1,rfl,a95 (by rw[qC,if_pos D]),rfl,rfl⟩
 apply(oX);apply(W)<;>intro dZ;·
  have qC:=aPo (n:=n) bQ K bF dZ;apply s2∘fH∘rO;apply cB (aC:=[_,_,_]) (j:=3) (a7:=53) rfl rfl aE rfl aW rfl;·exact Jh
  intro iG;apply(c9);apply cB (aC:=[_,_,_,_,_]) (j:=8) (a7:=58) rfl rfl aE rfl aW rfl;·intro gM;replace gM:=a8 gM;exact(a0l) hL
  intro wJ;apply(b3);apply(W)<;>intro dX;·
   apply rN∘dE;refine eI (aZ (iT (gD (iS (gD ?_)))));refine bN L R DQ ?_;refine⟨-1,0,rfl,Z2 D ?_,rfl,rfl⟩;rw[qC];cases k3 l.l n (i-1)with
   |none=>rfl
   |some z=>obtain⟨a,b⟩:=z;exact if_neg D
  apply QN∘kP∘aKu;rintro v E G ⟨f,d,rfl,i0,rfl,rfl⟩;have aDO:=i0.vK;refine aG iR ?_;apply Fc∘pQ∘z2∘dE∘Ld;refine bN L R DQ ?_;refine⟨f,d+1,rfl,?_,rfl,rfl⟩;cases hq:k3 l.l n (i-1)with
  |none=>rw[i0.no hq];exact Z2 D (by rw[qC,hq])
  |some z=>obtain⟨a,b⟩:=z;obtain⟨rfl,rfl⟩:=i0.DO _ _ hq;exact a95 (by rw[qC,hq];exact if_pos D)
 apply s2∘v8;apply(W)<;>intro h3;·refine dK (aZ ?_);exact aVO
 apply eK∘v8;exact aVO
def aNv(l:a0 eX)(R:aJ)(hl:aH (DT l) R):∀(n:Nat),n<=64->∀(i:Int) (L:aP),i<n->i<l.l.length->-1<=i->
 aI prog 176 [l.val,.int .i64 i].toArray L R (λv E G=>∃f d:Int,v=.tuple #[.int .i64 f,.int .i64 d]/\Rq l.l n i f d/\L=E/\R=G)
 |0,_,i,L,aA,_,_=>b5G l 0 i L R D
 |n+1,hn,i,L,aA,Ay,BR=>b6j l n R hl D (λi L N V aQ=>aNv l R hl n D i L N V aQ) i L aA Ay BR
def aO9(l:a0 eX)(L:aP)(R:aJ)(hl:aH (DT l) R):
 aI prog 100 [l.val].toArray L R (λv E G=>v=.bool (CA l.l)/\L=E/\R=G):=by
 refine bW 27 call100 func100 ?_;apply TM∘nO∘CI;apply cB (aC:=[_,_,_]) (j:=3) (a7:=8) rfl rfl aE rfl aW rfl;·intro eN;replace eN:=a8 eN;exact(nO) PQ
 intro iG;apply(b3);apply(W)<;>intro aO;·exact aV9
 apply G1∘QQ;refine cK (aNv l _ hl l.l.length D _ _ D D D) ?_;rintro v E G ⟨f,d,rfl,i0,rfl,rfl⟩;refine aG iR ?_;apply Fc∘pQ∘tC;apply iZ (aC:=[_,_]) (j:=2) (a7:=23) rfl rfl aE rfl aW rfl;·intro fD;replace fD:=a8 fD;exact(b1) VP
 intro mY;apply(v9);refine lG L R ?_;refine⟨?_,rfl,rfl⟩;rw[CA,show decide (1<=l.l.length/\l.l.length<=64)=true from decide_eq_true D];refine congrArg Value.bool ?_;cases hq:k3 l.l l.l.length ((l.l.length:Int)-1)with
 |none=>rw[i0.no hq];rfl
 |some z=>obtain⟨a,b⟩:=z;obtain⟨rfl,rfl⟩:=i0.DO _ _ hq;rw[Jb];simp
def b2U(l:a0 eX)(n:Nat)(L:aP)(R:aJ)(hl:aH (DT l) R):
 aI prog 251 [l.val,.int .i64 (n:Int)].toArray L R (λv E G=>v=.int .i64 (H8 l.l n)/\L=E/\R=G):=by
 refine bW 30 call251 func251 ?_;apply TK∘hM;refine cC rfl (aO9 l _ _ hl) ?_;apply(oW);apply(W)<;>intro aO;·exact aW5
 have M:CA l.l=true:=by simpa using aO
 have kD:=(Kk.1 M).1;apply(zH);refine c7 [(0,.slice _ _ _),(1,.int _ _),(5,.int _ _)] bP λeZ=>?_;refine gP ([4,5]++b4 9 21) (λg:{k:Nat//k<=l.l.length/\∀j:Nat,j<k->¬((l.l.getD j default).kind=1/\(n:Int)<=(l.l.getD j default).cond)}=>[(5,.int .i64 ((g.1:Nat):Int))]) (λg=>l.l.length-g.1) (⟨0,by omega,λj aY=>by omega⟩) ?_;rintro⟨k,hk,hD⟩ bZ;try dsimp only
 apply(uA);apply(W)<;>intro bF;·
  have N:=bJ l.l k default;apply j7∘h7∘aB6∘sW∘tC;apply iZ (aC:=[_,_,_,_,_,_,_]) (j:=6) (a7:=21) rfl rfl aE rfl aW rfl;·intro kC;replace kC:=a8 kC;exact(h7∘aB6∘TE) PP
  intro JG;apply(b3);apply(W)<;>intro b2;·exact aWd
  apply(mD);exact a8j
 exact b0o
def b7c(l:a0 eX)(dO:a0 Int)(R:aJ)(hl:aH (DT l) R)(hv:aH (cZ dO) R)(M:CA l.l=true):∀(k:Nat) (L:aP),k<l.l.length->
 aI prog 101 [l.val,dO.val,.int .i64 (k:Int)].toArray L R (λv E G=>v=.int .i64 (CS dO.l (pH l.l dO.l k) (l.l.getD k default))/\L=E/\R=G):=by
 intro k;induction k using Nat.strongRecOn with
 |_ k cM=>
 intro L hk;have kD:=(Kk.1 M).1;have rB:=iL (l:=l.l) (k:=k) default hk;have w6:=aKW M k hk;rw[Kb]at w6;obtain⟨x,K⟩:∃x,x=l.l.getD k default:=⟨_,rfl⟩;rw[<-K]at rB w6;rw[<-K];have call:∀(j:Int) (L:aP),0<=j->j<k->aI prog 101 [l.val,dO.val,.int .i64 j].toArray L R (λv E G=>v=.int .i64 ((pH l.l dO.l k).getD j.toNat 0)/\L=E/\R=G):=λj L N V=>by have:=cM j.toNat D L D;rw[<-Y3 (l:=l.l) (dO:=dO.l) (k:=k) D,VF N]at this;exact this
 have Nv:∀j:Nat,-1<=(pH l.l dO.l k).getD j 0/\(pH l.l dO.l k).getD j 0<=1:=λj=>a5e k j;have bJu:=Nv x.left.toNat;refine bW 74 call101 func101 ?_;apply cO∘mL∘h7∘aB6∘OH;intro kL;apply(G6);refine eI (aZ (e3 (a6 (cR ?_))));apply(v8);apply(W)<;>intro aO;·
  apply s2∘fH∘Fa∘c9;apply cB (aC:=[_,_,_,_,_,_]) (j:=5) (a7:=21) rfl rfl aE rfl aW rfl;·intro k5;replace k5:=a8 k5;have rR:=bJ dO.l x.cond.toNat 0;exact(BB∘aCH∘jI) GD
  intro Ce;apply(c9);apply cB (aC:=[_,_,_,_,_,_]) (j:=13) (a7:=29) rfl rfl aE rfl aW rfl;·intro pW;replace pW:=a8 pW;have rR:=bJ dO.l x.cond.toNat 0;exact(BB∘aCH∘jI) PQ
  intro UW;apply(b3);apply(W)<;>intro bF;·apply(rN);refine eI (aZ (iT (gD (iS (gD ?_)))));refine dC L R ?_;exact⟨by rw[a4w aO,Y6,if_neg D],rfl,rfl⟩
  have rR:=bJ dO.l x.cond.toNat 0;apply eR∘BB∘aCH∘jI∘Ld;refine dC L R ?_;exact⟨by rw[a4w aO,Y6,if_pos D],rfl,rfl⟩
 apply(oX);apply(W)<;>intro b2;·apply cO∘hM∘BB;refine cC rfl (call x.left _ D D) ?_;apply x3∘Ld;refine dC L R ?_;exact⟨by rw[aKo b2],rfl,rfl⟩
 apply(oX);apply(W)<;>intro dZ;·refine a6 ?_;apply aPb∘Eu∘Eu∘iI∘Eu∘Eu∘iI;refine k6 rfl (call x.left _ D D) ?_;refine k6 rfl (call x.right _ D D) ?_;refine a4 NR ?_;apply(qD);refine gS (aZ (iT (iS (gD ?_))));refine dC L R ?_;exact⟨by rw[aLi dZ],rfl,rfl⟩
 refine dK (gV (aZ (a6 ?_)));apply aPb∘Eu∘Eu∘iI∘Eu∘Eu∘iI;refine k6 rfl (call x.left _ D D) ?_;refine k6 rfl (call x.right _ D D) ?_;refine a4 B9 ?_;apply(qD);refine gS (aZ (iT ?_));refine dC L R ?_;exact⟨by rw[aMU aO b2 dZ],rfl,rfl⟩
def aLz(l:a0 eX)(dO:a0 Int)(L:aP)(R:aJ)(hl:aH (DT l) R)(hv:aH (cZ dO) R):
 aI prog 36 [l.val,dO.val].toArray L R (λv E G=>v=.int .i64 (v0 l.l dO.l)/\L=E/\R=G):=by
 refine bW 14 call36 func36 ?_;apply TK∘hM;refine cC rfl (aO9 l _ _ hl) ?_;apply(oW);apply(W)<;>intro aO;·exact aXb
 have M:CA l.l=true:=by simpa using aO
 have kD:=(Kk.1 M).1;apply(eR);iterate 3 apply(hM)
 apply vV∘kP;refine cC rfl (aI.cast (b7c l dO _ hl hv M (l.l.length-1) _ D) (by rw[show((l.l.length-1:Nat):Int)=(l.l.length:Int)-1 by omega];rfl)) ?_;apply(q3);refine dC L R ?_;exact⟨by rw[v0,if_pos M,Y3 D],rfl,rfl⟩
def b54(h:A->B:=by exact(aG lR ·)):=h
def b7F(h:A->B:=by exact(aG aYS ·)):=h
def aOY(h:B:=by exact⟨by rw[aJ7 (n:=s.bU.Y.aD.l.length) D D k D (by rw[AB];omega)],rfl,rfl⟩):=h
def aM1(h:A->B:=by exact(aG qI ·)):=h
def aMv(h:A->B:=by exact gJ O [0,1,2,3,4,5,6,7] ([a5.mk gK _ _]) cX bE a2):=h
def aQm(h:A->B:=by exact(a4 qI ·)):=h
def aKm(h:A->B:=by exact(aG a28 ·)):=h
def aQh(h:B:=by exact⟨by rw[oI,if_neg D,if_neg D,if_neg D,if_neg D,if_neg D,e],rfl,rfl⟩):=h
def b7L{x:fA}(h:qM x=0):0<=x.target:=by
 rw[qM]at h;split at h;·omega
 split at h;·rename_i V;rw[E4]at V;omega
 ·omega
def b8q(s:dQ)(L:aP)(R:aJ)(hs:aH (z9 s.cD) R)(hn:s.cD.l.length<=64):
 aI prog 203 [s.val].toArray L R (λv E G=>v=.int .i64 (J9 s.bU s.cD.l)/\L=E/\R=G):=by
 refine bW 62 call203 func203 ?_;apply(c8);intro gK;apply g7∘mM;refine c7 [(1,.pointer _),(3,.int _ _)] bP λeZ=>?_;refine gP (b4 2 60) (λg:H0 (yK s.bU s.cD.l) (s.cD.l.length)=>[(3,.int .i64 ((g.1:Nat):Int))]) (λg=>(s.cD.l.length)-g.1) ⟨0,G9 _ _⟩ ?_;rintro⟨fM,yR,g0⟩ bZ;try dsimp only
 apply(oJ);apply(W)<;>intro aO;·
  have rB:=bJ s.cD.l fM default;obtain⟨x,K⟩:∃x,x=s.cD.l.getD fM default:=⟨_,rfl⟩;rw[<-K]at rB;apply(CK);refine aG R6 ?_;refine aG Jq ?_;apply(dA);intro cT;apply rQ∘aM1;refine cC rfl (a4T x _ _) ?_;apply(kB);apply(W)<;>intro bF;·exact aZu
  have Ht:=b7L (x:=x) D;apply(eR);iterate 3 apply(eP)
  apply N8∘KL∘mT;refine v2 [6,33,34,35,36] ((⟨λg=>[(6,.int .i64 g.1)],λ_=>⟨cT,x.cells,88⟩::⟨gK,s.cells,38⟩::L,λ_=>R,λ_=>0⟩:dV {n:Int//n=if x.kind=5 then(s.bU.a3.l.length:Int)else s.bU.Y.aD.l.length})) ?_ ?_;·
   skip
   apply(W)<;>intro b2;·apply eK∘z3∘WD;exact aWY
   refine dK ?_;exact aWY
  rintro⟨bKI,aTn⟩ bZ;try dsimp only
  apply s2∘fH∘mT;refine v2 [6,40,41,42,43] ((⟨λg=>[(6,.int .i64 g.1)],λ_=>⟨cT,x.cells,88⟩::⟨gK,s.cells,38⟩::L,λ_=>R,λ_=>0⟩:dV {n:Int//n=J7 s.bU x})) ?_ ?_;·
   skip
   apply(W)<;>intro dZ;·apply eK∘z3∘WD;exact aWN
   refine dK ?_;exact aWN
  rintro⟨of,Og⟩ bZ;try dsimp only
  apply s2∘gE∘GY;apply(W)<;>intro dX;·apply(IU);refine dC L R ?_;have h:=zC g0 D (show yK s.bU s.cD.l fM=some 9 by rw[yK,<-K,if_neg D,if_pos (by rw[<-Og];omega)]);exact a3e
  apply eR∘mM;refine zY (b4 2 60) AZ [(3,.int _ _),(4,.pointer _),(7,.int _ _)] bP λnS=>?_;refine gP ([2,7]++b4 48 14) (λg:{j:Nat//j<=fM/\∀m:Nat,m<j->(s.cD.l.getD m default).hV≠x.hV}=>[(7,.int .i64 ((g.1:Nat):Int))]) (λg=>fM-g.1) (⟨0,by omega,λm hm=>by omega⟩) ?_;rintro⟨j,aY,hD⟩ bZ;try dsimp only
  apply(TF);apply(W)<;>intro h3;·
   have Us:=bJ s.cD.l j default;refine dK (aZ (a6 (e3 (a6 ?_))));refine gJ O [0,1,2,3,4,5,6,7,8] ([a5.mk cT _ _,a5.mk gK _ _]) cX bE a2 ?_;apply(oV);refine a4 Dc ?_;apply CJ∘iI;refine a4 B7 ?_;apply(vW);apply(W)<;>intro hW;·apply(rN);refine eI (aZ (iT (iS (gD (wS (iS (iS (gD (wS (iS (gD ?_)))))))))));refine dC L R ?_;have h:=zC g0 D (show yK s.bU s.cD.l fM=some 9 by rw[yK,<-K,if_neg D,if_neg (λh=>h (by rw[<-Og];omega)),if_pos ⟨j,by omega,hW⟩]);exact a3e
   apply(mD);exact aWK
  refine lC (lB (tT (lA (gV (aZ (cR ?_))))));apply(N7);exact dU ⟨fM+1,KH g0 D (aBR K D (by rw[<-Og];omega) (λm hm=>hD m D))⟩
 exact aZ9
def b4d(s:dQ)(c:m9)(L:aP)(R:aJ)(hs:aH (z9 s.cD) R)(hn:s.cD.l.length<=64):
 aI prog 204 [s.val,c.val].toArray L R (λv E G=>v=.int .i64 (H9 s.cD.l s.bU.Y.aD.l.length c)/\L=E/\R=G):=by
 refine bW 67 call204 func204 ?_;apply(c8);intro cS;apply(iU);intro dG;apply(KL);refine eI (aZ (e3 (a6 (a6 (cR ?_)))));apply(v8);apply(W)<;>intro aO;·refine dK (aZ ?_);exact a8l
 apply(oX);apply(W)<;>intro bF;·refine dK (aZ ?_);exact a8l
 apply(oX);apply(W)<;>intro b2;·refine dK (aZ ?_);exact a8l
 apply eK∘v8;exact a8l
def b2q(s:dQ)(z:jU)(L:aP)(R:aJ)(M:aH (DT z.jQ) R)(eC:aH (cZ z.aD) R):
 aI prog 205 [s.val,z.val].toArray L R (λv E G=>v=.int .i64 (CR s.dD.l.length s.bU.Y.aD.l.length z)/\L=E/\R=G):=by
 refine nN call205 eC λM5=>?_;refine bW 78 call205 func205 ?_;apply(c8);intro cS;apply(iU);intro dG;apply KL∘lM;refine cC rfl (b2U z.jQ s.dD.l.length _ _ M) ?_;apply(kB);apply(W)<;>intro aO;·exact aW6
 apply iK∘r8;apply cB (aC:=[_,_,_]) (j:=3) (a7:=19) rfl rfl aE rfl aW rfl;·exact GF
 intro iG;apply(c9);apply cB (aC:=[_,_,_]) (j:=8) (a7:=24) rfl rfl aE rfl aW rfl;·exact Ju
 intro wJ;apply(c9);apply cB (aC:=[_,_,_]) (j:=13) (a7:=29) rfl rfl aE rfl aW rfl;·exact Qz
 intro UW;apply(b3);apply(W)<;>intro bF;·exact aXr
 apply(zH);refine c7 [(2,.pointer _),(3,.pointer _),(6,.int _ _)] bP λeZ=>?_;refine gP ([4,6]++b4 34 44) (λg:{k:Nat//k<=z.aD.l.length/\∀j:Nat,j<k->¬AB s.bU.Y.aD.l.length z.aD.l j}=>[(6,.int .i64 ((g.1:Nat):Int))]) (λg=>z.aD.l.length-g.1) (⟨0,by omega,λj aY=>by omega⟩) ?_;rintro⟨k,hk,hD⟩ bZ;try dsimp only
 apply(oJ);apply(W)<;>intro b2;·
  have rZ:=bJ z.aD.l k 0;refine dK (aZ (a6 (e3 (a6 ?_))));refine gJ O [0,1,2,3,4,5,6,7,8,9,10,11,12,13,14,15,16,17,18,19,20,21,22,23,24,25,26,27,28,29,30,31,32,33,34,35,36] ([a5.mk dG _ _,a5.mk cS _ _]) cX bE a2 ?_;apply KK∘lW;refine a4 HY ?_;apply(tN);refine l0 (k:=47) aW (λk5=>?_) (λk5=>?_);·replace k5:=a8 k5;(iterate 11 apply(kQ));exact(mU) aYH
  replace k5:=a8 k5;apply KK∘lW;iterate 3 apply(kT)
  apply(U7);refine a4 vZ ?_;refine a4 JU ?_;apply(mU);refine l0 (k:=60) aW (λK6=>?_) (λK6=>?_);·replace K6:=a8 K6;exact aYH
  replace K6:=a8 K6;apply(g1);refine a4 YP ?_;apply(tN);refine l0 (k:=63) aW (λHa=>?_) (λHa=>?_);·
   replace Ha:=a8 Ha;have bFn:=bJ z.aD.l (k-1) 0;apply KK∘lW∘oV∘yZ;refine a4 aI3 ?_;apply(lW);refine a4 (a0K rfl rfl) ?_;apply LH∘m2;apply(W)<;>intro dZ;·apply(xE);refine dC L R ?_;exact aOY
   apply(mD);exact aHG
  replace Ha:=a8 Ha;iterate 12 apply(kQ)
  apply LH∘m2;refine QK rfl ?_;apply(mD);exact aHG
 exact b0c
def a5T(s:dQ)(L:aP)(R:aJ)(hs:zX s R):
 aI prog 121 [s.val].toArray L R (λv E G=>v=.int .i64 (oI s)/\L=E/\R=G):=by
 have jA:=hs.cD;have C7:=hs.dD;have pL:=hs.aU;have Be:=hs.mF;refine bW 100 call121 func121 ?_;apply(c8);intro gK;apply g7∘eP∘sD;refine cC rfl (Yu s.bU _ _ hs.bU) ?_;apply(kB);apply(W)<;>intro aO;·exact aW7
 apply iK∘S7∘c9;apply cB (aC:=[_,_,_,_]) (j:=4) (a7:=20) rfl rfl aE rfl aW rfl;·exact YT
 intro yU;apply(c9);apply cB (aC:=[_,_,_,_]) (j:=10) (a7:=26) rfl rfl aE rfl aW rfl;·intro qS;replace qS:=a8 qS;exact(S7) hL
 intro a7G;apply(c9);apply cB (aC:=[_,_,_,_]) (j:=16) (a7:=32) rfl rfl aE rfl aW rfl;·intro AO;replace AO:=a8 AO;exact(S7) hL
 intro a7I;apply(b3);apply(W)<;>intro bF;·exact aXs
 apply iK∘aM1;refine cC rfl (b8q s _ _ jA D) ?_;apply(kB);apply(W)<;>intro b2;·exact aZE
 apply(zH);refine c7 [(1,.pointer _),(5,.int _ _)] bP λeZ=>?_;refine gP ([2,5,6]++b4 43 17) (λg:FS (a9R s) (s.dD.l)=>[(5,.int .i64 ((g.1:Nat):Int))]) (λg=>(s.dD.l).length-g.1) ⟨0,BL _ _⟩ ?_;rintro⟨fM,yR,g0⟩ bZ;try dsimp only
 apply(oJ);apply(W)<;>intro dZ;·
  obtain⟨c,hc⟩:=mP s.dD.l fM;refine dK (aZ (a6 (e3 (a6 ?_))));apply aMv∘aQm∘oV;refine a4 R6 ?_;refine a4 a26 ?_;refine k6 rfl (b4d s c _ _ jA D) ?_;apply(qD);refine gS (aZ (a6 (cR ?_)));apply b1∘qP;apply(W)<;>intro dX;·exact aZB
  apply(mD);exact dU ⟨fM+1,CO g0 hc (a3U D)⟩
 have mX:=BC g0 D;refine lC (lB (tT (lA (aZ (a6 (a6 ?_))))));have nQ:SH s=0:=by rw[SH,mX];rfl
 apply(OG);refine c7 [(1,.pointer _),(7,.int _ _)] bP λnS=>?_;refine gP ([2,7,8]++b4 60 17) (λg:FS (a9O s) (s.aU.l)=>[(7,.int .i64 ((g.1:Nat):Int))]) (λg=>(s.aU.l).length-g.1) ⟨0,BL _ _⟩ ?_;rintro⟨eU,e6,kE⟩ bZ;try dsimp only
 apply(oJ);apply(W)<;>intro h3;·
  obtain⟨z,eC⟩:=mP s.aU.l eU;refine dK (aZ (a6 (e3 (a6 ?_))));apply aMv∘aQm∘oV;refine a4 Xy ?_;apply(Cp);refine k6 rfl (b2q s z _ _ (aH.jQ pL eC) (aH.a3t pL eC)) ?_;apply(qD);refine gS (aZ (a6 (cR ?_)));apply b1∘qP;apply(W)<;>intro hW;·exact aZe
  apply(mD);exact dU ⟨eU+1,CO kE eC (a3U D)⟩
 have s1:=BC kE D;refine lC (lB (tT (lA (aZ (a6 (a6 ?_))))));have bFm:KM s=0:=by rw[KM,s1];rfl
 apply(OG);refine c7 [(1,.pointer _),(9,.int _ _)] bP λNH=>?_;refine gP ([2,9]++b4 77 23) (λg:FS (Ks) (s.mF.l)=>[(9,.int .i64 ((g.1:Nat):Int))]) (λg=>(s.mF.l).length-g.1) ⟨0,BL _ _⟩ ?_;rintro⟨eE,hK,EC⟩ bZ;try dsimp only
 apply(oJ);apply(W)<;>intro oO;·
  obtain⟨p,hp⟩:=mP s.mF.l eE;apply CK∘aKm∘sW∘CI;apply cB (aC:=[_,_,_,_,_,_,_]) (j:=7) (a7:=91) rfl rfl aE rfl aW rfl;·intro hX;replace hX:=a8 hX;exact(gE∘aKm∘sW) PQ
  intro RP;apply(b3);apply(W)<;>intro FV;·apply(xE);refine dC L R ?_;(have e:TS s=19:=by rw[TS,A6 (f:=Ks) EC hp (show Ks p=some 19 from if_pos FV)];rfl);exact aQh
  apply(mD);exact aWR
 have zM:=BC EC D;apply(GZ);refine dC L R ?_;have e:TS s=0:=by rw[TS,zM];rfl
 exact aQh
end Go.Proofs.YtchfclmokpbldaaGreat
namespace Go.Proofs.YtchfclmokpbldaaGreat
open Go.Aw Go Go.Proofs.Tryz
section
attribute [local irreducible] cH c6 dP aI cJ eD e9 e0 e1 e5 eS e8 J.L
def OL(x:a9):Int:=if IZ x=1 then x.bG else if IZ x= -1 then -x.bO else 0
def Y9(r:eL)(bK:Int):Int:=1000*r.len*r.n7*bK
def SU(r:eL)(x:a9)(bK AX:Int):Prop:=Y9 r bK=0\/0<OL x/\Y9 r bK<=OL x*AX
instance(r:eL)(x:a9)(bK AX:Int):Decidable (SU r x bK AX):=by unfold SU;infer_instance
def a9J{x:a9}(h:IZ x=1):OL x=x.bG/\0<x.bG:=by
 refine⟨by rw[OL,if_pos h],?_⟩;rw[IZ]at h;split at h;·cases h
 split at h;·assumption
 split at h<;>cases h
def a92{x:a9}(h:IZ x= -1):OL x= -x.bO/\x.bO<0:=by
 refine⟨by rw[OL,if_neg D,if_pos h],?_⟩;rw[IZ]at h;split at h;·cases h
 split at h;·cases h
 split at h;·assumption
 ·cases h
def aAY{x:a9}(h:IZ x≠1)(cN:IZ x≠-1):OL x=0:=by rw[OL,if_neg h,if_neg cN]
def b14{x:a9}:0<=OL x:=by
 by_cases h:IZ x=1;·have:=a9J h;omega
 by_cases cN:IZ x= -1;·have:=a92 cN;omega
 rw[aAY h cN];omega
def aNA{r:eL}{bK:Int}(N:1<=r.len/\r.len<=100000)(V:1<=r.n7/\r.n7<=1000)(aQ:0<=bK/\bK<=100):
 (0<=1000*r.len*r.n7/\1000*r.len*r.n7<=100000000000)/\0<=1000*r.len*r.n7*bK/\1000*r.len*r.n7*bK<=10000000000000:=by have I1:0<=1000*r.len*r.n7:=y4 D D;have j5:1000*r.len*r.n7<=100000000*1000:=JS D D D D;have a0L:0<=1000*r.len*r.n7*bK:=y4 I1 D;have gK:1000*r.len*r.n7*bK<=100000000000*100:=JS D D D D;omega
def b68{n s l:Int}(hn:1<=n)(hs:0<s):(n+s-1).tdiv s<=l↔n<=l*s:=by rw[JQ D];have h:=Int.ediv_lt_iff_lt_mul (a:=n+s-1) (b:=l+1) hs;rw[Int.add_mul,Int.one_mul]at h;omega
def b5Q{n f s:Int}(hn:1<=n)(hf:0<f):s<=(n-1).tdiv f↔¬n<=f*s:=by rw[JQ D];have h:=Int.le_ediv_iff_mul_le (a:=s) (b:=n-1) hf;rw[Int.mul_comm]at h;omega
def b5c(r:eL)(x:a9)(bK AX:Int)(L:aP)(R:aJ)(N:1<=r.len/\r.len<=100000)(V:1<=r.n7/\r.n7<=1000)(aQ:0<=bK/\bK<=100)(b7:0<=AX/\AX<=2147483648):
 aI prog 233 [r.val,x.val,.int .i64 bK,.int .i64 AX].toArray L R (λv E G=>v=.bool (decide (SU r x bK AX))/\L=E/\R=G):=by
 have w3:=aNA N V aQ;refine bW 44 call233 func233 ?_;apply(c8);intro cT;apply(iU);intro eH;apply QU∘fH∘RW∘fH∘RW∘OC∘Ez∘mT;apply(W)<;>intro aO;·apply(OA);refine lG L R ?_;exact⟨by rw[decide_eq_true (p:=SU r x bK AX) (.inl aO)],rfl,rfl⟩
 have s1:1<=1000*r.len*r.n7*bK:=by omega
 apply iK∘b1∘mT;apply(W)<;>intro bF;·apply(OA);refine lG L R ?_;refine⟨by rw[decide_eq_false (p:=SU r x bK AX)];rintro(h|⟨_,h⟩)<;>rw[Y9]at h;omega;rw[bF,a8S]at h;omega,rfl,rfl⟩
 have i1:=λl=>b68 (l:=l) s1 (show 0<AX by omega);have UN:0<=(1000*r.len*r.n7*bK+AX-1).tdiv AX:=Int.tdiv_nonneg D D;have aGh:(1000*r.len*r.n7*bK+AX-1).tdiv AX<=100000000000000:=by rw[JQ D];have:=Xb (a:=1000*r.len*r.n7*bK+AX-1) AX D;omega
 apply WV∘z2∘kP∘b1∘PB∘g7∘oC;refine cC rfl (b4Z x _ _) ?_;refine eI (aZ (e3 (a6 (cR ?_))));apply(v8);apply(W)<;>intro b2;·apply cO∘gE∘DL∘uN∘NF;refine lG L R ?_;have hd:=a9J b2;refine⟨congrArg Value.bool (decide_eq_decide.2 ?_),rfl,rfl⟩;rw[i1,SU,Y9,hd.1];omega
 apply(oX);apply(W)<;>intro dZ;·apply cO∘gE∘x3∘Cl∘uN∘NF;refine lG L R ?_;have hd:=a92 dZ;refine⟨congrArg Value.bool (decide_eq_decide.2 ?_),rfl,rfl⟩;have:=i1 (-x.bO);rw[SU,Y9,hd.1];omega
 refine dK (gV (aZ (a6 (cR ?_))));apply(v9);refine lG L R ?_;have hd:=aAY b2 dZ;refine⟨by rw[decide_eq_false (p:=SU r x bK AX)];rintro(h|⟨h,_⟩);rw[Y9]at h;omega;omega,rfl,rfl⟩
def b7V(x:a9)(L:aP)(R:aJ)(K:-4611686018427387904<=x.bO):
 aI prog 293 [x.val].toArray L R (λv E G=>v=.int .i64 (OL x)/\L=E/\R=G):=by
 refine bW 14 call293 func293 ?_;apply(c8);intro gK;apply g7∘oC;refine cC rfl (b2p x _ _) ?_;refine eI (aZ (e3 (a6 (cR ?_))));apply(v8);apply(W)<;>intro aO;·apply N9∘Ld;refine dC L R ?_;exact⟨by rw[(a9J aO).1],rfl,rfl⟩
 apply(oX);apply(W)<;>intro bF;·have hd:=a92 bF;apply N9∘x3∘Ld;refine dC L R ?_;exact⟨by rw[hd.1],rfl,rfl⟩
 refine dK (gV (aZ (a6 (cR ?_))));apply(q3);refine dC L R ?_;exact⟨by rw[aAY aO bF],rfl,rfl⟩
end
def aPd{e:Int}(h:zR e=none):e=0:=by
 rw[zR]at h;split at h;·assumption
 ·cases h
def aLb{e x:Int}(h:zR e=some x):x≠0:=by
 rw[zR]at h;split at h;·cases h
 ·cases h;assumption
structure QF(s:dQ):Prop where
 bU:hO s.bU=0
 len:s.cD.l.length<=64/\s.dD.l.length<=64/\s.aU.l.length<=16/\s.mF.l.length<=64
 LJ:∀i:Nat,i<s.cD.l.length->yK s.bU s.cD.l i=none
 cond:∀c∈s.dD.l,H9 s.cD.l s.bU.Y.aD.l.length c=0
 dI:∀z∈s.aU.l,CR s.dD.l.length s.bU.Y.aD.l.length z=0
 Vt:∀p∈s.mF.l,1<=p/\p<=3
def b5o{a:bR}{S:List fA}{i:Nat}{e:Int}(h:yK a S i=some e):e≠0:=by
 rw[yK]at h;split at h;·cases h;assumption
 split at h;·cases h;decide
 split at h;·cases h;decide
 ·cases h
def KP{s:dQ}(h:oI s=0):QF s:=by
 rw[oI]at h;split at h;·omega
 split at h;·omega
 split at h;·omega
 split at h;·omega
 split at h;·omega
 rename_i N V aQ b7 eG;refine⟨by omega,by omega,λi aA=>?_,λc hc=>?_,λz eC=>?_,λp hp=>?_⟩;·
  have bAX:J9 s.bU s.cD.l=0:=by omega
  exact Fp (f:=yK s.bU s.cD.l) (λx e K=>b5o K) bAX i (List.mem_range.2 aA)
 ·
  have bA0:SH s=0:=by omega
  exact aPd (Fp (f:=λc=>zR (H9 s.cD.l s.bU.Y.aD.l.length c)) (λx e K=>aLb K) bA0 c hc)
 ·
  have bA2:KM s=0:=by omega
  exact aPd (Fp (f:=λz=>zR (CR s.dD.l.length s.bU.Y.aD.l.length z)) (λx e K=>aLb K) bA2 z eC)
 ·
  have:=Fp (f:=λp:Int=>if p<1\/3<p then some 19 else none) (λx e K=>by
   split at K;·cases K;decide
   ·cases K) h p hp
  exact Qa
def a3W{aV r4:Type}{f:aV->Option r4}{l:List aV}(h:∀x∈l,f x=none):l.findSome? f=none:=List.findSome?_eq_none_iff.2 h
def QF.pT{s:dQ}(h:QF s):oI s=0:=by
 have N:=h.bU;have V:=h.len;have dY:J9 s.bU s.cD.l=0:=by rw[J9,a3W (λi aA=>h.LJ i (List.mem_range.1 aA))];rfl
 have eY:SH s=0:=by rw[SH,a3W (λc hc=>by rw[zR,if_pos (h.cond c hc)])];rfl
 have nV:KM s=0:=by rw[KM,a3W (λz eC=>by rw[zR,if_pos (h.dI z eC)])];rfl
 have AE:TS s=0:=by rw[TS,a3W (λp hp=>if_neg (by have:=h.Vt p hp;omega))];rfl
 rw[oI,if_neg D,if_neg D,if_neg D,if_neg D,if_neg D,AE]
def aO6{S:List fA}{n:Nat}{c:m9}(h:H9 S n c=0):(1<=c.kind/\c.kind<=5)/\(0<=c.value/\c.value<=1099511627776)/\(c.kind=1->FI c.nI)/\
 (c.kind=5->0<=c.target/\c.target<n)/\(c.kind≠5->0<=c.target/\c.target<S.length)/\(c.kind=3->(S.getD c.target.toNat default).kind=5):=by
 rw[H9]at h;split at h;·omega
 rename_i N;split at h;·omega
 rename_i V;have aQ:Y8 S n c=0:=by omega
 have b7:c.kind=1->FI c.nI:=λhk=>by rw[if_pos hk,KN]at h;exact a8m
 rw[Y8]at aQ;split at aQ;·exact aWb
 split at aQ;·
  split at aQ;·rename_i eG;exact⟨by omega,by omega,b7,by omega,by omega,λ_=>eG.2⟩
  ·omega
 split at aQ;·exact aWb
 ·omega
structure MD{aV:Type}(nH:List aV)(g:Nat->aV)(i:Nat)(l:List aV):Prop where
 len:l.length=nH.length
 TX:∀j:Nat,j<i->l[j]?=some (g j)
 qV:∀j:Nat,i<=j->l[j]?=nH[j]?
def MD.zero{aV:Type}{nH:List aV}{g:Nat->aV}:MD nH g 0 nH:=⟨rfl,λj aY=>by omega,λj _=>rfl⟩
def MD.next{aV:Type}{nH:List aV}{g:Nat->aV}{i:Nat}{l:List aV}(h:MD nH g i l)(aA:i<nH.length){x:aV}(K:x=g i):MD nH g (i+1) (l.set i x):=by
 have hl:=h.len;refine⟨by simp[hl],λj aY=>?_,λj N=>?_⟩;·exact aXi
 ·rw[JR D];exact h.qV j D
def MD.EQ{aV:Type}{nH:List aV}{g:Nat->aV}{i:Nat}{l:List aV}(h:MD nH g i l)(K:nH[i]?=some (g i)):MD nH g (i+1) l:=by
 refine⟨h.len,λj aY=>?_,λj N=>h.qV j D⟩;rcases gY j i with N|N;·exact h.TX j N
 ·
  obtain rfl:j=i:=by omega
  rw[h.qV j (g4 _),K]
def MD.done{aV:Type}{nH:List aV}{g:Nat->aV}{l:List aV}(h:MD nH g nH.length l):l=(List.range nH.length).map g:=by
 have hl:=h.len;refine R2 λj=>?_;rcases gY j nH.length with aY|aY;·rw[h.TX j aY,pF,LN aY];rfl
 ·rw[sJ D,sJ B6]
section
attribute [local irreducible] cH c6 dP aI cJ eD e9 e0 e1 e5 eS e8 J.L
def a39(h:A->B:=by exact(a4 (by first|exact j9 O rfl rfl rfl rfl jC (i:=(z.aD.l.getD j 0).toNat) cW D|exact i9 O rfl rfl rfl rfl (i:=(z.aD.l.getD j 0).toNat) cW D) ·)):=h
def aA1(h:A->B:=by exact(a4 oG ·)):=h
def aAe(h:A->B:=by exact(aG aZi ·)):=h
def aJn(h:A->B:=by exact(a4 aZi ·)):=h
def aMV(h:A->B:=by exact(a4 aIS ·)):=h
def aLp(h:A->B:=by exact(a4 Dc ·)):=h
def aNJ{s:dQ}(h:QF s){r:eL}(M:r∈s.bU.Y.aD.l):(1<=r.len/\r.len<=100000)/\(1<=r.n7/\r.n7<=1000):=by
 have N:q0 s.bU.Y=0:=by
  have:=h.bU;rw[hO]at this;split at this;·exact this
  ·rename_i V;exact Decidable.not_not.1 V
 unfold q0 at N;split at N;·cases N
 split at N;·rename_i e X;subst N;exact aXj
 have sB:=Fp (f:=v6 s.bU.Y.places.l.length) (λx e K X=>by
  subst X;unfold v6 at K;split at K;·cases K
  ·split at K<;>cases K) N
 have:=sB r M;unfold v6 at this;split at this;·cases this
 split at this;·cases this
 rename_i V;omega
def aNr{s:dQ}(h:QF s){z:jU}(eC:z∈s.aU.l):(0<=z.hold/\z.hold<=100000)/\(0<=z.tG/\z.tG<=100)/\∀i:Nat,i<z.aD.l.length->0<=z.aD.l.getD i 0/\z.aD.l.getD i 0<s.bU.Y.aD.l.length:=by
 have:=h.dI z eC;rw[CR]at this;split at this;·omega
 split at this;·cases this
 rename_i N;split at this;·cases this
 rename_i V;refine⟨by omega,by omega,λi aA=>?_⟩;have:¬AB s.bU.Y.aD.l.length z.aD.l i:=λhb=>V ⟨i,aA,hb⟩;rw[AB]at this;omega
def aPB{s:dQ}(h:QF s){z:jU}(eC:z∈s.aU.l):z.aD.l.length<=128:=by
 have:=h.dI z eC;rw[CR]at this;split at this;·omega
 split at this;·cases this
 split at this;·cases this
 rename_i V;have hb:∀i:Nat,i<z.aD.l.length->¬AB s.bU.Y.aD.l.length z.aD.l i:=λi aA hb=>V ⟨i,aA,hb⟩;have up:∀i:Nat,i<z.aD.l.length->(i:Int)<=z.aD.l.getD i 0:=by
  intro i;induction i with
  |zero=>intro aA;have:=hb 0 aA;rw[AB]at this;omega
  |succ i cM=>intro aA;have N:=cM D;have V:=hb (i+1) aA;rw[AB,Nat.add_sub_cancel]at V;omega
 have hn:=(zE h.bU).Y.aD;rcases gY 128 z.aD.l.length with aQ|aQ;·have b7:=up 128 aQ;have eG:=hb 128 aQ;rw[AB]at eG;omega
 ·exact aQ
def SL(s:dQ)(Z:List a9)(z:jU)(AX r:Int):Prop:=¬SU (s.bU.Y.aD.l.getD r.toNat default) (Z.getD r.toNat default) z.tG AX
instance(s:dQ)(Z:List a9)(z:jU)(AX r:Int):Decidable (SL s Z z AX r):=by unfold SL;infer_instance
def TO(s:dQ)(Z:List a9)(c:b8)(z:jU)(t:Int):Int:=
 if c.off=false then 10
 else if(c.clear<0\/t<c.clear)\/t-c.clear<z.hold then 20
 else if∃r∈z.aD.l,SL s Z z (t-c.clear) r then 20 else 0
def sF(s:dQ)(c:List b8)(Z:List a9)(k t:Int):Int:=
 if k<0\/(c.length:Int)<=k then 17 else TO s Z (c.getD k.toNat default) (s.aU.l.getD k.toNat default) t
def b7W{s:dQ}{Z:List a9}{c:b8}{z:jU}{t:Int}(N:c.off=true)(V:¬((c.clear<0\/t<c.clear)\/t-c.clear<z.hold))(aQ:∀j:Nat,j<z.aD.l.length->¬SL s Z z (t-c.clear) (z.aD.l.getD j 0)):TO s Z c z t=0:=by rw[TO,if_neg (by rw[N];decide),if_neg V,if_neg];rintro⟨r,M,cV⟩;obtain⟨j,aY,rfl⟩:=Qm M;have:=aQ j aY;rw[iW,ET aY]at this;exact this cV
def aN6{s:dQ}{Z:List a9}{c:b8}{z:jU}{t r:Int}(N:c.off=true)(V:¬((c.clear<0\/t<c.clear)\/t-c.clear<z.hold))(M:r∈z.aD.l)(aQ:SL s Z z (t-c.clear) r):TO s Z c z t=20:=by rw[TO,if_neg (by rw[N];decide),if_neg V,if_pos ⟨r,M,aQ⟩]
structure IB(s:dQ)(c:a0 b8)(Z:a0 a9)(R:aJ):Prop where
 aK:zX s R
 aS:aH (sS c) R
 g8:aH (s3 Z) R
def aCk(s:dQ)(c:a0 b8)(Z:a0 a9)(k t:Int)(L:aP)(R:aJ)(h:IB s c Z R)(hok:QF s)(rU:c.l.length=s.aU.l.length/\Z.l.length=s.bU.Y.aD.l.length)(dS:0<=t/\t<=2147483648):
 aI prog 163 [s.val,c.val,Z.val,.int .i64 k,.int .i64 t].toArray L R (λv E G=>v=.int .i64 (sF s c.l Z.l k t)/\L=E/\R=G):=by
 have C7:=h.aS;have Gz:=h.g8;have pL:=h.aK.aU;have aGo:=h.aK.bU.aD;have oA:=hok.len;refine bW 80 call163 func163 ?_;apply(c8);intro eH;apply(WL);apply cB (aC:=[_,_,_,_]) (j:=2) (a7:=17) rfl rfl aE rfl aW rfl;·exact a3f
 intro mY;apply(b3);apply(W)<;>intro aO;·exact aXD
 have rR:=bJ c.l k.toNat default;have rZ:=bJ s.aU.l k.toNat default;have X:sF s c.l Z.l k t=TO s Z.l (c.l.getD k.toNat default) (s.aU.l.getD k.toNat default) t:=by rw[sF,if_neg D]
 obtain⟨z,eC⟩:∃z,z=s.aU.l.getD k.toNat default:=⟨_,rfl⟩;obtain⟨x,K⟩:∃x,x=c.l.getD k.toNat default:=⟨_,rfl⟩;rw[<-eC]at rZ X;rw[<-K]at rR X;have DH:=aNr hok (gU rZ);have tL:=aPB hok (gU rZ);have bFp:aH (cZ z.aD) R:=aH.a3t pL rZ;apply(x2);refine gJ O [0,1,2,3,4,5,6,7,8,9,10,11,12] _ cX bE g3 ?_;apply aA1∘g1∘aJn∘PC∘oV∘aJn∘Cp∘p2;intro FL;apply(p2);intro lN;apply sE∘sE∘LI∘fH∘oW;apply(W)<;>intro bF;·exact aXE
 have a1M:x.off=true:=by simpa using bF
 apply iK∘r8;apply cB (aC:=[_,_,_,_]) (j:=3) (a7:=38) rfl rfl aE rfl aW rfl;·intro eN;replace eN:=a8 eN;exact(gE) PQ
 intro iG;apply(c9);apply cB (aC:=[_,_,_,_,_,_,_]) (j:=9) (a7:=44) rfl rfl aE rfl aW rfl;·intro nY;replace nY:=a8 nY;exact(IW∘kP) R4
 intro Hx;apply(b3);apply(W)<;>intro b2;·exact aYe
 apply(QS);refine c7 [(2,.slice _ _ _),(4,.int _ _),(5,.pointer _),(11,.pointer _),(12,.pointer _),(54,.slice _ _ _),(55,.int _ _),(56,.int _ _)] bP λeZ=>?_;refine gP ([10,14]++b4 56 24) (λg:{j:Nat//j<=z.aD.l.length/\∀m:Nat,m<j->¬SL s Z.l z (t-x.clear) (z.aD.l.getD m 0)}=>[(56,.int .i64 ((g.1:Nat):Int))]) (λg=>z.aD.l.length-g.1) (⟨0,by omega,λm hm=>by omega⟩) ?_;rintro⟨j,aY,hD⟩ bZ;try dsimp only
 apply(h2);apply(W)<;>intro dZ;·
  have Us:=bJ z.aD.l j 0;have bCU:=DH.2.2 j D;have UP:=bJ s.bU.Y.aD.l ((z.aD.l.getD j 0).toNat) default;have OV:=bJ Z.l ((z.aD.l.getD j 0).toNat) default;have zN:=aNJ hok (gU UP);apply(j7);refine aG Dc ?_;apply jI∘zG;refine gJ O [0,1,2,3,4,5,6,7,8,9,10,11,12,13,14,15,16,17,18] _ cX bE g3 ?_;iterate 3 apply(kT)
  apply U7∘g1∘a39∘aMV∘aA1∘g1∘a39∘YH∘oV∘iI∘yZ;refine k6 rfl (b5c (s.bU.Y.aD.l.getD (z.aD.l.getD j 0).toNat default) (Z.l.getD (z.aD.l.getD j 0).toNat default) z.tG (t-x.clear) _ _ zN.1 zN.2 DH.2.1 D) ?_;refine a4 (PX rfl) ?_;apply(vW);apply(W)<;>intro dX;·apply(xE);refine dC L R ?_;exact⟨by rw[X,aN6 a1M D (gU Us) (by rw[SL];simpa using dX)],rfl,rfl⟩
  apply(n6);exact oQ (⟨j+1,by omega,λm hm=>by
  rcases gY m j with h|h;·exact hD m h
  ·(obtain rfl:m=j:=by omega);rw[SL];simpa using dX⟩)
 exact aZb
def aCx(s:dQ)(c:a0 b8)(Z:a0 a9)(k t:Int)(L:aP)(R:aJ)(h:IB s c Z R)(hok:QF s)(rU:c.l.length=s.aU.l.length/\Z.l.length=s.bU.Y.aD.l.length)(dS:0<=t/\t<=2147483648)(fW:∀x∈Z.l,-4611686018427387904<=x.bO):
 aI prog 270 [s.val,c.val,Z.val,.int .i64 k,.int .i64 t].toArray L R (λv E G=>v=.int .i64 (sF s c.l Z.l k t)/\L=E/\R=G):=by
 have C7:=h.aS;have Gz:=h.g8;have pL:=h.aK.aU;have aGo:=h.aK.bU.aD;have oA:=hok.len;refine bW 106 call270 func270 ?_;apply(c8);intro eH;apply(WL);apply cB (aC:=[_,_,_,_]) (j:=2) (a7:=19) rfl rfl aE rfl aW rfl;·exact a3f
 intro mY;apply(b3);apply(W)<;>intro aO;·exact aXD
 have rR:=bJ c.l k.toNat default;have rZ:=bJ s.aU.l k.toNat default;have X:sF s c.l Z.l k t=TO s Z.l (c.l.getD k.toNat default) (s.aU.l.getD k.toNat default) t:=by rw[sF,if_neg D]
 obtain⟨z,eC⟩:∃z,z=s.aU.l.getD k.toNat default:=⟨_,rfl⟩;obtain⟨x,K⟩:∃x,x=c.l.getD k.toNat default:=⟨_,rfl⟩;rw[<-eC]at rZ X;rw[<-K]at rR X;have DH:=aNr hok (gU rZ);have tL:=aPB hok (gU rZ);have bFp:aH (cZ z.aD) R:=aH.a3t pL rZ;apply iK∘h7∘aAe∘sW∘oW;apply(W)<;>intro bF;·exact aXE
 have a1M:x.off=true:=by simpa using bF
 apply eR∘gE∘aAe∘OH;intro FL;apply rP∘h7∘aAe∘sW∘WL;apply cB (aC:=[_,_,_]) (j:=2) (a7:=43) rfl rfl aE rfl aW rfl;·intro fD;replace fD:=a8 fD;exact(pS) PQ
 intro mY;apply(c9);apply cB (aC:=[_,_,_,_,_,_]) (j:=7) (a7:=48) rfl rfl aE rfl aW rfl;·intro hX;replace hX:=a8 hX;exact(b1∘S2) R4
 intro RP;apply(b3);apply(W)<;>intro b2;·exact aYe
 apply(zH);refine c7 [(2,.slice _ _ _),(4,.int _ _),(5,.pointer _),(11,.pointer _),(12,.int _ _),(13,.int _ _)] bP λeZ=>?_;refine gP ([10,13,14,15,16]++b4 56 50) (λg:{j:Nat//j<=z.aD.l.length/\∀m:Nat,m<j->¬SL s Z.l z (t-x.clear) (z.aD.l.getD m 0)}=>[(13,.int .i64 ((g.1:Nat):Int))]) (λg=>z.aD.l.length-g.1) (⟨0,by omega,λm hm=>by omega⟩) ?_;rintro⟨j,aY,hD⟩ bZ;try dsimp only
 apply(oJ);apply(W)<;>intro dZ;·
  have Us:=bJ z.aD.l j 0;have bCU:=DH.2.2 j D;have UP:=bJ s.bU.Y.aD.l ((z.aD.l.getD j 0).toNat) default;have OV:=bJ Z.l ((z.aD.l.getD j 0).toNat) default;have zN:=aNJ hok (gU UP);obtain⟨r,M⟩:∃r,r=s.bU.Y.aD.l.getD (z.aD.l.getD j 0).toNat default:=⟨_,rfl⟩;obtain⟨q,hq⟩:∃q,q=Z.l.getD (z.aD.l.getD j 0).toNat default:=⟨_,rfl⟩;rw[<-M]at UP zN;rw[<-hq]at OV;have w3:=aNA zN.1 zN.2 DH.2.1;have pY:=b14 (x:=q);have cV:SL s Z.l z (t-x.clear) (z.aD.l.getD j 0)↔¬SU r q z.tG (t-x.clear):=by rw[SL,M,hq]
  refine dK (aZ (a6 (e3 (a6 ?_))));refine gJ O [0,1,2,3,4,5,6,7,8,9,10,11,12] _ cX bE g3 ?_;iterate 3 apply(kT)
  apply U7∘oV∘aLp∘lW∘a39∘aMV∘p2;intro sA;apply sE∘F7;refine gJ O [0,1,2,3,4,5,6,7,8,9,10,11,12,13,14,15,16,17,18,19] _ cX bE g3 ?_;apply iI∘Co∘iI∘Co∘iI∘Co∘aA1∘oV∘aLp∘lW∘a39∘YH;refine k6 rfl (b7V q _ _ (fW _ (gU OV))) ?_;apply a0k∘LI∘b1∘mT;apply(W)<;>intro dX;·
   refine lC (lB (lA (aZ (cR ?_))));apply(N7);exact oQ ⟨j+1,by omega,λm hm=>by
   rcases gY m j with h|h;·exact hD m h
   ·(obtain rfl:m=j:=by omega);rw[cV,a8B];exact .inl dX⟩
  have s1:1<=1000*r.len*r.n7*z.tG:=by omega
  have Q9:=λ(h:0<OL q)=>b5Q (s:=t-x.clear) s1 h;have UN:0<=(1000*r.len*r.n7*z.tG-1).tdiv (OL q):=Int.tdiv_nonneg D pY;have aGh:(1000*r.len*r.n7*z.tG-1).tdiv (OL q)<=1000*r.len*r.n7*z.tG-1:=by rw[JQ D];exact Xb _ D
  apply WV∘tC;apply cB (aC:=[_,_,_,_,_,_,_,_]) (j:=2) (a7:=96) rfl rfl aE rfl aW rfl;·intro fD;replace fD:=a8 fD;exact(S2∘b1∘PB∘b1∘S2) PP
  intro mY;apply(b3);apply(W)<;>intro h3;·
   apply(xE);refine dC L R ?_;have aFv:¬SU r q z.tG (t-x.clear):=by
    rintro(h|⟨N,V⟩);·rw[Y9]at h;omega
    ·rw[Y9]at V;have:=Q9 N;omega
   exact⟨by rw[X,aN6 a1M D (gU Us) (cV.2 aFv)],rfl,rfl⟩
  apply(mD);exact oQ ⟨j+1,by omega,λm hm=>by
  rcases gY m j with h|h;·exact hD m h
  ·(obtain rfl:m=j:=by omega);rw[cV,a8B];have:=Q9 D;exact .inr ⟨by omega,by rw[Y9];omega⟩⟩
 exact aZb
def LY(h:A->B:=by exact(aG E0 ·)):=h
def Td(h:A->B:=by exact(aG qI ·)):=h
structure j4 where
 dI:Int
 first:Int
 Pw:Int
 step:Int
 time:Int
 deriving DecidableEq
def j4.cells(x:j4):List Value:=[.int .i64 x.dI,.int .i64 x.first,.int .i64 x.Pw,.int .i64 x.step,.int .i64 x.time]
abbrev j4.val(x:j4):Value:=.agg #[.int .i64 x.dI,.int .i64 x.first,.int .i64 x.Pw,.int .i64 x.step,.int .i64 x.time]
def u9:j4:=⟨-1,-1,-1,0,0⟩
def uO(s:dQ)(YD M9:Nat)(t:Int):Int:=if oI s≠0 then oI s else if¬(YD=s.aU.l.length/\M9=s.bU.Y.aD.l.length)then 11 else if t<0\/2147483648<t then 8 else 0
def aCP(s:dQ)(c:a0 b8)(Z:a0 a9)(t:Int)(L:aP)(R:aJ)(h:IB s c Z R):
 aI prog 162 [s.val,c.val,Z.val,.int .i64 t].toArray L R (λv E G=>v=.int .i64 (uO s c.l.length Z.l.length t)/\L=E/\R=G):=by refine bW 37 call162 func162 ?_;apply(c8);intro cT;apply g7∘Td;refine cC rfl (a49 s _ _ h.aK) ?_;exact aV3
def aBH(s:dQ)(c:a0 b8)(Z:a0 a9)(t:Int)(L:aP)(R:aJ)(h:IB s c Z R):
 aI prog 269 [s.val,c.val,Z.val,.int .i64 t].toArray L R (λv E G=>v=.int .i64 (uO s c.l.length Z.l.length t)/\L=E/\R=G):=by refine bW 37 call269 func269 ?_;apply(c8);intro cT;apply g7∘Td;refine cC rfl (a5T s _ _ h.aK) ?_;exact aV3
def Kv{s:dQ}{YD M9:Nat}{t:Int}(h:uO s YD M9 t=0):QF s/\(YD=s.aU.l.length/\M9=s.bU.Y.aD.l.length)/\0<=t/\t<=2147483648:=by
 rw[uO]at h;split at h;·omega
 rename_i N;split at h;·omega
 split at h;·omega
 exact⟨KP (Decidable.not_not.1 N),by omega,by omega⟩
def aBb(L:aP)(R:aJ):aI prog 77 ([]:List Value).toArray L R (λv E G=>v=u9.val/\L=E/\R=G):=by refine bW 2 call77 func77 ?_;exact aY3
def p9(s:dQ)(c:List b8)(Z:List a9)(r:j4)(p k t:Int):Int:=
 if uO s c.length Z.length t≠0 then uO s c.length Z.length t
 else if r.dI≠-1 then 10
 else if p<0\/(s.mF.l.length:Int)<=p\/s.mF.l.getD p.toNat 0≠1 then 19
 else sF s c Z k t
def u0(s:dQ)(c:List b8)(Z:List a9)(r:j4)(p k t:Int):j4:=if p9 s c Z r p k t=0 then⟨k,p,-1,1,t⟩else r
def a4v{s:dQ}{c:List b8}{Z:List a9}{r:j4}{p k t e:Int}(h:p9 s c Z r p k t=e)(X:e≠0):u0 s c Z r p k t=r:=by rw[u0,if_neg D]
def b7v(s:dQ)(c:a0 b8)(Z:a0 a9)(r:j4)(p k t:Int)(L:aP)(R:aJ)(h:IB s c Z R):
 aI prog 84 [s.val,c.val,Z.val,r.val,.int .i64 p,.int .i64 k,.int .i64 t].toArray L R (λv E G=>v=.tuple #[(u0 s c.l Z.l r p k t).val,.int .i64 (p9 s c.l Z.l r p k t)]/\L=E/\R=G):=by
 have Be:=h.aK.mF;refine bW 64 call84 func84 ?_;apply(c8);intro kL;apply(iU);intro jE;apply(dA);intro sA;apply g7∘Td∘TH;refine cC rfl (aCP s c Z t _ _ h) ?_;apply(kB);apply(W)<;>intro aO;·exact(cO∘LY) b0F
 obtain⟨hok,kD,dS⟩:=Kv (s:=s) (YD:=c.l.length) (M9:=Z.l.length) (t:=t) D;apply GW∘qP;apply(W)<;>intro bF;·exact(cO∘LY) aYP
 apply(OB);apply cB (aC:=[_,_,_,_,_]) (j:=2) (a7:=33) rfl rfl aE rfl aW rfl;·exact Jg
 intro mY;apply(c9);apply cB (aC:=[_,_,_,_,_,_,_]) (j:=9) (a7:=40) rfl rfl aE rfl aW rfl;·exact aZW
 intro Hx;apply(b3);apply(W)<;>intro b2;·exact(cO∘LY) b1a
 have X:p9 s c.l Z.l r p k t=sF s c.l Z.l k t:=by rw[p9,if_neg aO,if_neg bF,if_neg D]
 apply iK∘Td∘TH∘b1;refine cC rfl (aCk s c Z k t _ _ h hok kD dS) ?_;apply(kB);apply(W)<;>intro dZ;·apply cO∘LY∘tZ;exact aWS
 exact b0y
def P7(r:j4)(t:Int):Prop:=t<r.time\/r.time<t-600
instance(r:j4)(t:Int):Decidable (P7 r t):=by unfold P7;infer_instance
def aN5(r:j4)(t:Int)(L:aP)(R:aJ)(dS:0<=t/\t<=2147483648):
 aI prog 164 [r.val,.int .i64 t].toArray L R (λv E G=>v=.bool (decide (P7 r t))/\L=E/\R=G):=by
 refine bW 16 call164 func164 ?_;apply(c8);intro cS;apply QU∘b1∘r8;apply cB (aC:=[_,_,_,_,_]) (j:=4) (a7:=9) rfl rfl aE rfl aW rfl;·intro gW;replace gW:=a8 gW;exact(a5i) GD
 intro yU;apply(v9);refine lG L R ?_;exact⟨by refine congrArg Value.bool ?_;rw[Jb,decide_eq_true_iff (p:=P7 r t),P7];simp,rfl,rfl⟩
def TN(s:dQ)(r:j4)(p:Int):Prop:=
 p<0\/(s.mF.l.length:Int)<=p\/p=r.first\/r.first<0\/(s.mF.l.length:Int)<=r.first\/s.mF.l.getD p.toNat 0=s.mF.l.getD r.first.toNat 0
instance(s:dQ)(r:j4)(p:Int):Decidable (TN s r p):=by unfold TN;infer_instance
def tD(s:dQ)(c:List b8)(Z:List a9)(r:j4)(p t:Int):Int:=
 if uO s c.length Z.length t≠0 then uO s c.length Z.length t
 else if r.dI= -1\/r.step≠1 then 10
 else if TN s r p then 19
 else if P7 r t then 8
 else sF s c Z r.dI t
def vL(s:dQ)(c:List b8)(Z:List a9)(r:j4)(p t:Int):j4:=if tD s c Z r p t=0 then⟨r.dI,r.first,p,2,t⟩else r
def a4P{s:dQ}{c:List b8}{Z:List a9}{r:j4}{p t e:Int}(h:tD s c Z r p t=e)(X:e≠0):vL s c Z r p t=r:=by rw[vL,if_neg D]
def b20(s:dQ)(c:a0 b8)(Z:a0 a9)(r:j4)(p t:Int)(L:aP)(R:aJ)(h:IB s c Z R):
 aI prog 86 [s.val,c.val,Z.val,r.val,.int .i64 p,.int .i64 t].toArray L R (λv E G=>v=.tuple #[(vL s c.l Z.l r p t).val,.int .i64 (tD s c.l Z.l r p t)]/\L=E/\R=G):=by
 have Be:=h.aK.mF;refine bW 102 call86 func86 ?_;apply(c8);intro hP;apply(iU);intro h8;apply(dA);intro lN;apply g7∘Td∘TH;refine cC rfl (aCP s c Z t _ _ h) ?_;apply(kB);apply(W)<;>intro aO;·exact(cO∘LY) b0C
 obtain⟨hok,kD,dS⟩:=Kv (s:=s) (YD:=c.l.length) (M9:=Z.l.length) (t:=t) D;apply GW∘tC;apply cB (aC:=[_,_,_]) (j:=3) (a7:=30) rfl rfl aE rfl aW rfl;·exact Jh
 intro iG;apply(b3);apply(W)<;>intro bF;·exact(cO∘LY) aYR
 apply eR∘lM∘OD;refine gJ O [0,1,2,3,4,5,6,7,8,9,10,11,12,13,14,15,16,17,18,19,20,21,22,23,24,25,26,27,28,29,30,31,32,33,34,35,36,37,38,39] _ cX bE g3 ?_;apply(g1);refine a4 HY ?_;apply(tN);refine l0 (k:=41) aW (λjM=>?_) (λjM=>?_);·
  replace jM:=a8 jM;iterate 3 apply(kQ)
  apply(mU);exact aW4
 replace jM:=a8 jM;apply g1∘g1;refine a4 JU ?_;apply(mU);refine l0 (k:=46) aW (λkC=>?_) (λkC=>?_);·replace kC:=a8 kC;exact aW4
 replace kC:=a8 kC;apply g1∘iI;refine a4 B7 ?_;apply(mU);refine l0 (k:=52) aW (λu4=>?_) (λu4=>?_);·
  replace u4:=a8 u4;iterate 3 apply(kQ)
  exact(mU) aIX
 replace u4:=a8 u4;apply(iI);refine a4 HY ?_;apply(mU);refine l0 (k:=57) aW (λUC=>?_) (λUC=>?_);·replace UC:=a8 UC;exact aIX
 replace UC:=a8 UC;apply(oV);refine a4 JU ?_;apply(mU);refine l0 (k:=63) aW (λUD=>?_) (λUD=>?_);·
  replace UD:=a8 UD;iterate 14 apply(kQ)
  apply(m2);refine wR rfl ?_;exact(cO∘LY) Xf
 replace UD:=a8 UD;have BT:=bJ s.mF.l p.toNat 0;have DE:=bJ s.mF.l r.first.toNat 0;apply(oV);refine a4 aIC ?_;apply CJ∘WP;refine a4 aYW ?_;apply(CJ);refine a4 B7 ?_;apply(m2);apply(W)<;>intro b2;·exact(cO∘LY) Xf
 have a6T:¬TN s r p:=by rw[TN];omega
 apply iK∘LY∘b1;refine cC rfl (aN5 r t _ _ dS) ?_;apply(b3);apply(W)<;>intro dZ;·exact(cO∘LY) aYo
 have X:tD s c.l Z.l r p t=sF s c.l Z.l r.dI t:=by rw[tD,if_neg aO,if_neg D,if_neg a6T,if_neg Jk]
 apply iK∘Td∘Fb∘gE;refine cC rfl (aCk s c Z r.dI t _ _ h hok kD dS) ?_;apply(kB);apply(W)<;>intro dX;·apply cO∘LY∘tZ;exact aWW
 apply eR∘LY∘dA;intro I3;exact(rP∘pS∘r7∘r7∘G3∘LY) aZT
end
def B4(n:Nat)(x:eX):eX:=⟨x.kind,x.cond,if x.kind=1 then x.left else x.left+n,if x.kind=3\/x.kind=4 then x.right+n else x.right⟩
def aPm{l m:List eX}{i:Nat}(h:i<l.length):(l++m).getD i default=l.getD i default:=by rw[iW,HU h,<-iW]
def Yn{a c:List eX}: ∀(n:Nat) (i f d:Int),i<a.length->k3 a n i=some (f,d)->k3 (a++c) n i=some (f,d)
 |0,i,f,d,_,h=>by rw[k3]at h;cases h
 |n+1,i,f,d,aA,h=>by
  rw[k3]at h|-
  split at h
  ·cases h
  rename_i bQ
  rw[if_neg bQ,aPm D]
  split at h
  ·rename_i N;rw[if_pos N];exact h
  rename_i N
  rw[if_neg N]
  split at h
  ·rename_i V
   rw[if_pos V]
   split at h
   ·cases h
   rename_i BM a0S hp
   rw[Yn n _ _ _ D hp]
   exact h
  rename_i V
  rw[if_neg V]
  split at h
  ·rename_i aQ
   rw[if_pos aQ]
   split at h
   ·cases h
   rename_i x y hp
   rw[Yn n _ _ _ D hp]
   dsimp only
   split at h
   ·rename_i b7
    rw[if_pos b7]
    split at h
    ·cases h
    rename_i x5 aHX hq
    have:=(VU _ _ _ _ hp).1
    rw[Yn n _ _ _ D hq]
    exact h
   ·cases h
  ·cases h
def b8m{a b c:List eX}{i:Nat}(h:i<b.length):(a++b.map (B4 a.length)++c).getD (a.length+i) default=B4 a.length (b.getD i default):=by rw[aPm B6,iW,NM D,Nat.add_sub_cancel_left,pF,iL (l:=b) (k:=i) default h];rfl
def a3N{a b c:List eX}: ∀(n:Nat) (i f d:Int),i<b.length->k3 b n i=some (f,d)->k3 (a++b.map (B4 a.length)++c) n (a.length+i)=some (a.length+f,d)
 |0,i,f,d,_,h=>by rw[k3]at h;cases h
 |n+1,i,f,d,aA,h=>by
  rw[k3]at h|-
  split at h
  ·cases h
  rename_i bQ
  rw[if_neg D,show((a.length:Int)+i).toNat=a.length+i.toNat by omega,b8m D]
  generalize b.getD i.toNat default=x at h|-
  split at h
  ·rename_i N
   have dY:(B4 a.length x).kind=1:=N
   rw[if_pos dY]
   split at h
   ·rename_i V
    rw[if_pos (by rw[B4,if_pos N,if_neg D];exact V)]
    cases h
    rfl
   ·cases h
  rename_i N
  have dY:¬(B4 a.length x).kind=1:=N
  rw[if_neg dY]
  split at h
  ·rename_i V
   have eY:(B4 a.length x).kind=2:=V
   rw[if_pos eY]
   split at h
   ·cases h
   rename_i BM a0S hp
   have cM:=a3N (a:=a) (c:=c) n _ _ _ D hp
   rw[show(a.length:Int)+i-1=a.length+(i-1) by omega,cM]
   dsimp only
   split at h
   ·rename_i aQ
    rw[if_pos (by rw[B4,if_neg N,if_neg D];dsimp only;omega)]
    cases h
    rfl
   ·cases h
  rename_i V
  have eY:¬(B4 a.length x).kind=2:=V
  rw[if_neg eY]
  split at h
  ·rename_i aQ
   have nV:(B4 a.length x).kind=3\/(B4 a.length x).kind=4:=aQ
   rw[if_pos nV]
   split at h
   ·cases h
   rename_i m r hp
   have cM:=a3N (a:=a) (c:=c) n _ _ _ D hp
   rw[show(a.length:Int)+i-1=a.length+(i-1) by omega,cM]
   dsimp only
   split at h
   ·rename_i b7
    rw[if_pos (by rw[B4,if_neg N,if_pos aQ];dsimp only;omega)]
    split at h
    ·cases h
    rename_i BM q hq
    have:=(VU _ _ _ _ hp).1
    have bFu:=a3N (a:=a) (c:=c) n _ _ _ D hq
    rw[show(a.length:Int)+m-1=a.length+(m-1) by omega,bFu]
    dsimp only
    cases h
    rfl
   ·cases h
  ·cases h
def Ea:Nat->Nat
 |0=>1
 |n+1=>2*Ea n+1
structure FA(dD:Nat)(Q0:Nat)(l:List eX):Prop where
 len:1<=l.length/\l.length<=Ea Q0
 part:∃d:Int,k3 l l.length ((l.length:Int)-1)=some (0,d)/\d<=Q0+1
 dD:∀x∈l,x.kind=1->x.cond<dD
 kind:∀x∈l,1<=x.kind/\x.kind<=4
 YK:∀x∈l,(0<=x.left/\x.left<=l.length)/\0<=x.right/\x.right<=l.length
def b2j: ∀n,1<=Ea n
 |0=>g4 _
 |n+1=>by rw[Ea];omega
def FA.aUj{dD Q0:Nat}{k:Int}(hk:0<=k/\k<dD)(hc:dD<=64):FA dD Q0 [⟨1,k,0,0⟩]:=by
 have:=b2j Q0;refine⟨by simp;omega,⟨1,?_,by omega⟩,λx K _=>?_,λx K=>?_,λx K=>?_⟩;·
  have e:k3 [⟨1,k,0,0⟩] 1 0=some (0,1):=by have XF:([⟨1,k,0,0⟩]:List eX).getD (0:Int).toNat default=⟨1,k,0,0⟩:=rfl;rw[k3,if_neg D,XF,if_pos (show(⟨1,k,0,0⟩:eX).kind=1 from rfl),if_pos (show(⟨1,k,0,0⟩:eX).left=0/\(⟨1,k,0,0⟩:eX).right=0/\0<=(⟨1,k,0,0⟩:eX).cond/\(⟨1,k,0,0⟩:eX).cond<64 from⟨rfl,rfl,hk.1,(by show k<64;omega)⟩)]
  exact e
 ·rw[List.mem_singleton.1 K];exact hk.2
 ·rw[List.mem_singleton.1 K];dsimp only;omega
 ·rw[List.mem_singleton.1 K];dsimp only;simp
def FA.neg{dD Q0:Nat}{a:List eX}(ha:FA dD Q0 a):FA dD (Q0+1) (a++[⟨2,0,(a.length:Int)-1,0⟩]):=by
 have hl:=ha.len;obtain⟨d,hp,hd⟩:=ha.part;refine⟨by rw[iD,Ea];simp;omega,⟨d+1,?_,by omega⟩,λx K hk=>?_,λx K=>?_,λx K=>?_⟩;·
  rw[iD,pN,k3];rw[if_neg D];have e:(a++[(⟨2,0,(a.length:Int)-1,0⟩:eX)]).getD (((a.length+1:Nat):Int)-1).toNat default=⟨2,0,(a.length:Int)-1,0⟩:=by rw[show(((a.length+1:Nat):Int)-1).toNat=a.length by omega,iW,NM D,Ws];rfl
  rw[e,if_neg (show¬(2:Int)=1 by decide),if_pos (show(2:Int)=2 from rfl),show((a.length+1:Nat):Int)-1-1=(a.length:Int)-1 by omega,Yn _ _ _ _ D hp];dsimp only;rw[if_pos ⟨rfl,rfl,by omega⟩]
 ·
  rcases List.mem_append.1 K with h|h;·exact ha.dD x h hk
  ·rw[List.mem_singleton.1 h]at hk;cases hk
 ·
  rcases List.mem_append.1 K with h|h;·exact ha.kind x h
  ·exact a8q
 ·
  rw[iD,pN];rcases List.mem_append.1 K with h|h;·have:=ha.YK x h;omega
  ·exact a8q
def FA.bGR{dD Q0:Nat}{a b:List eX}{k:Int}(ha:FA dD Q0 a)(hb:FA dD Q0 b)(hk:k=3\/k=4):
 FA dD (Q0+1) (a++b.map (B4 a.length)++[⟨k,0,(a.length:Int)-1,((a.length+b.length:Nat):Int)-1⟩]):=by
 have hl:=ha.len;have XV:=hb.len;obtain⟨d,hp,hd⟩:=ha.part;obtain⟨d2,EC,a1t⟩:=hb.part;have rU:(a++b.map (B4 a.length)++[(⟨k,0,(a.length:Int)-1,((a.length+b.length:Nat):Int)-1⟩:eX)]).length=a.length+b.length+1:=by simp;omega
 refine⟨by rw[rU,Ea];omega,⟨max d d2+1,?_,by omega⟩,λx K e6=>?_,λx K=>?_,λx K=>?_⟩;·
  rw[rU,k3,if_neg D];have e:(a++b.map (B4 a.length)++[(⟨k,0,(a.length:Int)-1,((a.length+b.length:Nat):Int)-1⟩:eX)]).getD (((a.length+b.length+1:Nat):Int)-1).toNat default=⟨k,0,(a.length:Int)-1,((a.length+b.length:Nat):Int)-1⟩:=by rw[show(((a.length+b.length+1:Nat):Int)-1).toNat=a.length+b.length by omega,iW,NM fX,show a.length+b.length-(a++b.map (B4 a.length)).length=0 by simp];rfl
  rw[e,if_neg k1,if_neg k1,if_pos hk];have gC:=a3N (a:=a) (c:=[(⟨k,0,(a.length:Int)-1,((a.length+b.length:Nat):Int)-1⟩:eX)]) _ _ _ _ D EC;have dJ:=Yn (c:=b.map (B4 a.length)++[(⟨k,0,(a.length:Int)-1,((a.length+b.length:Nat):Int)-1⟩:eX)]) _ _ _ _ D hp;rw[<-mQ]at dJ;rw[show((a.length+b.length+1:Nat):Int)-1-1=(a.length:Int)+((b.length:Int)-1) by omega,a0n _ (a.length+b.length) _ _ D gC];dsimp only;rw[if_pos ⟨rfl,by omega,by omega⟩,show(a.length:Int)+0-1=(a.length:Int)-1 by omega,a0n _ (a.length+b.length) _ _ D dJ]
 ·
  rcases List.mem_append.1 K with h|h;·
   rcases List.mem_append.1 h with h|h;·exact ha.dD x h e6
   ·obtain⟨y,aN,rfl⟩:=List.mem_map.1 h;exact hb.dD y aN e6
  ·rw[List.mem_singleton.1 h]at e6;dsimp only at e6;omega
 ·
  rcases List.mem_append.1 K with h|h;·
   rcases List.mem_append.1 h with h|h;·exact ha.kind x h
   ·obtain⟨y,aN,rfl⟩:=List.mem_map.1 h;exact hb.kind y aN
  ·exact a8q
 ·
  rw[rU];rcases List.mem_append.1 K with h|h;·
   rcases List.mem_append.1 h with h|h;·have:=ha.YK x h;omega
   ·obtain⟨y,aN,rfl⟩:=List.mem_map.1 h;have:=hb.YK y aN;rw[B4];dsimp only;constructor<;>split<;>omega
  ·exact a8q
def FA.right{dD:Nat}{l:List eX}(h:FA dD 2 l):CA l=true:=by obtain⟨d,hp,hd⟩:=h.part;have hl:=h.len;have e:Ea 2=7:=rfl;exact Kk.2 ⟨by omega,d,hp,by omega⟩
def FA.pT{dD:Nat}{l:List eX}(h:FA dD 2 l):H8 l dD=0:=by rw[H8,if_neg (by rw[h.right];decide),if_neg];rintro⟨x,K,hk,hc⟩;have:=h.dD x K hk;omega
def b4X{P:Program}(w:World)(t ty e:TypeId)(i:TypeInfo)(dS:P.underlying t=some (.slice e))(aA:P.info? e=some i)(b off YJ Cr:Nat)(a:Option Addr)(c:Nat)(hl:YJ<=Cr):
 (Builtin.append_ #[t,t] ty #[.slice (some ⟨b,off,none⟩) YJ Cr,.slice a 0 c]).run P w=.ok (.slice (some ⟨b,off,none⟩) YJ Cr) w:=by
 have cI:=run_storeCells_cells (P:=P) b (off+YJ*i.size) [] 0 w fX fX fX;cases a with
 |none=>simp[Builtin.append_,run_underlying dS,sizeOf,typeInfo,aA,Builtin.lenOf,hl,Builtin.firstCells,storeCells]
 |some a=>have hf:=run_firstCells_some (P:=P) w i.size 0 a 0 c [] fX fX;simp[Builtin.append_,run_underlying dS,sizeOf,typeInfo,aA,Builtin.lenOf,hl,hf,storeCells]
section
variable{P:Program}{bA:Operand->Value}{L:aP}{R:aJ}{dst:Option Tmp}{ty:TypeId}{pos:String}{after:Array Edge}{guard:Option (Nat×Bool)}(O:pP P){T:TypeId}{x y:Operand}
def b5s{e n Z g5 z eE fL qR nC iX}{b YJ Cr c:Nat}{j6:Option Addr}(dN:hT O.g2 T=some ⟨.slice e,n,Z,g5,z⟩)(c1:hT O.g2 e=some ⟨eE,fL,qR,nC,iX⟩)(K:bA x=.slice (some ⟨b,0,none⟩) YJ Cr)(aN:bA y=.slice j6 0 c)(hl:YJ<=Cr):
 eD P ⟨dst,.call ⟨.builtin .append,#[x,y],#[T,T]⟩,ty,pos,after,guard⟩ bA L R (λv E G=>v=.slice (some ⟨b,0,none⟩) YJ Cr/\L=E/\R=G):=by
 intro yN w cI a next Q hB
 have c4:=QX (O.ok _ _ dN) rfl;obtain⟨jB,u,qJ,UV,Pl,Cb,Vm⟩:=MA (O.ok _ _ c1);have dY:execOp bA ⟨dst,.call ⟨.builtin .append,#[x,y],#[T,T]⟩,ty,pos,after,guard⟩=(do pure (.value (<-Builtin.append_ #[T,T] ty #[bA x,bA y]))):=by exact a8o
 have M:=b4X w T ty e jB c4 UV b 0 YJ Cr j6 c hl;refine TQ (w':=w) (v:=.slice (some ⟨b,0,none⟩) YJ Cr) ?_ (hB _ _ _ w ⟨rfl,rfl,rfl⟩ cI);rw[dY,K,aN];simp only[y5,M,wO,NL]
end
def a9W{aV:Type}{f:aV->List Value}(N: ∀x,(f x).all (·.oneCell')=true): ∀l:List aV,(l.flatMap f).all (·.oneCell')=true
 |[]=>rfl
 |x::l=>by rw[EW,List.all_append,N x,a9W N l];rfl
def b3X{aV:Type}{f:aV->List Value}{aR:Nat}{n5:TypeId}{q:J aV}{L:aP}{R:aJ}(hf:∀x,(f x).length=aR)(hok:q.ok aR f)(jN:sN (q.L n5 f) L)(hm:0<q.l.length):Fm L R q.val q.l.length aR (q.l.flatMap f):=by obtain⟨g,cap,spare,ho⟩:=J.a2t hok hm;refine⟨⟨g,0,none⟩,cap,by rw[J.val,ho];rfl,L9 hf q.l,λc w cI j u aY=>?_⟩;have DC:(⟨g,q.l.flatMap f++spare,n5⟩:a5)∈L:=jN _ (by rw[J.L,ho];simp[gZ.L]);exact aXB
section
variable{P:Program}{bA:Operand->Value}{L:aP}{R:aJ}{dst:Option Tmp}{ty:TypeId}{pos:String}{after:Array Edge}{guard:Option (Nat×Bool)}(O:pP P){T:TypeId}{x y:Operand}
def b3C{aV:Type}{e n Z g5 z eE fL qR nC iX}{f:aV->List Value}(p q:J aV){n5:TypeId}{F:J aV->aP}(dN:hT O.g2 T=some ⟨.slice e,n,Z,g5,z⟩)(c1:hT O.g2 e=some ⟨eE,fL,qR,nC,iX⟩)(zM:iX.length=fL)
 (K:bA x=p.val) (aN:bA y=q.val) (hok:p.ok fL f) (bD4:q.ok fL f) (hf:∀x,(f x).length=fL) (vQ:sR e f p L F) (BO:sN (q.L n5 f) L) (hm:0<q.l.length) (N:∀x,(f x).all (·.oneCell')=true) (MR:(p.l.length+q.l.length)*(nC+1)<=140737488355328):
 eD P ⟨dst,.call ⟨.builtin .append,#[x,y],#[T,T]⟩,ty,pos,after,guard⟩ bA L R (λv E G=>∃o:gZ,v=(⟨o,p.l++q.l⟩:J aV).val/\(⟨o,p.l++q.l⟩:J aV).ok fL f/\F ⟨o,p.l++q.l⟩=E/\R=G):=by
 have RK:Fm L R q.val q.l.length fL (q.l.flatMap f):=b3X hf bD4 BO hm;rw[<-aN]at RK;obtain⟨A,B,c2,h1⟩:=vQ.split;subst c2;have yQ:(p.l.length+q.l.length)*nC<=140737488355328:=GB (a8v _ (Nat.le_succ _)) MR;have AJ:p.l.length+q.l.length<=140737488355328:=GB (a8M _ (a8R _)) MR;have Bw:bA x=p.o.val p.l.length:=by rw[K,gZ.aHV hok];rfl
 have:=a43 (dst:=dst) (ty:=ty) (pos:=pos) (after:=after) (guard:=guard) O dN c1 zM Bw hok (a9N A _ B) RK hm (a9W N _) D yQ;intro c w cI Tl next Q hB
 refine this c w cI Tl next Q ?_
 rintro v E G w' ⟨g,cap,spare,rfl,FZ,rfl,rfl⟩ rA;have e:p.l.flatMap f++q.l.flatMap f=(p.l++q.l).flatMap f:=by simp
 rw[e]at FZ;have hl:(p.l++q.l).length=p.l.length+q.l.length:=by simp
 exact aHF
end
def aK9{lZ:Type}(ws:List Nat)(k0:Nat->Value)(hd:dV lZ)(Q:gA):gA
 | .normal,t,L,R=>∃g,lD ws k0 t/\DR t (hd.uP g)/\(∃L4,L.Perm L4/\(hd.L g).Sublist L4)/\∀r∈hd.R g,aH r R
 |e,t,L,R=>Q e t L R
def Y7{lZ:Type}{ws:List Nat}{k0 t:Nat->Value}{L L4:aP}{R:aJ}{hd:dV lZ}{Q:gA}(g:lZ)(ho:lD ws k0 t)(hs:DR t (hd.uP g))(hp:L.Perm L4)(c2:(hd.L g).Sublist L4)(bD:∀r∈hd.R g,aH r R):aK9 ws k0 hd Q .normal t L R:=⟨g,ho,hs,⟨L4,hp,c2⟩,bD⟩
def aN0{P n code t L E R}{Q:gA}(hp:L.Perm E)(h:cH P n code t E R Q):cH P n code t L R Q:=W3 λ_ _ cI=>⟨_,_,cI.DJ hp,h⟩
def a0r{lZ:Type}{P n x y t L R}{Q:gA}(ws:List Nat)(hd:dV lZ)(h:cH P n x t L R (aK9 ws t hd Q))(k:∀g bZ,cH P n y (B5 (AH ws t bZ) (hd.uP g)) (hd.L g) (hd.R g) Q):cH P n x t L R (e9 P n y Q):=by
 intro c a w hf hs;refine wp_mono (h c a w hf hs) ?_;rintro e a w ⟨q9,t',E,G,hq,AN,uK⟩;cases e with
 |normal=>
  obtain⟨g,ho,RK,⟨L4,hp,c2⟩,bD⟩:=hq;have e:B5 (AH ws t t') (hd.uP g)=t':=by rw[Yo ho,Rh RK]
  refine⟨trivial,t',E,G,?_,AN,uK⟩;have:=k g t';rw[e]at this;exact aN0 hp (uV c2 bD this)
 |_=>exact⟨q9,t',E,G,hq,AN,uK⟩
def aLQ{P:Program}{dst:Option Tmp}{f:FuncId}{xs:List Operand}{rG:Array TypeId}{pos:String}{after:Array Edge}{guard:Option (Nat×Bool)}{ty:TypeId}{t:Nat->Value}{L:aP}{R:aJ}{args:List Value}{Post:oY}(ha:xs.map (h9 t)=args)
 (h:aI P f args.toArray L R Post):eD P ⟨dst,.call ⟨.value (.func f),xs.toArray,rG⟩,ty,pos,after,guard⟩ (h9 t) L R Post:=
 a0A (by rw[<-ha];simp) rfl h
def cJ.aDC{P op bA L R v}(h:cJ P op bA L R v):eD P op bA L R (λWn E G=>Wn=v/\L=E/\R=G):=by exact aXF
def Dw{aV:Type}{P n code t L R}{Q:gA}{T:TypeId}{f:aV->List Value}{aR:Nat}(p:J aV)(eQ:aJ){F:J aV->aP}(vQ:sR T f p L F)(hf: ∀x,(f x).length=aR)(xW:0<aR)(hok:p.ok aR f)(hs: ∀s∈eQ,aH s R)
 (h:cH P n code t (F J.nil) (p.U.fI aR f eQ::R) Q):cH P n code t L R Q:=by
 obtain⟨A,B,c2,h1⟩:=vQ.split;rw[h1]at h;rw[c2,mQ];refine vF eQ hf xW hok hs ?_;have e:A++(J.nil:J aV).L T f++B=A++B:=by rw[lT,EX]
 rw[<-e];exact h
def hG{aV:Type}{P n code t L R}{Q:gA}(T:TypeId)(f:aV->List Value)(aR:Nat){F:J aV->aP}(p:J aV)(eQ:aJ)(hok:p.ok aR f)(h:cH P n code t (F J.nil) (p.U.fI aR f eQ::R) Q)(vQ:sR T f p L F:=by exact c0)(hf:∀x,(f x).length=aR:=by exact bI)(xW:0<aR:=by exact bH)(hs:∀s∈eQ,aH s R:=by exact lQ):cH P n code t L R Q:=Dw (T:=T) (f:=f) (aR:=aR) (p:=p) (eQ:=eQ) (vQ:=vQ) (hf:=hf) (xW:=xW) (hok:=hok) (hs:=hs) (h:=h)
section
attribute [local irreducible] cH c6 dP aI cJ eD e9 e0 e1 e5 eS e8 J.L
def a4b(h:A->B:=by exact gO Dg rfl):=h
def a6i(h:A->B:=by exact(aG (h4 O ((⟨b.o,Ga⟩:J eX)) _ rfl rfl ((show _=Value.slice _ _ _ from rfl).trans (by simp only[J.val,aSy])) rfl bC (i:=i) cW iC) ·)):=h
def aBf(h:A->B:=by exact(aG (h4 O ((⟨b.o,l2⟩:J eX)) _ rfl rfl ((show _=Value.slice _ _ _ from rfl).trans (by simp only[J.val,FT])) rfl bC (i:=i) cW iC) ·)):=h
def a94(h:A->B:=by exact(aG (qK O ((⟨b.o,Ga⟩:J eX)) rfl rfl rfl c0 bC bI bC aE) ·)):=h
def aQT(h:A->B:=by exact(aG (mI (hN:=[(0,(Value.int _ _).cells.toList),(1,(Value.int _ _).cells.toList)]) (cU:=[_,_,_,_]) O rfl rfl rfl rfl) ·)):=h
def aKk(h:A->B:=by exact(aG (qK O ((⟨b.o,l2⟩:J eX)) rfl rfl rfl c0 bC bI bC aE) ·)):=h
def a5p(c:Nat)(x:a0 Int)(R:aJ)(dD n:Nat):Prop:= ∀k,k<=x.l.length->aI prog 93 [.pointer (some ⟨c,0,none⟩),.int .i64 (dD:Int),.int .i64 (n:Int)].toArray [eT c x k] R
 (λv E G=>∃(p:J eX) (b5:Nat),v=p.val/\p.ok 4 eX.cells/\FA dD n p.l/\b5<=x.l.length/\p.L 172 eX.cells++(eT c x b5::[])=E/\R=G)
def b9l(c:Nat)(x:a0 Int)(R:aJ)(dD:Nat)(K:jK x R)(hc:1<=dD/\dD<=64):a5p c x R dD 0:=by
 intro k hk;refine bW 106 call93 func93 ?_;apply cO∘z5∘WE;refine GK (k:=13) aW (λfD=>?_) (λfD=>?_);·
  replace fD:=a8 fD;iterate 3 refine SE rfl rfl ?_
  refine aG VJ ?_;apply(b3);refine wR rfl ?_;apply cO∘G4;refine cK (nA hC K hk D) ?_;rintro v E G ⟨k8,eU,rfl,u1,yO,Lu,e6,rfl,rfl⟩;have Tz:=yO D;apply aQT∘a4b;rintro v E G ⟨KR,rfl,rfl,K0⟩;replace K0:=K0.symm;subst K0;apply jS∘AU;refine lJ (E:=(⟨.own KR 1 [],[⟨1,k8,0,0⟩]⟩:J eX).L 172 eX.cells++(eT c x eU::[])) (G:=R) vD ?hp ?c2 ?bD;case hp=>exact⟨⟨.own KR 1 [],[⟨1,k8,0,0⟩]⟩,eU,rfl,V4 bI rfl bH,FA.aUj D hc.2,e6,rfl,rfl⟩
  case c2=>rw[<-Lj (f:=eX.cells) [⟨1,k8,0,0⟩] rfl];exact oR _
  case bD=>exact mB _
 replace fD:=a8 fD;(exfalso;omega)
def b8d{aV r4:Type}[Inhabited aV]{l:List aV}{f:aV->r4}:(List.range l.length).map (λj=>f (l.getD j default))=l.map f:=by
 refine R2 λj=>?_;rcases gY j l.length with aY|aY;·rw[pF,LN aY,pF,iL (l:=l) (k:=j) default aY];rfl
 ·rw[sJ B6,sJ B6]
def b16{aV:Type}{l:List aV}{i:Nat}{x:aV}(h:l[i]?=some x):l.set i x=l:=by
 refine R2 λj=>?_;rw[EU];split;·
  rename_i e;subst e;rw[h];split;·rfl
  ·rename_i hn;rw[sJ D]at h;cases h
 ·rfl
def aOQ(c:Nat)(x:a0 Int)(R:aJ)(dD n:Nat)(K:jK x R)(hc:1<=dD/\dD<=64)(hn:Ea n<=100)(zM:n<=100)(cM:a5p c x R dD n):a5p c x R dD (n+1):=by
 intro k hk;have call: ∀k,k<=x.l.length->aI prog 93 [.pointer (some ⟨c,0,none⟩),.int .i64 (dD:Int),.int .i64 (((n+1:Nat):Int)-1)].toArray [eT c x k] R
  (λv E G=>∃(p:J eX) (b5:Nat),v=p.val/\p.ok 4 eX.cells/\FA dD n p.l/\b5<=x.l.length/\p.L 172 eX.cells++(eT c x b5::[])=E/\R=G):=λk hk=>by
  rw[show((n+1:Nat):Int)-1=(n:Int) by omega];exact cM k hk
 refine bW 106 call93 func93 ?_;apply cO∘z5∘WE;refine GK (k:=13) aW (λfD=>?_) (λfD=>?_);·replace fD:=a8 fD;(exfalso;omega)
 replace fD:=a8 fD;refine kM (A2 VH) ?_;refine Lp rfl (nA hC K hk D) rfl rfl ?_;rintro v E G ⟨EN,fM,rfl,a1,bAO,bIZ,yR,rfl,rfl⟩;refine kM B7 ?_;refine aG VJ ?_;apply(b3);apply(W)<;>intro aO;·
  apply cO∘G4;refine cK (nA hC K yR D) ?_;rintro v E G ⟨k8,eU,rfl,u1,yO,Lu,e6,rfl,rfl⟩;have Tz:=yO D;apply aQT∘a4b;rintro v E G ⟨KR,rfl,rfl,K0⟩;replace K0:=K0.symm;subst K0;apply jS∘AU;refine lJ (E:=(⟨.own KR 1 [],[⟨1,k8,0,0⟩]⟩:J eX).L 172 eX.cells++(eT c x eU::[])) (G:=R) vD ?hp ?c2 ?bD;case hp=>exact⟨⟨.own KR 1 [],[⟨1,k8,0,0⟩]⟩,eU,rfl,V4 bI rfl bH,FA.aUj D hc.2,e6,rfl,rfl⟩
  case c2=>rw[<-Lj (f:=eX.cells) [⟨1,k8,0,0⟩] rfl];exact oR _
  case bD=>exact mB _
 apply eR∘G4∘S2;refine cK (call _ yR) ?_;rintro v E G ⟨a,eE,rfl,a6Q,aEC,hK,rfl,rfl⟩;have hD:=aEC.len;apply z5∘hS;refine cK (WC hC K hK D) ?_;rintro v E G ⟨Ac,i2,rfl,l4,rfl,rfl⟩;apply(b3);apply(W)<;>intro bF;·apply cO∘hM∘QQ;refine aG (mI (hN:=[(0,(Value.int _ _).cells.toList),(2,(Value.int _ _).cells.toList)]) (cU:=[_,_,_,_]) O rfl rfl rfl rfl) ?_;apply(a4b);rintro v E G ⟨a6n,rfl,rfl,Mn⟩;replace Mn:=Mn.symm;subst Mn;refine gO (j2 (f:=eX.cells) (p:=a) (a:=⟨2,0,(a.l.length:Int)-1,0⟩) O rfl rfl rfl rfl (a6Q) c0 j8 rfl kH) rfl ?_;rintro v E G ⟨aUz,rfl,bDN,rfl,rfl⟩;apply jS∘AU;refine bN ((⟨aUz,a.l++[⟨2,0,(a.l.length:Int)-1,0⟩]⟩:J eX).L 172 eX.cells++(eT c x i2::[])) R vD ?_;exact⟨(⟨aUz,_⟩:J eX),i2,rfl,bDN,aEC.neg,l4,rfl,rfl⟩
 apply eR∘G4∘S2;refine cK (aI.Cs (.wE (.MM .nil)) (call _ l4)) ?_;rintro v E G ⟨_,rfl,b,eV,rfl,Gq,aEH,m4,rfl,rfl⟩;simp only[mQ,oF,m0];have Gr:=aEH.len;apply(WN);refine c7 [(0,.pointer _),(7,.slice _ _ _),(8,.slice _ _ _),(9,.int _ _)] bP λeZ=>?_;refine kO ([9]++b4 42 46) ((⟨λg=>[(9,.int .i64 ((g.1.1:Nat):Int))],λg=>a.L 172 eX.cells++((⟨b.o,g.1.2⟩:J eX).L 172 eX.cells++(eT c x eV::[])),λ_=>R,λg=>b.l.length-g.1.1⟩:dV {g:Nat×List eX//g.1<=b.l.length/\MD b.l (λj=>B4 a.l.length (b.l.getD j default)) g.1 g.2})) (⟨(0,b.l),by dsimp only;omega,.zero⟩) ?_;rintro⟨⟨i,l2⟩,aA,pA⟩ bZ;try dsimp only
 dsimp only at aA pA;have FT:=pA.len;have bBY:(⟨b.o,l2⟩:J eX).ok 4 eX.cells:=J.oZ bI Gq FT;apply(uA);apply(W)<;>intro b2;·
  have aSD:=bJ b.l i default;have Ao:=pA.qV i (g4 _);rw[aSD]at Ao;have MQ:=λ(z:eX)=>pA.next (x:=z) D;obtain⟨y,aN⟩:∃y,y=b.l.getD i default:=⟨_,rfl⟩;have bEQ:=aEH.YK _ (gU aSD);rw[<-aN]at Ao MQ bEQ;refine dK (aZ (a6 (e3 (a6 (a6 (cR ?_))))));apply h7∘aBf∘k7∘aKk∘qP;refine v2 (b4 54 10) ((⟨λ_=>[],λg=>a.L 172 eX.cells++((⟨b.o,g.1⟩:J eX).L 172 eX.cells++(eT c x eV::[])),λ_=>R,λ_=>0⟩:dV {g:List eX//g=l2.set i ⟨y.kind,y.cond,if y.kind=1 then y.left else y.left+a.l.length,y.right⟩})) ?_ ?_;·
   skip
   apply(W)<;>intro dZ;·apply yH∘aBf∘k7∘aKk∘nO∘l8∘aBf∘k7;refine i4 (jL O ((⟨b.o,l2⟩:J eX)) (⟨y.kind,y.cond,y.left+a.l.length,y.right⟩) rfl rfl rfl rfl c0 bC bI bC bH aE aE) ?_;rintro v E G ⟨rfl,rfl⟩;apply(zT);exact nZ ⟨l2.set i ⟨y.kind,y.cond,y.left+a.l.length,y.right⟩,by rw[if_neg dZ]⟩
   refine dK ?_;exact nZ ⟨l2,by rw[if_pos D];exact(b16 Ao).symm⟩
  rintro⟨Ga,yQ⟩ bZ;try dsimp only
  have aSy:Ga.length=b.l.length:=by rw[yQ,p6];exact FT
  have bJo:(⟨b.o,Ga⟩:J eX).ok 4 eX.cells:=J.oZ bI Gq aSy;have bJm:Ga[i]?=some ⟨y.kind,y.cond,if y.kind=1 then y.left else y.left+a.l.length,y.right⟩:=by rw[yQ];exact tQ D
  apply TC∘a6i∘k7∘a94∘tC;apply cB (aC:=[_,_,_,_,_,_]) (j:=6) (a7:=70) rfl rfl aE rfl aW rfl;·intro kC;replace kC:=a8 kC;exact(h7∘a6i∘k7∘a94) LP
  intro JG;apply(b3);apply(W)<;>intro dX;·apply yH∘a6i∘k7∘a94∘nO;refine aG (aKw rfl rfl k1 k1) ?_;apply a6i∘k7;refine i4 (jL O ((⟨b.o,Ga⟩:J eX)) (⟨y.kind,y.cond,if y.kind=1 then y.left else y.left+a.l.length,y.right+a.l.length⟩) rfl rfl rfl rfl c0 bC bI bC bH aE aE) ?_;rintro v E G ⟨rfl,rfl⟩;apply(GV);exact dU ⟨(i+1,Ga.set i ⟨y.kind,y.cond,if y.kind=1 then y.left else y.left+a.l.length,y.right+a.l.length⟩),by dsimp only;omega,by dsimp only;rw[yQ,y6];exact MQ _ (by rw[B4,if_pos dX])⟩
  apply(mD);exact dU ⟨(i+1,Ga),by dsimp only;omega,by dsimp only;rw[yQ];exact MQ _ (by rw[B4,if_neg (show¬(y.kind=3\/y.kind=4) by omega)])⟩
 obtain rfl:i=b.l.length:=by omega
 have JA:=pA.done;rw[b8d]at JA;apply oD∘nO∘nO∘l8∘mL∘Fb;refine gO (b3C O a (⟨b.o,l2⟩:J eX) rfl rfl rfl rfl ((show _=Value.slice _ _ _ from rfl).trans (by simp only[J.val,FT])) a6Q bBY bI c0 x8 k1 bI k1) rfl ?_;rintro v E G ⟨bGg,rfl,bD0,rfl,rfl⟩;apply(hS);refine cK (E8 hC K m4 D) ?_;rintro v E G ⟨rE,vS,rfl,KW,I4,uJ,rfl,rfl⟩;apply QQ∘S2;refine aG (mI (hN:=[(0,(Value.int _ _).cells.toList),(2,(Value.int _ _).cells.toList),(3,(Value.int _ _).cells.toList)]) (cU:=[_,_,_,_]) O rfl rfl rfl rfl) ?_;apply(a4b);rintro v E G ⟨bAb,rfl,rfl,Md⟩;replace Md:=Md.symm;subst Md;refine gO (j2 (f:=eX.cells) (p:=(⟨bGg,a.l++l2⟩:J eX)) (a:=⟨rE,0,(a.l.length:Int)-1,(a.l.length:Int)+b.l.length-1⟩) O rfl rfl rfl rfl (bD0) c0 j8 rfl kH) rfl ?_;rintro v E G ⟨a7Q,rfl,aFz,rfl,rfl⟩;apply(S4);refine bN ((⟨a7Q,a.l++l2++[⟨rE,0,(a.l.length:Int)-1,(a.l.length:Int)+b.l.length-1⟩]⟩:J eX).L 172 eX.cells++(eT c x vS::[])) R vD ?_;refine⟨(⟨a7Q,_⟩:J eX),vS,rfl,aFz,?_,uJ,rfl,rfl⟩;have:=aEC.bGR aEH (k:=rE) D;rw[show((a.l.length+b.l.length:Nat):Int)=(a.l.length:Int)+b.l.length by omega]at this;rw[JA];exact this
def b8S(c:Nat)(x:a0 Int)(R:aJ)(dD:Nat)(K:jK x R)(hc:1<=dD/\dD<=64):a5p c x R dD 2:=
 aOQ c x R dD 1 K hc bH bH (aOQ c x R dD 0 K hc bH bH (b9l c x R dD K hc))
def aNf(h:A->B:=by exact(cK (E8 hC K hk D) ·)):=h
def aMa(h:A->B:=by exact(aG aIm ·)):=h
def b6o{c:Nat}{x:a0 Int}{k:Nat}{L:aP}{F:List Value->aP}{R:aJ}(c4:zA c (qN x k) 168 L F)(K:jK x R)(hk:k<=x.l.length):
 aI prog 94 [.pointer (some ⟨c,0,none⟩)].toArray L R
  (λv E G=>∃(r:Int) (b5:Nat),v=.int .i64 r/\(-1<=r/\r<=1)/\b5<=x.l.length/\F (qN x b5)=E/\R=G):=by refine bW 6 call94 func94 ?_;apply cO∘mL∘hS;refine cK (nA c4 K hk D) ?_;rintro v E G ⟨k8,eU,rfl,u1,yO,Lu,e6,rfl,rfl⟩;have Tz:=yO D;apply kP∘q3;refine dC (F (qN x eU)) R ?_;exact⟨k8-1,eU,rfl,by omega,e6,rfl,rfl⟩
structure Ed(l:wV):Prop where
 cut:1<=l.cut/\l.cut<=120
 clear:0<=l.clear/\l.clear<l.cut
 TW:0<=l.TW/\l.TW<=11
def Ed.ok{l:wV}(h:Ed l):FI l:=by have N:=h.cut;have V:=h.clear;have aQ:=h.TW;rw[FI];omega
def b4H(c:Nat)(x:a0 Int)(k:Nat)(R:aJ)(K:jK x R)(hk:k<=x.l.length):
 aI prog 173 [.pointer (some ⟨c,0,none⟩)].toArray [eT c x k] R
  (λv E G=>∃(l:wV) (b5:Nat),v=l.val/\Ed l/\b5<=x.l.length/\eT c x b5::[]=E/\R=G):=by refine bW 15 call173 func173 ?_;apply(IV);intro cS;apply WM∘aNf;rintro v E G ⟨k8,eU,rfl,u1,yO,e6,rfl,rfl⟩;apply(hS);refine cK (nA hC K e6 D) ?_;rintro v E G ⟨lH,eE,rfl,q7,u2,a00,hK,rfl,rfl⟩;have a01:=u2 D;refine aG (mI (hN:=[(0,(Value.int _ _).cells.toList),(2,(Value.int _ _).cells.toList)]) (cU:=[_,_,_]) O rfl rfl rfl rfl) ?_;apply(dA);intro dG;apply rP∘hS∘fH;refine cK (nA hC K hK D) ?_;rintro v E G ⟨rE,i2,rfl,KW,I4,Ua,l4,rfl,rfl⟩;have a02:=I4 D;apply(G3);refine aG lR ?_;apply(wA);refine bN [eT c x i2] R (pG rfl VM) ?_;exact⟨⟨k8,rE,lH⟩,i2,rfl,⟨by dsimp only;omega,by dsimp only;omega,by dsimp only;omega⟩,l4,rfl,rfl⟩
def b4b{c:Nat}{x:a0 Int}{k:Nat}{L:aP}{F:List Value->aP}{R:aJ}(c4:zA c (qN x k) 168 L F)(K:jK x R)(hk:k<=x.l.length):
 aI prog 173 [.pointer (some ⟨c,0,none⟩)].toArray L R
  (λv E G=>∃(l:wV) (b5:Nat),v=l.val/\Ed l/\b5<=x.l.length/\F (qN x b5)=E/\R=G):=
 (aI.TU (xA:=λv gH G=> ∃(l:wV) (b5:Nat),v=l.val/\Ed l/\b5<=x.l.length/\gH=qN x b5/\R=G) c4 (b4H c x k R K hk)
  (λv E G ⟨y,b5,N,V,eG,gF,iF⟩=>⟨_,gF,y,b5,N,V,eG,rfl,iF⟩)).mono
  (λv E G ⟨gH,bQ,y,b5,N,V,eG,gF,iF⟩=>⟨y,b5,N,V,eG,by rw[<-gF];exact bQ,iF⟩)
def a96{c:Nat}{x:a0 Int}{k:Nat}{kind hV target:Int}{L:aP}{F:List Value->aP}{R:aJ}(c4:zA c (qN x k) 168 L F)(K:jK x R)(hk:k<=x.l.length):
 aI prog 91 [.pointer (some ⟨c,0,none⟩),.int .i64 kind,.int .i64 hV,.int .i64 target].toArray L R
  (λv E G=>∃(s:fA) (b5:Nat),v=s.val/\Rw kind hV target s/\b5<=x.l.length/\F (qN x b5)=E/\R=G):=
 (aI.TU (xA:=λv gH G=> ∃(s:fA) (b5:Nat),v=s.val/\Rw kind hV target s/\b5<=x.l.length/\gH=qN x b5/\R=G) c4 (b8C c x k kind hV target R K hk)
  (λv E G ⟨y,b5,N,V,eG,gF,iF⟩=>⟨_,gF,y,b5,N,V,eG,rfl,iF⟩)).mono
  (λv E G ⟨gH,bQ,y,b5,N,V,eG,gF,iF⟩=>⟨y,b5,N,V,eG,by rw[<-gF];exact bQ,iF⟩)
structure Jv(S:List fA)(n:Nat)(c:m9):Prop where
 pT:H9 S n c=0
 value:0<=c.value/\c.value<=60
 nI:Ed c.nI
def b2R{S:List fA}{n:Nat}{c:m9}(hk:c.kind=1\/c.kind=2\/c.kind=4\/c.kind=5)(hv:0<=c.value/\c.value<=60)(hl:Ed c.nI)(dS:0<=c.target/\c.target<if c.kind=5 then(n:Int)else S.length):Jv S n c:=by
 refine⟨?_,hv,hl⟩;have hb:Y8 S n c=0:=by
  rw[Y8];rcases hk with h|h|h|h;·exact aHL
  ·exact aHL
  ·exact aHL
  ·rw[if_pos h]at dS;rw[if_neg D,if_neg D,if_pos h,if_pos D]
 rw[H9,if_neg D,if_neg D,KN,if_pos hl.ok];split<;>rfl
def b3J{S:List fA}{n:Nat}{c:m9}{i:Nat}(hk:c.kind=3)(hv:0<=c.value/\c.value<=60)(hl:Ed c.nI)(dS:c.target=(i:Int))(aA:i<S.length)(hs:(S.getD i default).kind=5):Jv S n c:=by
 refine⟨?_,hv,hl⟩;have hb:Y8 S n c=0:=by rw[Y8,if_neg D,if_pos hk,if_pos];refine⟨by omega,?_⟩;rw[dS,vY];exact hs
 rw[H9,if_neg D,if_neg D,if_neg D]
def b6X(c:Nat)(x:a0 Int)(k:Nat)(s:dQ)(R:aJ)(K:jK x R)(hk:k<=x.l.length)(hs:aH (z9 s.cD) R)(hn:1<=s.cD.l.length/\s.cD.l.length<=1000)(M:1<=s.bU.Y.aD.l.length/\s.bU.Y.aD.l.length<=1000):
 aI prog 92 [.pointer (some ⟨c,0,none⟩),s.val].toArray [eT c x k] R
  (λv E G=>∃(z:m9) (b5:Nat),v=z.val/\Jv s.cD.l s.bU.Y.aD.l.length z/\b5<=x.l.length/\eT c x b5::[]=E/\R=G):=by
 refine bW 54 call92 func92 ?_;apply(c8);intro dG;apply(dA);intro cT;apply WM∘aNf;rintro v E G ⟨k8,eU,rfl,u1,yO,e6,rfl,rfl⟩;apply(hS);refine cK (E8 hC K e6 D) ?_;rintro v E G ⟨lH,eE,rfl,q7,u2,hK,rfl,rfl⟩;apply(hS);refine cK (b4b hC K hK) ?_;rintro v E G ⟨l,i2,rfl,hl,l4,rfl,rfl⟩;refine aG (mI (hN:=[(0,(Value.int _ _).cells.toList),(2,(Value.int _ _).cells.toList),(3,(Value.agg _).cells.toList)]) (cU:=[_,_,_,_,_,_]) O rfl rfl rfl rfl) ?_;apply(dA);intro eH;apply G6∘mT;refine v2 ([6]++b4 18 18) ((⟨λ_=>[],λg=>⟨eH,m9.cells ⟨g.1,0,lH,l⟩,102⟩::⟨cT,[.int .i64 0,.int .i64 0,.int .i64 0,.int .i64 0,.int .i64 0,.int .i64 0],102⟩::⟨dG,s.cells,38⟩::eT c x i2::[],λ_=>R,λ_=>0⟩:dV {g:Int//g=1\/g=2\/g=4\/g=5})) ?_ ?_;·
  skip
  apply(W)<;>intro aO;·
   apply s2∘mM;refine zY ([6]++b4 18 18) AZ [(6,.int _ _)] bP λeZ=>?_;refine gP ([6]++b4 18 17) (λg:{j:Nat//j<=s.cD.l.length}=>[(6,.int .i64 ((g.1:Nat):Int))]) (λg=>s.cD.l.length-g.1) (⟨0,by omega⟩) ?_;rintro⟨j,aY⟩ bZ;(try dsimp only);apply(oJ);apply(W)<;>intro bF;·
    have xS:=bJ s.cD.l j default;apply(CK);refine aG Dc ?_;apply sW∘mT;apply(W)<;>intro b2;·apply yF∘G3∘aMa∘i3;refine eI (aZ (iT (iS (gD (wS (iS (gD (a4t ?_))))))));refine bN [eT c x i2] R (pG rfl (Y1 (row:=[_,_,_,_,_,_]) O rfl rfl rfl o0 aE aE)) ?_;exact⟨⟨k8,(j:Int),lH,l⟩,i2,rfl,b3J (i:=j) aO k1 hl rfl D b2,l4,rfl,rfl⟩
    apply(mD);exact dU (⟨j+1,by omega⟩)
   refine lC (lB (tT (lA (aZ (cR ?_)))));apply r7∘zT;exact nZ ⟨1,.inl rfl⟩
  refine dK ?_;exact nZ ⟨k8,by omega⟩
 rintro⟨BW,a1F⟩ bZ;try dsimp only
 apply cO∘lM∘KL∘mT;refine v2 [7,42,43,44,45,46] ((⟨λg=>[(7,.int .i64 g.1)],λg=>⟨eH,m9.cells ⟨BW,0,lH,l⟩,102⟩::⟨cT,[.int .i64 0,.int .i64 0,.int .i64 0,.int .i64 0,.int .i64 0,.int .i64 0],102⟩::⟨dG,s.cells,38⟩::eT c x i2::[],λ_=>R,λ_=>0⟩:dV {g:Int//g=if BW=5 then(s.bU.Y.aD.l.length:Int)else s.cD.l.length})) ?_ ?_;·
  skip
  apply(W)<;>intro dZ;·apply(eK);(iterate 3 apply(eP));apply N8∘WD;exact nZ ⟨(s.bU.Y.aD.l.length:Int),by rw[if_pos dZ]⟩
  refine dK ?_;exact nZ ⟨(s.cD.l.length:Int),by rw[if_neg dZ]⟩
 rintro⟨aUp,Bb⟩ bZ;try dsimp only
 have DD:1<=aUp/\aUp<=1000:=by rw[Bb];split<;>omega
 apply A7∘mT;apply(W)<;>intro dX;·(exfalso;omega)
 apply eR∘G4;refine cK (nA hC K l4 D) ?_;rintro v E G ⟨rE,eV,rfl,KW,I4,Ua,m4,rfl,rfl⟩;have a02:=I4 D;apply G3∘aMa∘wA;refine bN [eT c x eV] R (pG rfl (Y1 (row:=[_,_,_,_,_,_]) O rfl rfl rfl o0 aE aE)) ?_;exact⟨⟨BW,rE,lH,l⟩,eV,rfl,b2R a1F k1 hl (by dsimp only;rw[<-Bb];omega),m4,rfl,rfl⟩
def b2A{c:Nat}{x:a0 Int}{k:Nat}{s:dQ}{L:aP}{F:List Value->aP}{R:aJ}(c4:zA c (qN x k) 168 L F)(K:jK x R)(hk:k<=x.l.length)(hs:aH (z9 s.cD) R)(hn:1<=s.cD.l.length/\s.cD.l.length<=1000)(M:1<=s.bU.Y.aD.l.length/\s.bU.Y.aD.l.length<=1000):
 aI prog 92 [.pointer (some ⟨c,0,none⟩),s.val].toArray L R
  (λv E G=>∃(z:m9) (b5:Nat),v=z.val/\Jv s.cD.l s.bU.Y.aD.l.length z/\b5<=x.l.length/\F (qN x b5)=E/\R=G):=
 (aI.TU (xA:=λv gH G=> ∃(z:m9) (b5:Nat),v=z.val/\Jv s.cD.l s.bU.Y.aD.l.length z/\b5<=x.l.length/\gH=qN x b5/\R=G) c4 (b6X c x k s R K hk hs hn M)
  (λv E G ⟨y,b5,N,V,eG,gF,iF⟩=>⟨_,gF,y,b5,N,V,eG,rfl,iF⟩)).mono
  (λv E G ⟨gH,bQ,y,b5,N,V,eG,gF,iF⟩=>⟨y,b5,N,V,eG,by rw[<-gF];exact bQ,iF⟩)
end
def W5(n:Nat):eL:=⟨0,(n:Int),10,4,false,false,⟨1,1⟩,⟨0,0⟩⟩
section
variable{a:bR}{s:cE}{x:q2}(h:N0 a s x)(M:a.Y.aD.l.length=0)
include h M
def N0.aUr:a.a3.l=[]:=by
 have ha:=zE h.pT;cases hf:a.a3.l with
 |nil=>rfl
 |cons f l=>obtain⟨N,V⟩:=ha.nD 0 f (by rw[hf];rfl);have:=N.b9;omega
def N0.aUq:a.aX.l=[]:=by
 have ha:=zE h.pT;cases hf:a.aX.l with
 |nil=>rfl
 |cons f l=>obtain⟨N,V⟩:=ha.uD 0 f (by rw[hf];rfl);have:=N.b9;omega
def N0.aRH(i:Nat)(aA:i<a.Y.places.l.length):(a.Y.places.l.getD i default).r3=true:=by
 cases hs:(a.Y.places.l.getD i default).r3 with
 |true=>rfl
 |false=>obtain⟨k,u,hk,_⟩:=h.a8d i aA hs;omega
def N0.b97(i:Nat)(aA:i<a.Y.places.l.length):x.bY.l.getD i 0=0:=by
 have hp:=(aA4 h.pT h.C4 h.Ge).a2u i aA;rw[TT]at hp;split at hp;·cases hp
 ·
  rename_i hn;have:=h.aRH M i aA;by_cases eC:x.bY.l.getD i 0=0;·exact eC
  ·exact absurd (.inl ⟨this,eC⟩) hn
end
def b12{m:hZ}(h:q0 m=0):m.places.l.findSome? MJ=none:=by
 cases hf:m.places.l.findSome? MJ with
 |none=>rfl
 |some e=>
  rw[q0]at h;split at h;·omega
  rw[hf]at h;obtain⟨p,_,hp⟩:=PI hf;unfold MJ at hp;exact a2D
def b9L{a:bR}(h:hO a=0):q0 a.Y=0:=by
 rw[hO]at h;split at h;·omega
 ·omega
section
variable{a:bR}{s:cE}{x:q2}{P:a0 kR}{QC:a0 eL}{V1 Rg:a0 Int}(h:N0 a s x)(M:a.Y.aD.l.length=0)(i0:P.l=a.Y.places.l++[⟨0,true⟩])(bD:QC.l=[W5 a.Y.places.l.length])(KY:V1.l=x.bY.l++[0])(T2:Rg.l=[0])
include h M i0 bD
def aPj:hO ⟨⟨P,QC⟩,a.a3,a.aX⟩=0:=by
 have hn:=h.Vo;have hf:=h.aUr M;have hd:=h.aUq M;have hm:q0 ⟨P,QC⟩=0:=by
  rw[q0,if_neg (by simp only[i0,bD,iD,pN];omega)];dsimp only;rw[i0,List.findSome?_append,b12 (b9L h.pT),bD];show(([W5 a.Y.places.l.length].findSome? (v6 (a.Y.places.l++[(⟨0,true⟩:kR)]).length)).getD 0)=0;have e:v6 (a.Y.places.l++[(⟨0,true⟩:kR)]).length (W5 a.Y.places.l.length)=none:=by rw[v6,W5,if_neg (by simp only[iD,pN];omega),if_neg];dsimp only;decide
  rw[aH4,e];rfl
 rw[hO,if_neg k1];dsimp only;rw[hf,hd];rfl
include KY T2
def b6r:Es ⟨⟨P,QC⟩,a.a3,a.aX⟩ s ⟨V1,Rg⟩=0:=by
 have hn:=h.Vo;have eB:=(aA4 h.pT h.C4 h.Ge).aU5;have eC:∀i:Nat,i<a.Y.places.l.length+1->V1.l.getD i 0=0:=λi aA=>by
  rw[KY,iW];rcases gY i x.bY.l.length with N|N;·rw[HU N,<-iW];exact h.b97 M i D
  ·rw[NM N,show i-x.bY.l.length=0 by omega];rfl
 have bFo:∀p∈V1.l,p=0:=λp hp=>by
  obtain⟨i,aA,rfl⟩:=List.mem_iff_getElem.1 hp;have:V1.l.length=a.Y.places.l.length+1:=by rw[KY,iD,pN];omega
  have:=eC i D;rw[iW,ET aA]at this;exact this
 rw[aAA (aPj h M i0 bD) (show lL ⟨⟨P,QC⟩,a.a3,a.aX⟩ s=true from h.C4) (by simp only[i0,bD,KY,T2,iD,pN];omega)];dsimp only;rw[List.findSome?_eq_none_iff.2 (λp hp=>by rw[bFo p hp];rfl),T2];have dY:[(0:Int)].findSome? Dx=none:=by decide
 rw[dY];dsimp only;have eY:(List.range [(0:Int)].length).findSome? (SD ⟨⟨P,QC⟩,a.a3,a.aX⟩ s ⟨V1,Rg⟩)=none:=by
  refine List.findSome?_eq_none_iff.2 λi aA=>?_;obtain rfl:i=0:=by simpa using List.mem_range.1 aA
  rw[SD];dsimp only;rw[bD,T2];have nV:lU ⟨⟨P,QC⟩,a.a3,a.aX⟩ s ((0:Nat):Int) 0=⟨0,0⟩:=by rw[lU];dsimp only;rw[h.aUr M];show oP _ s 0 0 0=_;rw[oP];dsimp only;rw[h.aUq M];show W7 (m8 _ s 0 0) _ 0=_;rw[m8];dsimp only;rw[bD];rfl
  have AE:([(0:Int)]).getD 0 0=0:=rfl;have Af:([W5 a.Y.places.l.length]).getD 0 default=W5 a.Y.places.l.length:=rfl;rw[AE,Af,nV,W5];dsimp only;rw[show V1.l.getD (Int.toNat 0) 0=0 from eC 0 D,vY,eC _ (Nat.lt_succ_self _)];rfl
 rw[eY];dsimp only;rw[List.findSome?_eq_none_iff.2 (λi aA=>?_)];·rfl
 ·
  have K7:=List.mem_range.1 aA;rw[KY,iD,pN]at K7;rw[TT];dsimp only;rw[eC i D];have hs:(P.l.getD i default).r3=true:=by
   rw[i0,iW];rcases gY i a.Y.places.l.length with N|N;·rw[HU N,<-iW];exact h.aRH M i N
   ·rw[NM N,show i-a.Y.places.l.length=0 by omega];rfl
  rw[hs,if_neg fX]
end
structure Yc(a:bR)(s:cE)(x:q2):Prop where
 pT:hO a=0
 C4:lL a s=true
 Ge:Es a s x=0
 Vo:1<=a.Y.places.l.length/\a.Y.places.l.length<=7
 a7N:1<=a.Y.aD.l.length/\a.Y.aD.l.length<=9
 O4:a.a3.l.length<=2
 M8:a.aX.l.length<=2
def b9e{a:bR}{s:cE}{x:q2}(h:N0 a s x)(M:¬a.Y.aD.l.length=0):Yc a s x:=by have N:=h.Vo;have V:=h.a7N;exact⟨h.pT,h.C4,h.Ge,by omega,by omega,h.O4,h.M8⟩
def b3K{a:bR}{s:cE}{x:q2}{P:a0 kR}{QC:a0 eL}{V1 Rg:a0 Int}(h:N0 a s x)(M:a.Y.aD.l.length=0)(i0:P.l=a.Y.places.l++[⟨0,true⟩])(bD:QC.l=[W5 a.Y.places.l.length])(KY:V1.l=x.bY.l++[0])(T2:Rg.l=[0]):
 Yc ⟨⟨P,QC⟩,a.a3,a.aX⟩ s ⟨V1,Rg⟩:=by
 have N:=h.Vo;refine⟨aPj h M i0 bD,h.C4,b6r h M i0 bD KY T2,?_,?_,h.O4,h.M8⟩;·dsimp only;rw[i0,iD,pN];omega
 ·dsimp only;rw[bD,pN];omega
structure aLM(a:bR)(i:Nat)(t:fA):Prop where
 kind:1<=t.kind/\t.kind<=6
 d:Rw t.kind (i:Int) t.target t
 target:0<=t.target/\t.target<J7 a t
def Kh(a:bR)(l:List fA):Prop:=∀(i:Nat) (t:fA),l[i]?=some t->aLM a i t
def Kh.Px{a:bR}{l:List fA}(h:Kh a l){t:fA}(dS:aLM a l.length t):Kh a (l++[t]):=λi z eC=>by
 rw[Da]at eC
 split at eC
 ·exact h i z eC
 ·rw[Je]at eC
  split at eC
  ·cases eC
   rename_i N V
   rw[show i=l.length by omega]
   exact dS
  ·cases eC
structure QD(n i:Nat)(l:List Int):Prop where
 len:l.length<=i
 kW:∀k:Nat,k<l.length->0<=l.getD k 0/\l.getD k 0<n/\l.getD k 0<i
 up:∀k:Nat,k+1<l.length->l.getD k 0<l.getD (k+1) 0
def QD.nil{n:Nat}:QD n 0 []:=⟨g4 _,λk hk=>absurd hk fX,λk hk=>absurd hk fX⟩
def QD.EQ{n i:Nat}{l:List Int}(h:QD n i l):QD n (i+1) l:=⟨by have:=h.len;omega,λk hk=>by have:=h.kW k hk;omega,h.up⟩
def QD.next{n i:Nat}{l:List Int}(h:QD n i l)(aA:i<n):QD n (i+1) (l++[(i:Int)]):=by
 have hl:=h.len;have e:∀k:Nat,k<l.length->(l++[(i:Int)]).getD k 0=l.getD k 0:=λk hk=>by rw[iW,HU hk,<-iW]
 have eY:(l++[(i:Int)]).getD l.length 0=(i:Int):=by rw[iW,NM (g4 _),Ws];rfl
 refine⟨by rw[iD,pN];omega,λk hk=>?_,λk hk=>?_⟩;·
  rw[iD,pN]at hk;rcases gY k l.length with N|N;·rw[e k N];have:=h.kW k N;omega
  ·(obtain rfl:k=l.length:=by omega);rw[eY];omega
 ·
  rw[iD,pN]at hk;rcases gY (k+1) l.length with N|N;·rw[e k D,e _ N];exact h.up k N
  ·(have hK:k+1=l.length:=by omega);rw[e k D,hK,eY];have:=h.kW k D;omega
def QD.T0{n i:Nat}{l:List Int}(h:QD n i l)(k:Nat)(hk:k<l.length):¬AB n l k:=by
 rw[AB];have N:=h.kW k hk;rintro(V|⟨V,aQ⟩);·exact V D
 ·have:=h.up (k-1) D;rw[show k-1+1=k by omega]at this;omega
structure a6a(dD n:Nat)(z:jU):Prop where
 jQ:FA dD 2 z.jQ.l
 hold:0<=z.hold/\z.hold<=8
 tG:0<=z.tG/\z.tG<=1
 aD:QD n n z.aD.l
def a6a.pT{dD n:Nat}{z:jU}(h:a6a dD n z):CR dD n z=0:=by have N:=h.hold;have V:=h.tG;rw[CR,if_neg (by rw[h.jQ.pT];decide),if_neg D,if_neg];rintro⟨i,aA,hb⟩;exact h.aD.T0 i aA hb
structure aAG(s:dQ)(u:cE)(x:q2):Prop where
 bU:Yc s.bU u x
 LJ:Kh s.bU s.cD.l
 bFU:1<=s.cD.l.length/\s.cD.l.length<=8
 cond:∀c∈s.dD.l,Jv s.cD.l s.bU.Y.aD.l.length c
 bFS:1<=s.dD.l.length/\s.dD.l.length<=4
 dI:∀z∈s.aU.l,a6a s.dD.l.length s.bU.Y.aD.l.length z
 aUs:1<=s.aU.l.length/\s.aU.l.length<=3
 Vt:s.mF.l=[1,2,1,3]
def Rw.pT{kind hV target:Int}{t:fA}(h:Rw kind hV target t)(hk:1<=kind/\kind<=6)(ha:0<=hV/\hV<=255)(dS:0<=target):qM t=0:=by obtain⟨N,V,aQ,b7,eG,gF,iF,KX⟩:=h;rw[qM,if_neg D,if_pos (by rw[E4];omega)]
def aAG.ok{s:dQ}{u:cE}{x:q2}(h:aAG s u x):QF s:=by
 have N:=h.bFU;have V:=h.bFS;have aQ:=h.aUs;refine⟨h.bU.pT,⟨by omega,by omega,by omega,by rw[h.Vt];decide⟩,λi aA=>?_,λc hc=>(h.cond c hc).pT,λz eC=>(h.dI z eC).pT,λp hp=>?_⟩;·have hs:=h.LJ i _ (iL default aA);refine aBR rfl (hs.d.pT hs.kind D hs.target.1) hs.target λk hk e=>?_;have eG:=h.LJ k _ (bJ s.cD.l k default);have dY:=eG.d.hV;have eY:=hs.d.hV;omega
 ·rw[h.Vt]at hp;simp only[vC,x7,or_false]at hp;omega
def a5b(h:A->B:=by exact(kN 12 mE dT rfl aZj ·)):=h
def Fi(h:A->B:=by exact pO rfl b1b rfl rfl):=h
def P3(h:A->B:=by exact pO rfl b04 rfl rfl):=h
def P4(h:A->B:=by exact pO rfl (L0 (hN:=[(0,(Value.agg _).cells.toList),(1,(Value.agg _).cells.toList)]) (cU:=[_,_]) O rfl rfl rfl rfl rfl rfl rfl) rfl rfl):=h
def Ek(h:A->B:=by exact pO rfl (aLQ rfl (aAL hC HO e6 D)) rfl rfl):=h
def Em(h:A->B:=by exact(kN 6 mE dT rfl (mI (hN:=[(0,(Value.int _ _).cells.toList),(1,(Value.int _ _).cells.toList),(2,(Value.int _ _).cells.toList)]) (cU:=[_,_,_]) O rfl rfl rfl rfl) ·)):=h
def En(h:A->B:=by exact(kN 7 mE dT rfl (mI (hN:=[(0,(Value.int _ _).cells.toList),(3,(Value.agg _).cells.toList)]) (cU:=[_,_,_,_,_,_]) O rfl rfl rfl rfl) ·)):=h
def aJe(h:A->B:=by exact gO Dg rfl):=h
def aRq(h:A->B:=by exact(aG (mI (hN:=[(0,(Value.int _ _).cells.toList),(3,(Value.bool _).cells.toList)]) (cU:=[_,_,_,_,_]) O rfl rfl rfl rfl) ·)):=h
def aKy(h:A->B:=by exact gO a8Y rfl):=h
structure bL where
 bB:Int
 cQ:Int
 cY:Int
 dM:Bool
 bV:Bool
 deriving Inhabited,DecidableEq
def bL.cells(x:bL):List Value:=[.int .i64 x.bB,.int .i64 x.cQ,.int .i64 x.cY,.bool x.dM,.bool x.bV]
abbrev bL.val(x:bL):Value:=.agg #[.int .i64 x.bB,.int .i64 x.cQ,.int .i64 x.cY,.bool x.dM,.bool x.bV]
structure hI where
 aT:a0 bL
 aU:a0 Int
 cA:Int
def hI.cells(x:hI):List Value:=[x.aT.val,x.aU.val,.int .i64 x.cA]
abbrev hI.val(x:hI):Value:=.agg #[x.aT.val,x.aU.val,.int .i64 x.cA]
abbrev uT(x:a0 bL):fG:=x.fI 5 bL.cells []
def bGq{x:a5}{l m:aP}(h:l.Perm m):(x::l).Perm (x::m):=h.cons x
def aU6{a x:a5}{l m:aP}(h:(a::l).Perm m):(a::x::l).Perm (x::m):=(List.Perm.swap x a l).trans (h.cons x)
def x0{a b x:a5}{l m:aP}(h:(a::b::l).Perm m):(a::b::x::l).Perm (x::m):=((List.Perm.swap x b l).cons a).trans (aU6 h)
def bGr{a b c x:a5}{l m:aP}(h:(a::b::c::l).Perm m):(a::b::c::x::l).Perm (x::m):=(((List.Perm.swap x c l).cons b).cons a).trans (x0 h)
def a91(len:Int):eL:=⟨0,1,len,4,false,false,⟨1,1⟩,⟨90000,90000⟩⟩
def a6u:fA:=⟨0,1,0,0,1000,1,1000,60⟩
def NY(sZ:Int):m9:=⟨1,0,0,⟨100,60,sZ⟩⟩
structure Yd(s:dQ)(len sZ ho:Int):Prop where
 places:s.bU.Y.places.l=[⟨0,true⟩,⟨0,true⟩]
 aD:s.bU.Y.aD.l=[a91 len]
 a3:s.bU.a3.l=[]
 aX:s.bU.aX.l=[]
 LJ:s.cD.l=[a6u]
 dD:s.dD.l=[NY sZ]
 dI:∃z:jU,s.aU.l=[z]/\z.jQ.l=[⟨1,0,0,0⟩]/\z.hold=ho/\z.aD.l=[0]/\z.tG=1
 bKZ:s.aU.cap=1
 Vt:s.mF.l=[1,2]
 F8:(1<=len/\len<=4)/\(1<=sZ/\sZ<=5)/\1<=ho/\ho<=5
def SJ(n:Nat):List bL:=(List.range n).map λ(i:Nat)=>⟨(i:Int)-1,0,0,true,false⟩
def b3I{n:Nat}:SJ (n+1)=SJ n++[⟨(n:Int)-1,0,0,true,false⟩]:=by rw[SJ,LO,wP];rfl
attribute [local irreducible] cH c6 dP aI cJ eD e9 e0 e1 e5 eS e8 J.L
structure b1g where
 gK:Nat
 cS:Nat
 dG:Nat
 eH:Nat
def b6N(c:Nat)(x:a0 Int)(k:Nat)(R:aJ)(K:jK x R)(hk:k<=x.l.length):
 aI prog 15 [.pointer (some ⟨c,0,none⟩)].toArray [eT c x k] R
  (λv E G=>∃(s:dQ) (len sZ ho:Int) (aF:J bL) (cG:J Int) (n b5:Nat),v=.tuple #[s.val,.agg #[aF.val,cG.val,.int .i64 3]]/\Yd s len sZ ho/\(aF.ok 5 bL.cells/\cG.ok 1 aL)/\(1<=n/\n<=3)/\aF.l=SJ n/\cG.l=[(n:Int)-1]/\(b5<=x.l.length/\(x.l.length<=k->len=1/\sZ=1/\ho=1/\n=1/\b5=k))/\(zX s G/\∀r∈R,aH r G)/\aF.L 76 bL.cells++(cG.L 3 aL++(eT c x b5::[]))=E):=by
 refine bW 68 call15 func15 ?_;apply(IV);intro cS;apply(dA);intro dG;apply(lP);refine aG a82 ?_;refine aG a82 ?_;refine gO aIp rfl ?_;rintro v E G ⟨jE,rfl,rfl,T4⟩;replace T4:=T4.symm;subst T4;refine JM 2 2 2 [kR.cells ⟨0,true⟩,kR.cells ⟨0,true⟩] [] (λr M=>by simp only[vC,x7,or_false]at M;rcases M with rfl|rfl<;>rfl) ?_;apply(hS);refine cK (aAL hC (K.mono λr h=>aM (.tail _ h)) hk D) ?_;rintro v E G ⟨k8,eU,rfl,u1,yO,e6,bCs,rfl,rfl⟩;apply y0∘y0;refine aG (mI (hN:=[(1,(Value.int _ _).cells.toList),(2,(Value.int _ _).cells.toList),(3,(Value.int _ _).cells.toList),(6,(Value.agg _).cells.toList),(7,(Value.agg _).cells.toList)]) (cU:=[_,_,_,_,_,_,_,_,_,_]) O rfl rfl rfl rfl) ?_;refine gO aIq rfl ?_;rintro v E G ⟨I2,rfl,rfl,Mg⟩;replace Mg:=Mg.symm;subst Mg;refine JM 10 1 1 [eL.cells (a91 k8)] [] (λr M=>by rw[List.mem_singleton.1 M];rfl) ?_;refine aG a9s ?_;apply(dA);intro cT;apply(G5);refine Sz 4 (Sz 3 ?_);obtain⟨bS,eB⟩:∃bS:a0 kR,bS=⟨some ⟨jE,0,none⟩,2,[⟨0,true⟩,⟨0,true⟩]⟩:=⟨_,rfl⟩;obtain⟨EO,yS⟩:∃EO:a0 eL,EO=⟨some ⟨I2,0,none⟩,1,[a91 k8]⟩:=⟨_,rfl⟩;obtain⟨gR,D7⟩:∃gR,gR=MN ⟨none,0,[]⟩::Q1 ⟨none,0,[]⟩::YI EO::O8 bS::R:=⟨_,rfl⟩;have nF:∀r∈R,aH r gR:=λr M=>aM (by rw[D7];exact .tail _ (.tail _ (.tail _ (.tail _ M))));have bEk:aH (O8 bS) gR:=aM (by rw[D7];exact .tail _ (.tail _ (.tail _ (.head _))));have bEC:aH (YI EO) gR:=aM a86;have bCI:aH (Q1 ⟨none,0,[]⟩) gR:=aM a3x;have bCr:aH (MN ⟨none,0,[]⟩) gR:=aM a2W;have HO:=K.mono nF;refine sU (show _=gR by rw[D7,eB,yS];rfl) ?_;refine a0r (b4 18 13++[5]) ((⟨λg=>[(5,.pointer (some ⟨g.1.eH,0,none⟩))],λg=>⟨g.1.eH,[.slice (some ⟨jE,0,none⟩) 2 2,.slice (some ⟨I2,0,none⟩) 1 1,.slice none 0 0,.slice none 0 0,.slice (some ⟨g.1.gK,0,none⟩) 1 1,.slice (some ⟨g.1.cS,0,none⟩) 1 1,.slice none 0 0,.slice (some ⟨g.1.dG,0,none⟩) 2 2],38⟩::⟨g.1.dG,[.int .i64 1,.int .i64 2],170⟩::⟨g.1.cS,m9.cells (NY g.2.1.1),102⟩::⟨g.1.gK,a6u.cells,88⟩::⟨cT,[.slice (some ⟨jE,0,none⟩) 2 2,.slice (some ⟨I2,0,none⟩) 1 1],28⟩::⟨dG,[.slice none 0 0,.slice none 0 0,.int .i64 0],42⟩::⟨cS,[.slice none 0 0,.slice none 0 0,.slice none 0 0,.slice none 0 0,.slice none 0 0,.slice none 0 0,.slice none 0 0,.slice none 0 0],38⟩::eT c x g.2.1.2::[],λ_=>gR,λ_=>0⟩:dV (b1g×{g:Int×Nat//(1<=g.1/\g.1<=5)/\g.2<=x.l.length/\(x.l.length<=eU->g.1=1/\g.2=eU)}))) ?_ ?_;·
  skip
  refine Dt O [] [0,1,2,4,9,10,3,5,6,7,8,11,12,13] [14] ([a5.mk cT _ _]) [] 14 cX bE rfl rfl a2 λmE=>?_;refine kN 0 mE dT rfl R9 ?_;refine kN 1 mE dT rfl aIB ?_;refine kN 2 mE dT rfl (mI (hN:=[(1,(Value.int _ _).cells.toList),(4,(Value.int _ _).cells.toList),(5,(Value.int _ _).cells.toList),(6,(Value.int _ _).cells.toList),(7,(Value.int _ _).cells.toList)]) (cU:=[_,_,_,_,_,_,_,_]) O rfl rfl rfl rfl) ?_;refine kN 4 mE dT rfl (A2 VH) ?_;refine kN 9 mE dT rfl aIE ?_;refine kN 10 mE dT rfl aIE ?_;refine kI [3,5,11,13] mE dT bE ?_;refine o1 ?_ ?_;·
   skip
   apply(P3);rintro v E G ⟨yL,rfl,rfl,l3⟩;replace l3:=l3.symm;subst l3;apply(fS);refine kI [5,11,13] mE dT bE ?_;refine o1 ?_ ?_;·
    skip
    apply(Ek);rintro v E G ⟨lH,eE,rfl,q7,u2,hK,HG,rfl,rfl⟩;refine⟨a2,gN,?_⟩;apply Em∘En;exact aVV
   refine o1 ?_ ?_;·
    skip
    apply(P4);rintro v E G ⟨yM,rfl,rfl,k4⟩;replace k4:=k4.symm;subst k4;exact aVJ
   apply(kU);refine pO rfl R5 rfl rfl ?_;rintro v E G ⟨eH,rfl,rfl,jY⟩;replace jY:=jY.symm;subst jY;exact aVK
  refine o1 ?_ ?_;·
   skip
   apply(Ek);rintro v E G ⟨lH,eE,rfl,q7,u2,hK,HG,rfl,rfl⟩;refine⟨a2,gN,?_⟩;apply Em∘En;refine kI [3,8,11,13] mE dT bE ?_;refine o1 ?_ ?_;·
    skip
    apply(P3);rintro v E G ⟨yL,rfl,rfl,l3⟩;replace l3:=l3.symm;subst l3;apply(fS);exact aVV
   refine o1 ?_ ?_;·
    skip
    apply(Fi);rintro v E G ⟨TV,rfl,rfl,tI⟩;replace tI:=tI.symm;subst tI;apply(fS);refine kI [3,11,13] mE dT bE ?_;refine o1 ?_ ?_;·
     skip
     apply(P3);rintro v E G ⟨yL,rfl,rfl,l3⟩;replace l3:=l3.symm;subst l3;exact aWv
    refine o1 ?_ ?_;·
     skip
     apply(P4);rintro v E G ⟨yM,rfl,rfl,k4⟩;replace k4:=k4.symm;subst k4;exact aWw
    apply(kU);refine pO rfl R5 rfl rfl ?_;rintro v E G ⟨eH,rfl,rfl,jY⟩;replace jY:=jY.symm;subst jY;exact aWx
   refine o1 ?_ ?_;·
    skip
    apply(P4);rintro v E G ⟨yM,rfl,rfl,k4⟩;replace k4:=k4.symm;subst k4;apply(fS);exact aVW
   apply(kU);refine pO rfl R5 rfl rfl ?_;rintro v E G ⟨eH,rfl,rfl,jY⟩;replace jY:=jY.symm;subst jY;apply(fS);exact aVX
  refine o1 ?_ ?_;·
   skip
   apply(P4);rintro v E G ⟨yM,rfl,rfl,k4⟩;replace k4:=k4.symm;subst k4;apply(fS);refine kI [3,5,13] mE dT bE ?_;refine o1 ?_ ?_;·
    skip
    apply(P3);rintro v E G ⟨yL,rfl,rfl,l3⟩;replace l3:=l3.symm;subst l3;exact aVJ
   refine o1 ?_ ?_;·
    skip
    apply(Ek);rintro v E G ⟨lH,eE,rfl,q7,u2,hK,HG,rfl,rfl⟩;refine⟨a2,gN,?_⟩;apply Em∘En;exact aVW
   apply(kU);refine pO rfl R5 rfl rfl ?_;rintro v E G ⟨eH,rfl,rfl,jY⟩;replace jY:=jY.symm;subst jY;exact aVw
  apply(kU);refine pO rfl R5 rfl rfl ?_;rintro v E G ⟨eH,rfl,rfl,jY⟩;replace jY:=jY.symm;subst jY;apply(fS);refine kI [3,5,11] mE dT bE ?_;refine o1 ?_ ?_;·
   skip
   apply(P3);rintro v E G ⟨yL,rfl,rfl,l3⟩;replace l3:=l3.symm;subst l3;exact aVK
  refine o1 ?_ ?_;·
   skip
   apply(Ek);rintro v E G ⟨lH,eE,rfl,q7,u2,hK,HG,rfl,rfl⟩;refine⟨a2,gN,?_⟩;apply Em∘En;exact aVX
  apply kU∘P4;rintro v E G ⟨yM,rfl,rfl,k4⟩;replace k4:=k4.symm;subst k4;exact aVw
 rintro⟨⟨yL,TV,yM,eH⟩,⟨⟨lH,eE⟩,⟨q7,u2⟩,hK,HG⟩⟩ bZ;try dsimp only
 dsimp only at q7 u2 hK HG;refine Zb (A:=[_]) (aR:=1) (len:=2) (cap:=2) (rows:=[aL 1,aL 2]) (eQ:=[]) rfl bH bH (λr M=>by simp only[vC,x7,or_false]at M;rcases M with rfl|rfl<;>rfl) bH rfl lQ ?_;apply(HR);refine Zb (A:=[_]) (aR:=6) (len:=1) (cap:=1) (rows:=[m9.cells (NY lH)]) (eQ:=[]) rfl bH bH (λr M=>by rw[List.mem_singleton.1 M];rfl) bH rfl lQ ?_;apply(HR);refine Zb (A:=[_]) (aR:=8) (len:=1) (cap:=1) (rows:=[fA.cells a6u]) (eQ:=[]) rfl bH bH (λr M=>by rw[List.mem_singleton.1 M];rfl) bH rfl lQ ?_;apply(HR);obtain⟨We,F1⟩:∃We:a0 fA,We=⟨some ⟨yL,0,none⟩,1,[a6u]⟩:=⟨_,rfl⟩;obtain⟨Ts,HF⟩:∃Ts:a0 m9,Ts=⟨some ⟨TV,0,none⟩,1,[NY lH]⟩:=⟨_,rfl⟩;obtain⟨ps,nG⟩:∃ps:a0 Int,ps=⟨some ⟨yM,0,none⟩,2,[1,2]⟩:=⟨_,rfl⟩;obtain⟨e4,uG⟩:∃e4,e4=z9 We::Dv Ts::cZ ps::gR:=⟨_,rfl⟩;have jR:∀r∈gR,aH r e4:=λr M=>aM (by rw[uG];exact .tail _ (.tail _ (.tail _ M)));have bEK:aH (z9 We) e4:=aM Qu;have bCj:aH (Dv Ts) e4:=aM Xm;have aF6:aH (cZ ps) e4:=aM a3v;have rY:=HO.mono jR;refine sU (show _=e4 by rw[uG,F1,HF,nG];rfl) ?_;apply(cO);refine aG aIz ?_;apply(aJe);rintro v E G ⟨ML,rfl,rfl,K1⟩;replace K1:=K1.symm;subst K1;refine JM 4 1 1 [eX.cells ⟨1,0,0,0⟩] [] (λr M=>by rw[List.mem_singleton.1 M];rfl) ?_;apply(hS);refine cK (aAL hC (rY.mono λr h=>aM (.tail _ h)) hK D) ?_;rintro v E G ⟨rE,i2,rfl,KW,I4,l4,bCt,rfl,rfl⟩;apply(zU);rintro v E G ⟨a6n,rfl,rfl,Mn⟩;replace Mn:=Mn.symm;subst Mn;refine JM 1 1 1 [aL 0] [] (λr M=>by rw[List.mem_singleton.1 M];rfl) ?_;refine aG (mI (hN:=[(0,(Value.slice _ _ _).cells.toList),(1,(Value.int _ _).cells.toList),(2,(Value.slice _ _ _).cells.toList),(3,(Value.int _ _).cells.toList)]) (cU:=[_,_,_,_]) O rfl rfl rfl rfl) ?_;apply(aJe);rintro v E G ⟨QZ,rfl,rfl,K2⟩;replace K2:=K2.symm;subst K2;refine aMO (aR:=4) (len:=1) (cap:=1) (rows:=[jU.cells ⟨⟨some ⟨ML,0,none⟩,1,[⟨1,0,0,0⟩]⟩,rE,⟨some ⟨a6n,0,none⟩,1,[0]⟩,1⟩]) (eQ:=jU.eQ ⟨⟨some ⟨ML,0,none⟩,1,[⟨1,0,0,0⟩]⟩,rE,⟨some ⟨a6n,0,none⟩,1,[0]⟩,1⟩) rfl bH bH (λr M=>by rw[List.mem_singleton.1 M];rfl) bH rfl (λs hs=>by simp only[vC,x7,or_false]at hs;rcases hs with rfl|rfl;exact aM (.tail _ (.head _));exact aM (.head _)) ?_;apply uY∘jW;obtain⟨cG,M5⟩:∃cG:jU,cG=⟨⟨some ⟨ML,0,none⟩,1,[⟨1,0,0,0⟩]⟩,rE,⟨some ⟨a6n,0,none⟩,1,[0]⟩,1⟩:=⟨_,rfl⟩;obtain⟨GI,BU⟩:∃GI:a0 jU,GI=⟨some ⟨QZ,0,none⟩,1,[cG]⟩:=⟨_,rfl⟩;obtain⟨n4,I5⟩:∃n4,n4=SO GI::cZ cG.aD::DT cG.jQ::e4:=⟨_,rfl⟩;have FR:∀r∈e4,aH r n4:=λr M=>aM (by rw[I5];exact .tail _ (.tail _ (.tail _ M)));have bFq:aH (SO GI) n4:=aM a2V;have Bx:=rY.mono FR;refine sU (show _=n4 by rw[I5,BU,M5];rfl) ?_;apply eK∘zU;rintro v E G ⟨Ab,rfl,rfl,Mp⟩;replace Mp:=Mp.symm;subst Mp;apply aRq∘aKy;rintro v E G ⟨aRQ,rfl,rfl,Mr⟩;replace Mr:=Mr.symm;subst Mr;refine aG (mI (hN:=[(2,(Value.int _ _).cells.toList),(1,(Value.slice _ _ _).cells.toList),(0,(Value.slice _ _ _).cells.toList)]) (cU:=[_,_,_]) O rfl rfl rfl rfl) ?_;apply(dA);intro hP;apply rQ∘hS;refine cK (b3G hC Bx l4 D) ?_;rintro v E G ⟨DI,eV,rfl,OM,ON,aDx,m4,bCu,rfl,rfl⟩;have aR9:=ON D;apply(mM);refine c7 [(2,.pointer _),(3,.pointer _),(5,.pointer _),(6,.pointer _),(7,.int _ _)] bP λeZ=>?_;refine mC ([7]++b4 45 21) ((⟨λg=>[(7,.int .i64 g.1.1)],λg=>⟨hP,[g.1.2.1.val,.slice (some ⟨Ab,0,none⟩) 1 1,.int .i64 3],42⟩::(g.1.2.1.L 76 bL.cells++((⟨.own Ab 1 [],g.1.2.2⟩:J Int).L 3 aL++(⟨eH,[.slice (some ⟨jE,0,none⟩) 2 2,.slice (some ⟨I2,0,none⟩) 1 1,.slice none 0 0,.slice none 0 0,.slice (some ⟨yL,0,none⟩) 1 1,.slice (some ⟨TV,0,none⟩) 1 1,.slice (some ⟨QZ,0,none⟩) 1 1,.slice (some ⟨yM,0,none⟩) 2 2],38⟩::⟨cT,[.slice (some ⟨jE,0,none⟩) 2 2,.slice (some ⟨I2,0,none⟩) 1 1],28⟩::⟨dG,[.slice none 0 0,.slice none 0 0,.int .i64 0],42⟩::⟨cS,[.slice none 0 0,.slice none 0 0,.slice none 0 0,.slice none 0 0,.slice none 0 0,.slice none 0 0,.slice none 0 0,.slice none 0 0],38⟩::eT c x eV::[]))),λ_=>n4,λg=>g.1.1.toNat⟩:dV {g:Int×J bL×List Int//(0<=g.1/\(g.2.1.l.length:Int)+g.1=1+DI/\1<=g.2.1.l.length)/\g.2.1.ok 5 bL.cells/\g.2.1.l=SJ g.2.1.l.length/\g.2.2=[(g.2.1.l.length:Int)-1]})) (⟨(DI,(⟨.own aRQ 1 [],[⟨-1,0,0,true,false⟩]⟩:J bL),[0]),by dsimp only[List.length_cons,List.length_nil];omega,V4 bI rfl bH,rfl,rfl⟩) bP (by dsimp only;rw[<-Lj (f:=bL.cells) (n:=1) [⟨-1,0,0,true,false⟩] rfl,<-Lj (f:=aL) (n:=1) [0] rfl];exact oR _) fF ?_;rintro⟨⟨n,aF,yA⟩,hn,u6,oA,tL⟩ bZ;try dsimp only
 dsimp only at hn u6 oA tL;apply(ZV);apply(W)<;>intro aO;·
  apply j7∘fH∘lM∘kP∘aRq∘aKy;rintro v E G ⟨bID,rfl,rfl,aEb⟩;replace aEb:=aEb.symm;subst aEb;refine gO (j2 (f:=bL.cells) (p:=aF) (a:=⟨(aF.l.length:Int)-1,0,0,true,false⟩) O rfl rfl rfl rfl (u6) c0 j8 rfl kH) rfl ?_;rintro v E G ⟨bGa,rfl,bDU,rfl,rfl⟩;apply uY∘b3;have aFn:(aF.l++[(⟨(aF.l.length:Int)-1,0,0,true,false⟩:bL)]).length=aF.l.length+1:=by simp
  have bKj:yA.length=1:=by rw[tL];rfl
  have aGQ:yA[0]?=some ((aF.l.length:Int)-1):=by rw[tL];rfl
  have X7:(⟨.own Ab 1 [],yA⟩:J Int).ok 1 aL:=by rw[tL];exact V4 CG rfl bH
  apply QW∘lM;refine aG (aAt rfl rfl k1 k1) ?_;refine aG (h4 O ((⟨.own Ab 1 [],yA⟩:J Int)) _ rfl rfl (by rw[tL];rfl) rfl bC (i:=0) cW iC) ?_;refine i4 (jL O ((⟨.own Ab 1 [],yA⟩:J Int)) (((aF.l++[(⟨(aF.l.length:Int)-1,0,0,true,false⟩:bL)]).length:Int)-1) rfl rfl rfl rfl c0 bC bI bC bH aE aE) ?_;rintro v E G ⟨rfl,rfl⟩;apply(ZZ);exact dU ⟨(n-1,(⟨bGa,aF.l++[⟨(aF.l.length:Int)-1,0,0,true,false⟩]⟩:J bL),yA.set 0 (((aF.l++[(⟨(aF.l.length:Int)-1,0,0,true,false⟩:bL)]).length:Int)-1)),by dsimp only;rw[aFn];omega,bDU,by dsimp only;rw[aFn,b3I,<-oA],by dsimp only;rw[tL];rfl⟩
 apply(O9);refine hF O [67] [0,1] [2,3] ([a5.mk hP _ _,a5.mk eH _ _]) _ cX bE a2 (by(repeat(first|apply List.Sublist.cons (a:=a5.mk cS _ _)|apply List.Sublist.cons (a:=a5.mk dG _ _)|apply List.Sublist.cons_cons));exact oR _) ?_;refine eO qI ?_;refine m5 lR ?_;apply p7∘sE;refine gS (aZ (iT ?_));refine bN (aF.L 76 bL.cells++((⟨.own Ab 1 [],yA⟩:J Int).L 3 aL++(eT c x eV::[]))) n4 (J0 rfl a3b VM) ?_;have X7:(⟨.own Ab 1 [],yA⟩:J Int).ok 1 aL:=by rw[tL];exact V4 CG rfl bH
 have a2E:∀r∈gR,aH r n4:=λr M=>(jR r M).mono FR;refine⟨⟨⟨⟨bS,EO⟩,⟨none,0,[]⟩,⟨none,0,[]⟩⟩,We,Ts,GI,ps⟩,k8,lH,rE,aF,⟨.own Ab 1 [],yA⟩,aF.l.length,eV,?_,⟨by rw[eB],by rw[yS],rfl,rfl,by rw[F1],by rw[HF],⟨cG,by rw[BU],by rw[M5],by rw[M5],by rw[M5],by rw[M5]⟩,by rw[BU],by rw[nG],by omega⟩,⟨u6,X7⟩,by omega,oA,tL,⟨m4,λh=>by have nK:=bCs h;have fB:=HG D;have kF:=bCt D;have a2v:=bCu D;omega⟩,⟨⟨⟨bEk.mono a2E,bEC.mono a2E,bCI.mono a2E,bCr.mono a2E⟩,bEK.mono FR,bCj.mono FR,bFq,aF6.mono FR⟩,λr M=>(nF r M).mono a2E⟩,rfl⟩;rw[eB,yS,F1,HF,BU,nG,tL];rfl
end Go.Proofs.YtchfclmokpbldaaGreat
namespace Go.Proofs.YtchfclmokpbldaaGreat
open Go.Aw Go Go.Proofs.Tryz
section
attribute [local irreducible] cH c6 dP aI cJ eD e9 e0 e1 e5 eS e8 J.L
def aP6(h:A->B:=by exact(aG (h4 O ((⟨.own Lr f.aT.l.length [],q⟩:J Bool)) _ rfl rfl ((show _=Value.slice _ _ _ from rfl).trans (v4 gB)) rfl bC (i:=(f.aU.l.getD i 0).toNat) cW iC) ·)):=h
structure k9(f:hI)(R:aJ):Prop where
 aF:aH (uT f.aT) R
 cG:aH (cZ f.aU) R
def k9.mono{f:hI}{R G:aJ}(h:k9 f R)(k:∀r∈R,aH r G):k9 f G:=⟨h.aF.mono k,h.cG.mono k⟩
def BF(l:List bL)(i:Nat):Option Int:=
 if(l.getD i default).bB< -1\/(i:Int)<=(l.getD i default).bB then some 16
 else if(l.getD i default).cQ<0\/2147483648<(l.getD i default).cQ then some 8
 else if((l.getD i default).cY< -1\/1<(l.getD i default).cY)\/(l.getD i default).bV=true/\((l.getD i default).dM=true\/(l.getD i default).cY= -1)then some 10 else none
def GM(n:Nat)(z:List Int)(i:Nat):Option Int:=
 if z.getD i 0<0\/(n:Int)<=z.getD i 0 then some 16 else if∃k:Nat,k<i/\z.getD k 0=z.getD i 0 then some 17 else none
def i6(aF:List bL)(cG:List Int)(bT:Int):Int:=
 if 32<aF.length\/16<cG.length then 2
 else match(List.range aF.length).findSome? (BF aF)with
  |some e=>e
  |none=>match(List.range cG.length).findSome? (GM aF.length cG)with
   |some e=>e
   |none=>if bT<1\/100000<bT then 1 else 0
def a0e{aF:List bL}{cG:List Int}{bT e:Int}(bQ:¬(32<aF.length\/16<cG.length))(h:(List.range aF.length).findSome? (BF aF)=some e):i6 aF cG bT=e:=by rw[i6,if_neg bQ,h]
def Zs{aF:List bL}{cG:List Int}{bT e:Int}(bQ:¬(32<aF.length\/16<cG.length))(N:(List.range aF.length).findSome? (BF aF)=none)(h:(List.range cG.length).findSome? (GM aF.length cG)=some e):i6 aF cG bT=e:=by rw[i6,if_neg bQ,N,h]
def Jy{aF:List bL}{cG:List Int}{bT:Int}(bQ:¬(32<aF.length\/16<cG.length))(N:(List.range aF.length).findSome? (BF aF)=none)(V:(List.range cG.length).findSome? (GM aF.length cG)=none):i6 aF cG bT=if bT<1\/100000<bT then 1 else 0:=by rw[i6,if_neg bQ,N,V]
def aAR{l:List bL}{i:Nat}{x:bL}(K:x=l.getD i default)(N:¬(x.bB< -1\/(i:Int)<=x.bB))(V:¬(x.cQ<0\/2147483648<x.cQ))(aQ:¬((x.cY< -1\/1<x.cY)\/x.bV=true/\(x.dM=true\/x.cY= -1))):BF l i=none:=by rw[BF,<-K,if_neg N,if_neg V,if_neg aQ]
def b61{l:List bL}{i:Nat}{x:bL}(K:x=l.getD i default)(N:x.bB< -1\/(i:Int)<=x.bB):BF l i=some 16:=by rw[BF,<-K,if_pos N]
def b2u{l:List bL}{i:Nat}{x:bL}(K:x=l.getD i default)(N:¬(x.bB< -1\/(i:Int)<=x.bB))(V:x.cQ<0\/2147483648<x.cQ):BF l i=some 8:=by rw[BF,<-K,if_neg N,if_pos V]
def b8n{l:List bL}{i:Nat}{x:bL}(K:x=l.getD i default)(N:¬(x.bB< -1\/(i:Int)<=x.bB))(V:¬(x.cQ<0\/2147483648<x.cQ))(aQ:(x.cY< -1\/1<x.cY)\/x.bV=true/\(x.dM=true\/x.cY= -1)):BF l i=some 10:=by rw[BF,<-K,if_neg N,if_neg V,if_pos aQ]
def aMi{n:Nat}{z:List Int}{i:Nat}(h:z.getD i 0<0\/(n:Int)<=z.getD i 0):GM n z i=some 16:=by rw[GM,if_pos h]
def aNO{n:Nat}{z:List Int}{i:Nat}(h:¬(z.getD i 0<0\/(n:Int)<=z.getD i 0))(V:∃k:Nat,k<i/\z.getD k 0=z.getD i 0):GM n z i=some 17:=by rw[GM,if_neg h,if_pos V]
def a4l{n:Nat}{z:List Int}{i:Nat}(h:¬(z.getD i 0<0\/(n:Int)<=z.getD i 0))(V:¬∃k:Nat,k<i/\z.getD k 0=z.getD i 0):GM n z i=none:=by rw[GM,if_neg h,if_neg V]
structure Ki(n:Nat)(z:List Int)(i:Nat)(l:List Bool):Prop where
 len:l.length=n
 M6:∀j:Nat,j<n->(l.getD j false=true↔∃k:Nat,k<i/\z.getD k 0=(j:Int))
def Ki.zero{n:Nat}{z:List Int}:Ki n z 0 (List.replicate n false):=⟨by simp,λj aY=>by
 rw[iW,R1,if_pos aY]
 exact⟨λh=>NP,λ⟨k,hk,_⟩=>D⟩⟩
def Ki.next{n:Nat}{z:List Int}{i:Nat}{l:List Bool}(h:Ki n z i l)(bQ:0<=z.getD i 0/\z.getD i 0<n):Ki n z (i+1) (l.set (z.getD i 0).toNat true):=by
 have hl:=h.len;refine⟨by simp[hl],λj aY=>?_⟩;rw[iW,EU];split;·rename_i e;rw[if_pos D];exact⟨λ_=>⟨i,by omega,by omega⟩,λ_=>rfl⟩
 ·
  rename_i e;have:=h.M6 j aY;rw[iW]at this;rw[this];constructor;·rintro⟨k,eU,eE⟩;exact⟨k,by omega,eE⟩
  ·
   rintro⟨k,eU,eE⟩;rcases gY k i with hk|hk;·exact⟨k,hk,eE⟩
   ·(obtain rfl:k=i:=by omega);omega
def Fq(f:hI)(L:aP)(R:aJ)(hf:k9 f R):
 aI prog 75 [f.val].toArray L R (λv E G=>v=.int .i64 (i6 f.aT.l f.aU.l f.cA)/\L=E/\R=G):=by
 have jA:=hf.aF;have pL:=hf.cG;refine J2 call75 jA λMS=>?_;refine J2 call75 pL λaSH=>?_;refine bW 101 call75 func75 ?_;apply(c8);intro gK;apply g7∘S7∘c9;apply cB (aC:=[_,_,_,_]) (j:=4) (a7:=12) rfl rfl aE rfl aW rfl;·exact YT
 intro yU;apply(b3);apply(W)<;>intro aO;·exact aXI
 have bQ:¬(32<f.aT.l.length\/16<f.aU.l.length):=by omega
 apply(QS);refine c7 [(1,.pointer _),(19,.slice _ _ _),(20,.int _ _),(21,.int _ _)] bP λeZ=>?_;refine gP ([2,3,4]++b4 21 44) (λg:H0 (BF f.aT.l) (f.aT.l.length)=>[(21,.int .i64 ((g.1:Nat):Int))]) (λg=>(f.aT.l.length)-g.1) ⟨0,G9 _ _⟩ ?_;rintro⟨fM,yR,g0⟩ bZ;try dsimp only
 apply(h2);apply(W)<;>intro bF;·
  have rB:=bJ f.aT.l fM default;obtain⟨x,K⟩:∃x,x=f.aT.l.getD fM default:=⟨_,rfl⟩;rw[<-K]at rB;apply(pR);refine aG R6 ?_;apply(WJ);intro cT;apply dE∘rQ∘r8;apply cB (aC:=[_,_,_,_]) (j:=3) (a7:=29) rfl rfl aE rfl aW rfl;·exact a80
  intro iG;apply(b3);apply(W)<;>intro b2;·exact b0d
  apply iK∘r8;apply cB (aC:=[_,_,_]) (j:=3) (a7:=38) rfl rfl aE rfl aW rfl;·exact GF
  intro iG;apply(b3);apply(W)<;>intro dZ;·exact aZI
  apply eR∘r8;apply cB (aC:=[_,_,_]) (j:=3) (a7:=46) rfl rfl aE rfl aW rfl;·exact GF
  intro iG;apply(c9);apply cB (aC:=[_,_,_,_,_,_,_,_,_,_,_]) (j:=8) (a7:=51) rfl rfl aE rfl aW rfl;·
   intro gM;replace gM:=a8 gM;apply fH∘c9;apply iZ (aC:=[_,_,_,_,_,_,_]) (j:=11) (a7:=54) rfl rfl aE rfl aW rfl;·
    intro xP;replace xP:=a8 xP;apply fH∘c9;apply cB (aC:=[_,_,_]) (j:=14) (a7:=57) rfl rfl aE rfl aW rfl;·intro qT;replace qT:=a8 qT;exact(fH) LP
    intro UX;exact hL
   intro a2k;exact hL
  intro wJ;apply(b3);apply(W)<;>intro dX;·exact aY6
  apply(n6);exact aX4
 have mX:=KO g0 D;apply oD∘lM∘EL;rintro v E G ⟨Lr,rfl,rfl,Mz⟩;replace Mz:=Mz.symm;subst Mz;apply z5∘r9;refine c7 [(1,.pointer _),(5,.slice _ _ _),(70,.slice _ _ _),(71,.int _ _),(72,.int _ _)] bP λnS=>?_;refine mJ Jj ?_;refine kO ([2,7]++b4 72 21) ((⟨λg=>[(72,.int .i64 ((g.1.1:Nat):Int))],λg=>(⟨.own Lr f.aT.l.length [],g.1.2⟩:J Bool).L 4 jF++(⟨gK,f.cells,42⟩::L),λ_=>R,λg=>f.aU.l.length-g.1.1⟩:dV {g:Nat×List Bool//(g.1<=f.aU.l.length/\(List.range f.aU.l.length).findSome? (GM f.aT.l.length f.aU.l)=((List.range f.aU.l.length).drop g.1).findSome? (GM f.aT.l.length f.aU.l))/\Ki f.aT.l.length f.aU.l g.1 g.2})) (⟨(0,List.replicate f.aT.l.length false),G9 _ _,Ki.zero⟩) ?_;rintro⟨⟨i,q⟩,⟨aA,hp⟩,hq⟩ bZ;try dsimp only
 dsimp only at aA hp hq;have gB:=hq.len;have gG:(⟨.own Lr f.aT.l.length [],q⟩:J Bool).ok 1 jF:=by have:=JL jF 1 Lr f.aT.l.length false BI;exact J.oZ BI this (by simp;exact gB)
 apply(h2);apply(W)<;>intro h3;·
  have rZ:=bJ f.aU.l i 0;apply(j7);refine aG Xz ?_;apply jI∘WL;apply cB (aC:=[_,_,_,_,_]) (j:=2) (a7:=78) rfl rfl aE rfl aW rfl;·exact Jg
  intro mY;apply(b3);apply(W)<;>intro hW;·apply(IU);refine dC L R ?_;exact⟨by rw[Zs bQ mX (zC hp D (aMi D))],rfl,rfl⟩
  have Ao:=bJ q ((f.aU.l.getD i 0).toNat) false;have aEI:=hq.M6 (f.aU.l.getD i 0).toNat D;have bCa:(((f.aU.l.getD i 0).toNat:Nat):Int)=f.aU.l.getD i 0:=by omega
  rw[bCa]at aEI;apply iK∘h7∘aP6;refine aG (qK O ((⟨.own Lr f.aT.l.length [],q⟩:J Bool)) rfl rfl rfl c0 bC bI bC aE) ?_;apply(b3);apply(W)<;>intro oO;·apply(IU);refine dC L R ?_;exact⟨by rw[Zs bQ mX (zC hp D (aNO D (aEI.1 (by simpa using oO))))],rfl,rfl⟩
  refine dK (aZ (cR ?_));apply h7∘aP6;refine i4 (jL O ((⟨.own Lr f.aT.l.length [],q⟩:J Bool)) (true) rfl rfl rfl rfl c0 bC bI bC bH aE aE) ?_;rintro v E G ⟨rfl,rfl⟩;apply(wB);exact dU ⟨(i+1,q.set (f.aU.l.getD i 0).toNat true),KH hp D (a4l D (λh=>by rw[aEI.2 h]at oO;cases oO)),hq.next D⟩
 have aFx:=KO hp D;apply AV∘r8;apply cB (aC:=[_,_,_]) (j:=3) (a7:=96) rfl rfl aE rfl aW rfl;·exact GF
 intro iG;apply(b3);apply(W)<;>intro FV;·apply(m1);refine dC L R ?_;exact⟨by rw[Jy bQ mX aFx,if_pos D],rfl,rfl⟩
 apply(S3);refine dC L R ?_;exact⟨by rw[Jy bQ mX aFx,if_neg D],rfl,rfl⟩
end
end Go.Proofs.YtchfclmokpbldaaGreat
/-
  Rounds of a range over a function: the regions of a round's frame, from the walks of plain regions; what a turn of the loop's record leaves alone. No program is named here. By an AI agent; no person has read it.
-/
namespace Go.Aw
open Go
def b5x{P:Program}{o:Oper}{l m:Nat}{a:Act}{next aUn:Act->World->Prop}{Q:Exit->Act->World->Prop}(hn:∀a w,next a w->aUn a w):
 ∀r,o.upon P a next Q r->o.uponIn (Fence.wide.inRound l) m P a aUn Q r:=by
 intro r h;cases r with
 |ok x w'=>
  cases x with
  |value v=>exact hn _ _ h
  |skip=>exact hn _ _ h
  |defer d=>exact hn _ _ h
  |enter f args=>
   refine⟨λh=>NP,?_⟩;have N:CallsIn Fence.wide (m-1) P f args w' _:=callsIn_wide.2 h;refine CallsIn.mono (F:=Fence.wide.inRound l) (show CallsIn (Fence.wide.inRound l) (m-1) P f args w' _ from N) ?_;intro e a2H X;cases e with
   |returned v=>exact hn _ _ X
   |panicked c=>exact X
   |outgrown=>exact X
  |row row args=>refine⟨λh=>NP,λc cs M=>?_⟩;obtain⟨v,a2H,hv,hs⟩:=h c cs;exact⟨v,a2H,hn _ _ hv,stepsIn_wide.2 hs⟩
  |_=>exact h.elim
 |halt e w'=>
  cases e with
  |panic v=>exact h
  |_=>exact h.elim
def aMQ{P:Program}{all:Array Oper}{l m:Nat}{Q:Exit->Act->World->Prop}(T3:¬LetsOut Q):
 ∀(ops:List Oper),(∀o∈ops,∀c,o.op≠.defer c)->∀a w,wpList P all Q ops a w->wpListIn (Fence.wide.inRound l) m P all Q ops a w
 |[],_,a,w,h=>h
 |o::ops,hd,a,w,h=>by
  have cM:=aMQ (P:=P) (all:=all) (l:=l) (m:=m) T3 ops (λo ho=>hd o (PL _ ho))
  unfold wpList at h
  unfold wpListIn
  by_cases cV:Region.wanted o (yielded all a.tmps)=true
  ·rw[if_pos cV]at h|-
   rcases h with h|h
   ·refine⟨λ_ _=>trivial, ?_⟩
    rw[Oper.semAt_eq _ _ _ (hd o Qg)]
    exact b5x cM _ h
   ·exact absurd h.2 T3
  ·rw[if_neg cV]at h|-
   exact⟨λ_ _=>trivial,cM _ _ h⟩
def dL.a0Z{gX:World}{cL:aP}{aC:Nat->Prop}{R:aJ}{E:aP}{G:aJ}{jX:World}(bX:tS cL aC R gX)(h:dL ⟨gX,zP cL,aC⟩ E G jX):tS E aC R jX:=by
 obtain⟨⟨H1,qU,hg⟩,ho,hk⟩:=h;have qV:∀b,aC b->jX.heap[b]?=gX.heap[b]?:=λb hb=>hk.block b (bX.tH b hb) (λ⟨e,X,An⟩=>bX.u7 e X (An▸hb));refine⟨qU.nR,qU.own,λe X nW=>?_,λb hb=>a2M (bX.tH b hb) hk.size,λr M=>(bX.p3 r M).mono (λ_ h=>h) qV⟩;rcases ho e X with⟨vM,wG,hb⟩|N;·exact bX.u7 vM wG (hb▸nW)
 ·exact absurd (bX.tH _ nW) (Nat.not_lt.2 N)
def dL.bAq{gX:World}{cL:aP}{aC:Nat->Prop}{R:aJ}{E:aP}{G:aJ}{jX:World}(bX:tS cL aC R gX)(h:dL ⟨gX,zP cL,aC⟩ E G jX):dL ⟨gX,zP cL,aC⟩ E R jX:=
 ⟨⟨aC,h.a0Z bX,λ_ hb=>.inl hb⟩,h.own,h.JI⟩
def GP(o:Obj):Prop:=(∀c t f,o≠.cells c t f)/\∀FP iE,o≠.map FP iE
def GP.g5{o:Obj}(h:GP o){cs:List Value}{T:VQ}:o≠T.Vr cs:=by
 cases T with
 |ty t=>exact h.1 _ _ _
 |mp FP iE=>exact h.2 _ _
def aC7{w:World}{a:Addr}{o:Obj}(h:w.heap[a.block]?=some o)(hn:GP o):w.frozen? a=false:=by unfold World.frozen?;rw[h];cases o<;>first|rfl|exact absurd rfl (hn.1 _ _ _)|exact absurd rfl (hn.2 _ _)
def dL.put{gX:World}{cL:aP}{aC:Nat->Prop}{R E jX}{l:Nat}{o o':Obj}(bX:tS cL aC R gX)(h:dL ⟨gX,zP cL,aC⟩ E R jX)(ho:jX.heap[l]?=some o)(hn:GP o)(UK:GP o')(hl:gX.heap.size<=l):dL ⟨gX,zP cL,aC⟩ E R (jX.putObj l o'):=by
 have hf:=h.a0Z bX;have hk:=h.JI;have jH:l<jX.heap.size:=(Array.getElem?_eq_some_iff.1 ho).1;have ne:∀e∈E,e.b≠l:=λe X hb=>by exact aXU
 refine⟨⟨aC,⟨hf.nR,λe X=>(World.putObj_heap_other (ne e X)).trans (hf.own e X),hf.u7,λb hb=>by rw[World.putObj_size];exact hf.tH b hb,λr M=>(hf.p3 r M).mono (λ_ h=>h) λb hb=>World.putObj_heap_other (by have:=bX.tH b hb;omega)⟩,λ_ hb=>.inl hb⟩,h.own,?_⟩;refine⟨hk.os,hk.tape,hk.output,by rw[World.putObj_size];exact hk.size,λb hb DD=>(World.putObj_heap_other (by have:b<gX.heap.size:=hb;omega)).trans (hk.block b hb DD),λa=>?_⟩;rw[<-hk.KV a];by_cases hD:a.block=l;·rw[aC7 (w:=jX) (by rw[hD];exact ho) hn];exact aC7 (by rw[hD];exact World.putObj_heap_same jH) UK
 ·exact aH0 (World.putObj_heap_other hD)
structure wQ(gX:World)(cL:aP)(aC:Nat->Prop)(R:aJ)(mS:Nat)(tM JK:Obj)(E:aP)(jX:World):Prop where
 e7:dL ⟨gX,zP cL,aC⟩ E R jX
 Tu:jX.heap[mS]?=some tM
 YA:jX.heap[mS+1]?=some JK
def aLu{L aC R jX}{l:Nat}{o:Obj}(hf:tS L aC R jX)(ho:jX.heap[l]?=some o)(hn:GP o):¬zP L l:=by rintro⟨e,X,hb⟩;exact aXU
def wQ.step{gX:World}{cL:aP}{aC:Nat->Prop}{R:aJ}{mS:Nat}{tM JK:Obj}{E:aP}{jX:World}(bX:tS cL aC R gX)(hd:GP tM)(hl:GP JK)(h:wQ gX cL aC R mS tM JK E jX){iM:aP}{yD:aJ}{CH:World}(k:dL ⟨jX,zP E,aC⟩ iM yD CH):wQ gX cL aC R mS tM JK iM CH:=by have hf:=h.e7.a0Z bX;have s:=dL.trans h.e7 (aC:=aC) (λb hb=>.inl hb) k;exact⟨s.bAq bX,(k.JI.block mS (Array.getElem?_eq_some_iff.1 h.Tu).1 (aLu hf h.Tu hd)).trans h.Tu,(k.JI.block (mS+1) (Array.getElem?_eq_some_iff.1 h.YA).1 (aLu hf h.YA hl)).trans h.YA⟩
def wQ.put{gX:World}{cL:aP}{aC:Nat->Prop}{R:aJ}{mS:Nat}{tM JK a73:Obj}{E:aP}{jX:World}(bX:tS cL aC R gX)(hR:gX.heap.size<=mS)(hl:GP JK)(aTa:GP a73)(h:wQ gX cL aC R mS tM JK E jX):wQ gX cL aC R mS tM a73 E (jX.putObj (mS+1) a73):=
 ⟨h.e7.put bX h.YA hl aTa D,(World.putObj_heap_other D).trans h.Tu,World.putObj_heap_same (Array.getElem?_eq_some_iff.1 h.YA).1⟩
def wQ.round{gX:World}{cL:aP}{aC:Nat->Prop}{R:aJ}{mS:Nat}{tM JK:Obj}{E:aP}{jX:World}(bX:tS cL aC R gX)(hd:GP tM)(hl:GP JK)(h:wQ gX cL aC R mS tM JK E jX)
 {P:Program} {n m id l:Nat} {ops:List Oper} {t:Nat->Value} {a:Act} {Q:gA} {N3:Exit->Act->World->Prop} (hf:nU n t a) (Au:∀o∈ops,∀c,o.op≠.defer c) (cV:c6 P n ops.toArray ops t E R Q) (w6:∀t L R,¬Q .outgrown t L R)
 (k:∀e fE CH t' iM yD,Q e t' iM yD->nU n t' fE->wQ gX cL aC R mS tM JK iM CH->N3 e fE CH):(Code.region id ops.toArray false).wpIn (Fence.wide.inRound l) m P N3 a jX:=by
 have pA:=h.e7.a0Z bX;have bE7:=cV _ a jX hf (dL.Cc pA);refine Code.wpIn_mono ?_ (wpIn_region_lit (aMQ (l:=l) (m:=m) ?_ ops Au a jX bE7));·rintro e fE CH ⟨_,t',iM,yD,hq,AN,uK⟩;exact aXY
 ·rintro⟨fE,CH,_,t',iM,yD,hq,_⟩;exact w6 _ _ _ hq
def wQ.plain{gX:World}{cL:aP}{aC:Nat->Prop}{R:aJ}{mS:Nat}{tM JK:Obj}{E:aP}{jX:World}(bX:tS cL aC R gX)(hd:GP tM)(hl:GP JK)(h:wQ gX cL aC R mS tM JK E jX)
 {P:Program} {n m:Nat} {XB:Code} {t:Nat->Value} {a:Act} {Q:gA} {N3:Exit->Act->World->Prop} (hf:nU n t a) (cV:cH P n XB t E R Q)
 (k:∀e fE CH t' iM yD,Q e t' iM yD->nU n t' fE->wQ gX cL aC R mS tM JK iM CH->N3 e fE CH):XB.wpIn Fence.wide m P N3 a jX:=by have pA:=h.e7.a0Z bX;refine Code.wpIn_mono ?_ (wpIn_wide.2 (cV _ a jX hf (dL.Cc pA)));rintro e fE CH ⟨_,t',iM,yD,hq,AN,uK⟩;exact aXY
def a9V{P:Program}{n m:Nat}{all:Array Oper}{Q:Exit->Act->World->Prop}{aB:List Oper}{t:Nat->Value}{a:Act}{w:World}{c:y7}{L:aP}{R:aJ}{d:Tmp}{op:Op}{ty:TypeId}{pos:String}{after:Array Edge}{v:Value}
 (hf:nU n t a) (hs:dL c L R w) (hv:cJ P ⟨some d,op,ty,pos,after,none⟩ (h9 t) L R v) (hd:Nat.blt d n=true) (k:∀fE,nU n (j1 t d v) fE->wpListIn Fence.wide m P all Q aB fE w):wpListIn Fence.wide m P all Q (⟨some d,op,ty,pos,after,none⟩::aB) a w:=by unfold wpListIn;rw[if_pos aE];refine⟨λ_ _=>trivial,?_⟩;rw[show Fence.wide.round=none from rfl,Oper.semAt_none];rw[hf.eval,hv c w hs];exact k _ (hf.put (d:=some d) hd v)
def b3u{P:Program}{bA:Operand->Value}{x y:Operand}{l:Nat}{v:Value}{d:Option Tmp}{rG:Array TypeId}{ty:TypeId}{pos:String}{after:Array Edge}{g:Option (Nat×Bool)}{w:World}(K:bA x=.func (.yield l) #[] #[])(aN:bA y=v):
 (execOp bA ⟨d,.call ⟨.value x,#[y],rG⟩,ty,pos,after,g⟩).run P w=(Instr.yield l #[v]).run P w:=by simp only[execOp,resolve,K,Deferred.ofValue];simp[invoke,aN,y5,NL]
def b7P{P:Program}{n m l:Nat}{all:Array Oper}{Q:Exit->Act->World->Prop}{aB:List Oper}{t:Nat->Value}{a:Act}{w:World}{d:Tmp}{x y:Operand}{rG:Array TypeId}{ty:TypeId}{pos:String}{after:Array Edge}{v r:Value}{S:World->Prop}
 (hf:nU n t a) (K:h9 t x=.func (.yield l) #[] #[]) (aN:h9 t y=v) (hd:Nat.blt d n=true) (bBB:YieldAt Fence.wide (m-1) P l #[v] w λe w'=>e=.returned r/\S w') (k:∀fE w',nU n (j1 t d r) fE->S w'->wpListIn Fence.wide m P all Q aB fE w'):
 wpListIn Fence.wide m P all Q (⟨some d,.call ⟨.value x,#[y],rG⟩,ty,pos,after,none⟩::aB) a w:=by unfold wpListIn;rw[if_pos aE];refine⟨λ_ _=>trivial,?_⟩;rw[show Fence.wide.round=none from rfl,Oper.semAt_none];obtain⟨fn,tmps,bIo,bIL,N,V⟩:=bBB;rw[hf.eval,b3u K aN,N];refine⟨λh=>NP,V.mono ?_⟩;rintro e w' ⟨rfl,hs⟩;exact k _ _ (hf.put (d:=some d) hd r) hs
def dL.aRI{c:y7}{L:aP}{R:aJ}{w:World}(h:dL c L R w){o:Obj}(hn:GP o):dL c L R (w.alloc o):=by
 obtain⟨⟨aC,bX,hg⟩,ho,hk⟩:=h;have qV:∀b,b<w.heap.size->(w.alloc o).heap[b]?=w.heap[b]?:=λb hb=>by exact aHM
 refine⟨⟨aC,⟨bX.nR,λe X=>(qV _ (bX.lt X)).trans (bX.own e X),bX.u7,λb hb=>by have:=bX.tH b hb;simp;omega,λr M=>(bX.p3 r M).mono (λ_ h=>h) (λb hb=>qV b (bX.tH b hb))⟩,hg⟩,ho,⟨hk.os,hk.tape,hk.output,?_,λb hb AJ=>?_,λa=>?_⟩⟩;·have:=hk.size;simp;omega
 ·rw[qV b (a2M hb hk.size)];exact hk.block b hb AJ
 ·
  rw[<-hk.KV a];rcases Nat.lt_trichotomy a.block w.heap.size with N|N|N;·exact aH0 (qV _ N)
  ·rw[aC7 (w:=w.alloc o) (o:=o) (by rw[N];show(w.heap.push _)[w.heap.size]? =_;simp) hn];unfold World.frozen?;rw[N,LL (g4 _)]
  ·unfold World.frozen?;rw[LL B6,LL D]
def b8P(w:World)(o:Obj)(b:Nat)(hb:b<w.heap.size):(w.alloc o).heap[b]?=w.heap[b]?:=by exact aHM
def aI.bGD{P:Program}{f:FuncId}{args:Array Value}{L:aP}{R:aJ}{Post:oY}(N: ∀(xs:Array Value) (w:World),(callFunc f xs).run P w= .ok (.enter f xs) w)
 (V:∀(w:World) (aC:Nat->Prop),tS L aC R w->Calls P f args w λe w'=>∃v E G,e=.returned v/\Post v E G/\dL ⟨w,zP L,aC⟩ E G w'):aI P f args L R Post:=⟨N,V⟩
end Go.Aw
namespace Go.Proofs.YtchfclmokpbldaaGreat
open Go.Aw Go Go.Proofs.Tryz
section
attribute [local irreducible] cH c6 dP aI cJ eD e9 e0 e1 e5 eS e8 J.L
def Wm(aF:List bL):Nat->Int->List Int
 |0,_=>[]
 |n+1,s=>if s<0 then[]else s::Wm aF n (aF.getD s.toNat default).bB
def E5(aF:List bL)(s:Int):List Int:=Wm aF (s+1).toNat s
def Eb(aF:List bL):Prop:=∀i:Nat,i<aF.length->-1<=(aF.getD i default).bB/\(aF.getD i default).bB<i
def b72{aF:List bL}(h:Eb aF):∀(n:Nat) (s:Int),s<aF.length->(s+1).toNat<=n->Wm aF n s=E5 aF s:=by
 intro n;induction n using Nat.strongRecOn with
 |_ n cM=>
  intro s hs hn;by_cases bQ:s<0;·
   rw[E5,show(s+1).toNat=0 by omega];cases n with
   |zero=>rfl
   |succ n=>show(if s<0 then[]else _)=([]:List Int);rw[if_pos bQ]
  ·obtain⟨k,rfl⟩: ∃k,n=k+1:=⟨n-1,by omega⟩;have ha:=h s.toNat D;rw[E5,show(s+1).toNat=s.toNat+1 by omega,Wm,Wm,if_neg D,if_neg D,cM k D _ D D,cM s.toNat D _ D D]
def Sq{aF:List bL}{s:Int}(h:s<0):E5 aF s=[]:=by rw[E5,show(s+1).toNat=0 by omega];rfl
def Sf{aF:List bL}(h:Eb aF){s:Int}(bQ:0<=s)(N:s<aF.length):E5 aF s=s::E5 aF (aF.getD s.toNat default).bB:=by have ha:=h s.toNat D;rw[E5,show(s+1).toNat=s.toNat+1 by omega,Wm,if_neg D,b72 h _ _ D D]
def aB3{aF:List bL}(h:Eb aF):∀(n:Nat) (s:Int),s<aF.length->(s+1).toNat<=n->(E5 aF s).length<=n:=by
 intro n;induction n with
 |zero=>intro s _ hn;rw[Sq D];exact g4 _
 |succ n cM=>
  intro s hs hn;by_cases bQ:s<0;·rw[Sq bQ];simp
  ·have ha:=h s.toNat D;rw[Sf h D hs,sK];have:=cM (aF.getD s.toNat default).bB D D;omega
def aCq(c:Code):Code:=match c with
 | .seq _ (.seq (.seq _ (.block _ (.rangeFunc _ _ x _))) _)=>x
 |_=>.skip
def aAT(c:Code):Code:=match c with
 | .seq _ (.seq (.seq _ (.block _ (.rangeFunc _ _ _ x))) _)=>x
 |_=>.skip
def a0H(sG x:Value)(B:Nat):Array Value:=#[.slice none 0 0,sG,.pointer (some ⟨B,0,none⟩),undef,.slice none 0 0,undef,sG,x,undef,undef,undef,undef,undef]
def St(XB:Code)(fn:FuncId)(sG:Value)(B:Nat)(e7:LoopState):Loop:={state:=e7,pending:=none,fn,tmps:=a0H sG undef B,params:=#[7],assign:=aCq XB,body:=aAT XB,defers:=B+1}
def ZJ(XB:Code)(fn:FuncId)(sG:Value)(B:Nat)(e7:LoopState):Obj:=.loop (St XB fn sG B e7)
def V6{XB fn sG B e7}:GP (ZJ XB fn sG B e7):=⟨λc t f h=>NP,λFP iE h=>NP⟩
def Y2:Obj:=.deferred (some [])
def Tc:GP Y2:=⟨λc t f h=>NP,λFP iE h=>NP⟩
def aK5(t:Array Value)(n:Nat)(h:t.size=n):nU n (λk=>t.getD k undef) {tmps:=t,defers:=[]}:=⟨rfl,h,λ_=>rfl⟩
def aLc(o:Oper):Bool:=match o.op with
 | .defer _=>true
 |_=>false
def aQ4{ops:List Oper}(h:ops.any aLc=false):∀o∈ops,∀c,o.op≠.defer c:=λo ho c e=>by
 have:=List.any_eq_false.1 h o ho
 rw[aLc,e]at this
 exact this rfl
section
variable{gX:World}{cL:aP}{aC:Nat->Prop}{R:aJ}(bX:tS cL aC R gX)
include bX
def b7x{fn:FuncId}{sG:Value}{m:Nat}{a4D:aP}{p:J Int}(hok:p.ok 1 aL)(rU:p.l.length<=1000000)(x:Int){jX:World}(h:wQ gX cL aC R (gX.heap.size+1) Y2 (ZJ (f170.body.getD .skip) fn sG gX.heap.size .ready) (⟨gX.heap.size,[p.val],40⟩::(p.L 3 aL++a4D)) jX):
 YieldAt Fence.wide m prog (gX.heap.size+1+1) #[.int .i64 x] jX λe CH=>e=.returned (.bool true)/\∃o,(⟨o,p.l++[x]⟩:J Int).ok 1 aL/\wQ gX cL aC R (gX.heap.size+1) Y2 (ZJ (f170.body.getD .skip) fn sG gX.heap.size .ready) (⟨gX.heap.size,[(⟨o,p.l++[x]⟩:J Int).val],40⟩::((⟨o,p.l++[x]⟩:J Int).L 3 aL++a4D)) CH:=by
 refine⟨fn,a0H sG (.int .i64 x) gX.heap.size,(aCq (f170.body.getD .skip)),(aAT (f170.body.getD .skip)),(by have:=run_yield (P:=prog) (args:=#[.int .i64 x]) (r:=St (f170.body.getD .skip) fn sG gX.heap.size .ready) h.YA rfl;simpa[St,a0H]using this),roundIn_of_wpIn trivial ?_⟩;refine wQ.round bX Tc V6 h (t:=λk=>(a0H sG (.int .i64 x) gX.heap.size).getD k undef) (Q:=λe t E G=>e=.normal/\(t 5=.int .i64 x/\t 2=.pointer (some ⟨gX.heap.size,0,none⟩))/\E=(⟨gX.heap.size,[p.val],40⟩::(p.L 3 aL++a4D))/\G=R) (aK5 _ 13 rfl) (aQ4 rfl) ?_ (λ_ _ _ h=>by cases h.1) ?_;·refine aG (GN Qq) ?_;exact eI ⟨rfl,⟨rfl,rfl⟩,rfl,rfl⟩
 rintro e j5 Kz Ir L4 gR ⟨rfl,⟨bET,a16⟩,rfl,rfl⟩ w4 N;refine⟨_,run_beginRound N.YA rfl,?_⟩;have V:=wQ.put bX D V6 (V6 (XB:=(f170.body.getD .skip)) (fn:=fn) (sG:=sG) (B:=gX.heap.size) (e7:=.busy)) N;show(Code.block _ _).wpIn _ _ _ _ _ _;refine wpIn_block ?_;refine wQ.round bX Tc V6 V (Q:=λe t E G=>e=.normal/\∃o,(⟨o,p.l++[x]⟩:J Int).ok 1 aL/\(⟨gX.heap.size,[(⟨o,p.l++[x]⟩:J Int).val],40⟩::((⟨o,p.l++[x]⟩:J Int).L 3 aL++a4D)).Sublist E) w4 (aQ4 rfl) ?_ (λ_ _ _ h=>by cases h.1) ?_;·refine aG (P8 O a16 rfl rfl o0 aE) ?_;refine aG (A2 (v:=.int .i64 x) bET) ?_;apply(zU);rintro v E G ⟨a6p,rfl,rfl,D9⟩;replace D9:=D9.symm;subst D9;refine gO (j2 (f:=aL) (a:=x) O rfl rfl rfl rfl hok c0 j8 rfl D) rfl ?_;rintro v E G ⟨o,rfl,a1T,rfl,rfl⟩;refine Sn (v:=Value.slice _ _ _) O rfl a16 rfl rfl s6 rfl rfl aE ?_;exact eI ⟨rfl,o,a1T,a8A _ _⟩
 rintro e lV a0g bKT bIh n4 ⟨rfl,o,bDM,l6⟩ Gx aQ;have b7:wQ _ _ _ _ _ _ _ _ _:=⟨aQ.e7.vB l6 fF,aQ.Tu,aQ.YA⟩;exact⟨_,_,run_endRound none b7.YA,rfl,o,bDM,wQ.put bX D V6 V6 b7⟩
def Zc(w:World)(b:Nat):Int:=match w.cell? ⟨b,0,none⟩with
 |some (.int _ n)=>n
 |_=>-1
def b1F{fn:FuncId}{sG:Value}{m:Nat}{f:hI}{l2 sY:Nat}{L:aP}(jA:aH (uT f.aT) R)(c4:Eb f.aT.l)(hn:f.aT.l.length<=1000){Tt:Int}(hc:Tt<f.aT.l.length){jX:World}{p:J Int}(hk:p.ok 1 aL)(eB:p.l=[])
 (h:wQ gX cL aC R (gX.heap.size+1) Y2 (ZJ (f170.body.getD .skip) fn sG gX.heap.size .ready) (⟨gX.heap.size,[p.val],40⟩::(p.L 3 aL++(⟨l2,[.int .i64 Tt],3⟩::⟨sY,f.cells,42⟩::L))) jX):
 CallsIn Fence.wide m prog 171 #[.func (.yield (gX.heap.size+1+1)) #[] #[],.pointer (some ⟨l2,0,none⟩),.pointer (some ⟨sY,0,none⟩)] jX λe CH=>(∃v,e=.returned v)/\∃(q:J Int) (qQ:Int),q.ok 1 aL/\q.l=E5 f.aT.l Tt/\
  wQ gX cL aC R (gX.heap.size+1) Y2 (ZJ (f170.body.getD .skip) fn sG gX.heap.size .ready) (⟨gX.heap.size,[q.val],40⟩::(q.L 3 aL++(⟨l2,[.int .i64 qQ],3⟩::⟨sY,f.cells,42⟩::L))) CH:=by
 refine callsIn_of_wp func171 rfl trivial ?_ rfl;simp only[ntmps171,aIe,sK,EV,Nat.reduceAdd,Nat.reduceSub,Array.replicate_succ,Array.replicate_zero,List.push_toArray,List.append_toArray,m0,oF];refine wpIn_block ?_;refine wpIn_loop (λa w=>∃(t:Nat->Value) (q:J Int) (qQ:Int),nU 16 t a/\(t 0=.func (.yield (gX.heap.size+1+1)) #[] #[]/\t 1=.pointer (some ⟨l2,0,none⟩)/\t 2=.pointer (some ⟨sY,0,none⟩))/\q.ok 1 aL/\(-1<=qQ\/True)/\qQ<f.aT.l.length/\E5 f.aT.l Tt=q.l++E5 f.aT.l qQ/\
  wQ gX cL aC R (gX.heap.size+1) Y2 (ZJ (f170.body.getD .skip) fn sG gX.heap.size .ready) (⟨gX.heap.size,[q.val],40⟩::(q.L 3 aL++(⟨l2,[.int .i64 qQ],3⟩::⟨sY,f.cells,42⟩::L))) w) (λ_ w=>(Zc w l2+1).toNat) ?_ ?_
 ·exact⟨_,p,Tt,aK5 _ 16 rfl,⟨rfl,rfl,rfl⟩,hk,.inr trivial,hc,by rw[eB];rfl,h⟩
 rintro a w ⟨t,q,qQ,hf,⟨k0,Ir,a8e⟩,hk,_,Gs,hp,h⟩;have a7b:Zc w l2=qQ:=by have:=ZK (b:=l2) (cs:=[.int .i64 qQ]) (T:=3) h.e7 (PL _ (mA _ Qg)) 0;rw[Zc,this];rfl
 refine wpIn_seq (wpIn_seq ?_);refine wQ.plain bX Tc V6 h (Q:=λe t' E G=>e=.normal/\((t' 0=.func (.yield (gX.heap.size+1+1)) #[] #[]/\t' 1=.pointer (some ⟨l2,0,none⟩)/\t' 2=.pointer (some ⟨sY,0,none⟩))/\t' 5=.bool (decide (0<=qQ)))/\(⟨gX.heap.size,[q.val],40⟩::(q.L 3 aL++(⟨l2,[.int .i64 qQ],3⟩::⟨sY,f.cells,42⟩::L)))=E) hf ?_ ?_;·refine cR ?_;refine aG (P8 O Ir rfl rfl o0 aE) ?_;apply(DL);exact eI ⟨rfl,⟨⟨k0,Ir,a8e⟩,rfl⟩,rfl⟩
 rintro e j5 s4 t' L4 gR ⟨rfl,⟨⟨k0,Ir,a8e⟩,bGM⟩,rfl⟩ w4 N;refine wpIn_cond (t:=decide (0<=qQ)) (by rw[w4.eval];exact bGM) ?_;by_cases bQ:0<=qQ;·
  rw[decide_eq_true bQ,if_pos rfl];refine wpIn_skip ?_;refine wpIn_seq (wpIn_block (wpIn_seq ?_));refine wpIn_region_lit ?_;refine a9V w4 N.e7 (A2 (v:=.func (.yield (gX.heap.size+1+1)) #[] #[]) k0) rfl λkK vO=>?_;refine a9V vO N.e7 (P8 O Ir rfl rfl o0 aE) rfl λlV Gx=>?_;have aTA:q.l.length<=1000000:=by have:=aB3 c4 _ Tt hc (g4 _);rw[hp,iD]at this;omega
  refine b7P (v:=.int .i64 qQ) Gx rfl rfl rfl (b7x bX hk aTA qQ N) λq5 NK bCx ⟨o,aFH,b7⟩=>?_;refine a9V bCx b7.e7 (PX rfl) rfl λAC Gy=>?_;show Exit.then _ _ Exit.normal _ _;refine wpIn_cond (t:=false) (by rw[Gy.eval];rfl) ?_;rw[if_neg fX];refine wpIn_skip ?_;have hg:=bJ f.aT.l qQ.toNat default;have ha:=c4 qQ.toNat D;refine wQ.plain bX Tc V6 b7 (Q:=λe t' E G=>e=.normal/\(t' 0=.func (.yield (gX.heap.size+1+1)) #[] #[]/\t' 1=.pointer (some ⟨l2,0,none⟩)/\t' 2=.pointer (some ⟨sY,0,none⟩))/\
   ⟨gX.heap.size,[(⟨o,q.l++[qQ]⟩:J Int).val],40⟩::((⟨o,q.l++[qQ]⟩:J Int).L 3 aL++(⟨l2,[.int .i64 (f.aT.l.getD qQ.toNat default).bB],3⟩::⟨sY,f.cells,42⟩::L))=E) Gy ?_ ?_
  ·refine cR ?_;refine aG (aA6 O rfl (show _=Value.pointer (some ⟨sY,0,none⟩)from a8e) rfl) ?_;apply(kZ);refine aG (P8 O (show _=Value.pointer (some ⟨l2,0,none⟩)from Ir) rfl rfl o0 aE) ?_;refine aG (j9 O rfl rfl rfl rfl jA (i:=qQ.toNat) D D) ?_;apply(k7);refine aG (aP7 O rfl rfl rfl jA hg rfl) ?_;refine Sn (v:=Value.int _ _) O rfl (show _=Value.pointer (some ⟨l2,0,none⟩)from Ir) rfl rfl s6 rfl rfl aE ?_;exact eI ⟨rfl,⟨k0,Ir,a8e⟩,rfl⟩
  rintro e a6k Wo bGN bIi ZD ⟨rfl,bEU,rfl⟩ bCy gF;have bDx:Zc Wo l2=(f.aT.l.getD qQ.toNat default).bB:=by have:=ZK (b:=l2) (cs:=[.int .i64 (f.aT.l.getD qQ.toNat default).bB]) (T:=3) gF.e7 (PL _ (mA _ Qg)) 0;rw[Zc,this];rfl
  refine⟨⟨bGN,⟨o,q.l++[qQ]⟩,_,bCy,bEU,aFH,.inr trivial,by omega,?_,gF⟩,?_⟩;·rw[hp,Sf c4 bQ Gs,mQ];rfl
  ·rw[a7b,bDx];omega
 ·rw[decide_eq_false bQ,if_neg fX];refine wpIn_exit ?_;simp only[Exit.then,Exit.inBlock,if_true];refine⟨w4.defers,_,results_none rfl _ _ _,⟨_,rfl⟩,q,qQ,hk,?_,N⟩;rw[hp,Sq D,EX]
end
def b5O(f:hI)(s:Int)(l2 sY:Nat)(L:aP)(R:aJ)(jA:aH (uT f.aT) R)(c4:Eb f.aT.l)(hn:f.aT.l.length<=1000)(hc:s<f.aT.l.length):
 aI prog 170 [.slice none 0 0,.func (.func 171) #[] #[.pointer (some ⟨l2,0,none⟩),.pointer (some ⟨sY,0,none⟩)]].toArray (⟨l2,[.int .i64 s],3⟩::⟨sY,f.cells,42⟩::L) R
  (λv E G=>∃(q:J Int) (qQ:Int),v=q.val/\q.ok 1 aL/\q.l=E5 f.aT.l s/\q.L 3 aL++(⟨l2,[.int .i64 qQ],3⟩::⟨sY,f.cells,42⟩::L)=E/\R=G):=by
 refine aI.bGD call170 λw aC bX=>(callsIn_wide (n:=5)).1 ?_;refine callsIn_of_wp_marks func170 rfl trivial ?_ rfl;simp only[ntmps170,aIe,sK,EV,Nat.reduceAdd,Nat.reduceSub,Array.replicate_succ,Array.replicate_zero,List.push_toArray,List.append_toArray,m0,oF]
 gi_wp2
 refine wpIn_rangeFunc ?_;intro fn BP;obtain⟨sG,xU⟩:∃sG:Value,sG=.func (.func 171) #[] #[.pointer (some ⟨l2,0,none⟩),.pointer (some ⟨sY,0,none⟩)]:=⟨_,rfl⟩;obtain⟨Ex,Uh⟩:∃Ex,w.alloc (.cells #[.slice none 0 0] 40)=Ex:=⟨_,rfl⟩;have Bn:Ex.heap.size=w.heap.size+1:=by rw[<-Uh];simp
 have aVj:dL ⟨w,zP (⟨l2,[.int .i64 s],3⟩::⟨sY,f.cells,42⟩::L),aC⟩ (⟨w.heap.size,[.slice none 0 0],40⟩::⟨l2,[.int .i64 s],3⟩::⟨sY,f.cells,42⟩::L) R Ex:=by rw[<-Uh];exact(dL.Cc bX).alloc #[.slice none 0 0] 40
 rw[Uh];obtain⟨Kz,aEA⟩:∃Kz,(Ex.alloc Y2).alloc (ZJ (f170.body.getD .skip) fn sG w.heap.size .ready)=Kz:=⟨_,rfl⟩;have gI:wQ w (⟨l2,[.int .i64 s],3⟩::⟨sY,f.cells,42⟩::L) aC R (w.heap.size+1) Y2 (ZJ (f170.body.getD .skip) fn sG w.heap.size .ready) (⟨w.heap.size,[(J.nil:J Int).val],40⟩::((J.nil:J Int).L 3 aL++(⟨l2,[.int .i64 s],3⟩::⟨sY,f.cells,42⟩::L))) Kz:=by
  rw[<-aEA];refine⟨(by rw[lT,m0];exact(aVj.aRI Tc).aRI V6),?_,?_⟩;·rw[<-Bn];exact(b8P _ _ _ fX).trans (World.alloc_heap_new Ex _)
  ·have:=World.alloc_heap_new (Ex.alloc Y2) (ZJ (f170.body.getD .skip) fn sG w.heap.size .ready);rwa[World.size_alloc,Bn]at this
 refine⟨w.heap.size+1+1,[{target:=.collected (w.heap.size+1),args:=#[]}],Kz,{target:=.fn (.func 171) #[.pointer (some ⟨l2,0,none⟩),.pointer (some ⟨sY,0,none⟩)],args:=#[.func (.yield (w.heap.size+1+1)) #[] #[]]},Kz,171,
  #[.func (.yield (w.heap.size+1+1)) #[] #[],.pointer (some ⟨l2,0,none⟩),.pointer (some ⟨sY,0,none⟩)],Kz,?_,?_,λ_ _=>trivial,?_,λh=>NP,?_⟩
 ·have:=run_enterLoop_outer (P:=prog) (w:=Ex) fn (a0H sG undef w.heap.size) #[7] (aCq (f170.body.getD .skip)) (aAT (f170.body.getD .skip));rw[Bn]at this;rw[<-aEA,xU];rw[xU]at this;exact this
 ·simp[resolve,go_sem]
 ·simp[invoke,go_sem,call171]
 ·
  refine(b1F bX jA c4 hn hc J.g6 rfl gI).mono ?_;rintro e b7e ⟨⟨a2F,rfl⟩,q,qQ,hk,hq,V⟩;have Nt:=run_endLoop (P:=prog) V.YA (by simp[St]);have aQ:=wQ.put bX D V6 (a73:=.loop {St (f170.body.getD .skip) fn sG w.heap.size .ready with state:=.exhausted}) ⟨λc t f h=>NP,λFP iE h=>NP⟩ V;obtain⟨a0g,aSw⟩:∃a0g,b7e.putObj (w.heap.size+1+1) (.loop {St (f170.body.getD .skip) fn sG w.heap.size .ready with state:=.exhausted})=a0g:=⟨_,rfl⟩;rw[aSw]at Nt aQ;have dZ:a0g.cell? ⟨w.heap.size,0,none⟩=some q.val:=ZK (b:=w.heap.size) (cs:=[q.val]) (T:=40) aQ.e7 Qg 0;have aSM:=aQ.Tu;have bGI:=aQ.e7;clear aSw aQ V gI aEA aVj Uh;refine⟨none,a0g,Nt,?_⟩
  gi_wp2
  have bGJ:=(bGI.put bX aSM Tc (o':=.deferred none) ⟨λc t f h=>NP,λFP iE h=>NP⟩ D).vB (a8A _ _) fF;refine⟨by simp,.inl ⟨_,_,rfl,run_takeDeferred aSM,?_⟩⟩;exact⟨_,results_tmp rfl _ _ _,q.val,_,_,rfl,⟨q,qQ,rfl,hk,hq,rfl,rfl⟩,bGJ⟩
def aAO(h:A->B:=by exact(a4 Xy ·)):=h
def Ll(f:hI)(L:aP)(R:aJ)(hf:k9 f R):
 aI prog 122 [f.val].toArray L R (λv E G=>v=.int .i64 (i6 f.aT.l f.aU.l f.cA)/\L=E/\R=G):=by
 have jA:=hf.aF;have pL:=hf.cG;refine J2 call122 jA λMS=>?_;refine J2 call122 pL λaSH=>?_;refine bW 115 call122 func122 ?_;apply(c8);intro gK;apply g7∘S7∘c9;apply cB (aC:=[_,_,_,_]) (j:=4) (a7:=11) rfl rfl aE rfl aW rfl;·exact YT
 intro yU;apply(b3);apply(W)<;>intro aO;·exact aXI
 have bQ:¬(32<f.aT.l.length\/16<f.aU.l.length):=by omega
 apply(zH);refine c7 [(1,.pointer _),(3,.int _ _)] bP λeZ=>?_;refine gP ([2,3,4]++b4 17 50) (λg:H0 (BF f.aT.l) (f.aT.l.length)=>[(3,.int .i64 ((g.1:Nat):Int))]) (λg=>(f.aT.l.length)-g.1) ⟨0,G9 _ _⟩ ?_;rintro⟨fM,yR,g0⟩ bZ;try dsimp only
 apply(oJ);apply(W)<;>intro bF;·
  have rB:=bJ f.aT.l fM default;obtain⟨x,K⟩:∃x,x=f.aT.l.getD fM default:=⟨_,rfl⟩;rw[<-K]at rB;apply(CK);refine aG R6 ?_;apply(WJ);intro cT;apply rQ∘r8;apply cB (aC:=[_,_,_,_]) (j:=3) (a7:=32) rfl rfl aE rfl aW rfl;·exact a80
  intro iG;apply(b3);apply(W)<;>intro b2;·exact b0d
  apply iK∘r8;apply cB (aC:=[_,_,_]) (j:=3) (a7:=41) rfl rfl aE rfl aW rfl;·exact GF
  intro iG;apply(b3);apply(W)<;>intro dZ;·exact aZI
  apply eR∘r8;apply cB (aC:=[_,_,_]) (j:=3) (a7:=49) rfl rfl aE rfl aW rfl;·exact GF
  intro iG;apply(c9);apply cB (aC:=[_,_,_,_,_,_,_,_,_,_,_]) (j:=8) (a7:=54) rfl rfl aE rfl aW rfl;·
   intro gM;replace gM:=a8 gM;apply fH∘c9;apply iZ (aC:=[_,_,_,_,_,_,_]) (j:=11) (a7:=57) rfl rfl aE rfl aW rfl;·
    intro xP;replace xP:=a8 xP;apply fH∘c9;apply cB (aC:=[_,_,_]) (j:=14) (a7:=60) rfl rfl aE rfl aW rfl;·intro qT;replace qT:=a8 qT;exact(fH) LP
    intro UX;exact hL
   intro a2k;exact hL
  intro wJ;apply(b3);apply(W)<;>intro dX;·exact aY6
  apply(mD);exact aX4
 have mX:=KO g0 D;apply(G0);refine c7 [(1,.pointer _),(5,.int _ _)] bP λnS=>?_;refine gP ([2,5,6]++b4 67 40) (λg:H0 (GM f.aT.l.length f.aU.l) (f.aU.l.length)=>[(5,.int .i64 ((g.1:Nat):Int))]) (λg=>(f.aU.l.length)-g.1) ⟨0,G9 _ _⟩ ?_;rintro⟨eU,e6,kE⟩ bZ;try dsimp only
 apply(oJ);apply(W)<;>intro h3;·
  have rZ:=bJ f.aU.l eU 0;refine dK (aZ (a6 (e3 (a6 (a6 ?_)))));refine gJ O [0,1,2,3,4,5,6,7,8,9,10,11,12,13,14,15,16] _ cX bE g3 ?_;apply oV∘aAO∘lW;refine a4 HY ?_;apply(tN);refine l0 (k:=80) aW (λk5=>?_) (λk5=>?_);·replace k5:=a8 k5;(iterate 9 apply(kQ));apply(m2);refine wR rfl ?_;exact aZ2
  replace k5:=a8 k5;apply oV∘aAO∘lW∘iI;refine a4 vZ ?_;refine a4 JU ?_;apply(m2);apply(W)<;>intro hW;·exact aZ2
  apply eR∘mM;refine zY ([2,5,6]++b4 67 40) AZ [(5,.int _ _),(6,.int _ _),(81,.pointer _),(82,.slice _ _ _),(83,.int _ _),(84,.pointer _),(85,.int _ _),(86,.pointer _),(87,.slice _ _ _),(88,.int _ _),(89,.bool _)] bP λNH=>?_;refine gP ([2,6]++b4 91 16) (λg:{j:Nat//j<=eU/\∀m:Nat,m<j->f.aU.l.getD m 0≠f.aU.l.getD eU 0}=>[(6,.int .i64 ((g.1:Nat):Int))]) (λg=>eU-g.1) (⟨0,by omega,λm hm=>by omega⟩) ?_;rintro⟨j,aY,hD⟩ bZ;try dsimp only
  apply(TF);apply(W)<;>intro oO;·
   have Us:=bJ f.aU.l j 0;refine dK (aZ (a6 (e3 (a6 ?_))));refine gJ O [0,1,2,3,4,5,6,7,8,9,10] _ cX bE g3 ?_;apply(oV);refine a4 Dc ?_;apply lW∘oV∘aAO∘lW;refine a4 B7 ?_;apply(vW);apply(W)<;>intro FV;·apply(rN);refine eI (aZ (iT (iS (gD (wS (iS (iS (gD (wS (iS (gD ?_)))))))))));refine dC L R ?_;exact⟨by rw[Zs bQ mX (zC kE D (aNO D ⟨j,by omega,FV⟩))],rfl,rfl⟩
   apply(mD);exact oQ (⟨j+1,by omega,λm hm=>by
   rcases gY m j with h|h;·exact hD m h
   ·(obtain rfl:m=j:=by omega);exact FV⟩)
  refine lC (lB (tT (lA (gV (aZ (cR ?_))))));apply(N7);exact dU ⟨eU+1,KH kE D (a4l D (λ⟨m,RR,O3⟩=>hD m D O3))⟩
 have s1:=KO kE D;apply AV∘r8;apply cB (aC:=[_,_,_]) (j:=3) (a7:=110) rfl rfl aE rfl aW rfl;·exact GF
 intro iG;apply(b3);apply(W)<;>intro aEK;·apply(m1);refine dC L R ?_;exact⟨by rw[Jy bQ mX s1,if_pos D],rfl,rfl⟩
 apply(S3);refine dC L R ?_;exact⟨by rw[Jy bQ mX s1,if_neg D],rfl,rfl⟩
def aBW(h:A->B:=by exact(aG lR ·)):=h
structure aI9(aF:List bL)(cG:List Int)(bT:Int):Prop where
 wN:aF.length<=32
 yA:cG.length<=16
 up:Eb aF
 cQ:∀i:Nat,i<aF.length->0<=(aF.getD i default).cQ/\(aF.getD i default).cQ<=2147483648
 cY:∀i:Nat,i<aF.length->-1<=(aF.getD i default).cY/\(aF.getD i default).cY<=1
 Dh:∀i:Nat,i<cG.length->0<=cG.getD i 0/\cG.getD i 0<aF.length
 bHF:∀i j:Nat,j<i->i<cG.length->cG.getD j 0≠cG.getD i 0
 bT:1<=bT/\bT<=100000
def aCY{r4:Type}{f:Nat->Option r4}{n:Nat}(h:(List.range n).findSome? f=none){i:Nat}(aA:i<n):f i=none:=by rw[NN]at h;exact h i (List.mem_range.2 aA)
def aNt{l:List bL}{i:Nat}:BF l i≠some 0:=by
 rw[BF];repeat' split
 all_goals (intro h;first|cases h|(injection h with h;omega))
def b8z{n:Nat}{l:List Int}{i:Nat}:GM n l i≠some 0:=by
 rw[GM];repeat' split
 all_goals (intro h;first|cases h|(injection h with h;omega))
def aA9{f:Nat->Option Int}{n:Nat}{e:Int}(hf:∀i,f i≠some 0)(h:(List.range n).findSome? f=some e):e≠0:=by obtain⟨i,_,aA⟩:=PI h;rintro rfl;exact hf _ aA
def zD{aF:List bL}{cG:List Int}{bT:Int}(h:i6 aF cG bT=0):aI9 aF cG bT:=by
 by_cases bQ:32<aF.length\/16<cG.length;·rw[i6,if_pos bQ]at h;omega
 cases N:(List.range aF.length).findSome? (BF aF)with
 |some e=>rw[a0e bQ N]at h;exact absurd h (aA9 (λ_=>aNt) N)
 |none=>
  cases V:(List.range cG.length).findSome? (GM aF.length cG)with
  |some e=>rw[Zs bQ N V]at h;exact absurd h (aA9 (λ_=>b8z) V)
  |none=>
   rw[Jy bQ N V]at h;have hs:∀i:Nat,i<aF.length->(-1<=(aF.getD i default).bB/\(aF.getD i default).bB<i)/\(0<=(aF.getD i default).cQ/\(aF.getD i default).cQ<=2147483648)/\(-1<=(aF.getD i default).cY/\(aF.getD i default).cY<=1):=λi aA=>by
    have:=aCY N aA;rw[BF]at this;split at this;·cases this
    split at this;·cases this
    split at this;·cases this
    rename_i eU eE i2;rw[not_or]at i2;omega
   have eC:∀i:Nat,i<cG.length->(0<=cG.getD i 0/\cG.getD i 0<aF.length)/\∀j:Nat,j<i->cG.getD j 0≠cG.getD i 0:=λi aA=>by
    have:=aCY V aA;rw[GM]at this;split at this;·cases this
    split at this;·cases this
    rename_i eU eE;exact⟨by omega,λj aY bX=>eE ⟨j,aY,bX⟩⟩
   refine⟨by omega,by omega,λi aA=>(hs i aA).1,λi aA=>(hs i aA).2.1,λi aA=>(hs i aA).2.2,λi aA=>(eC i aA).1,λi j aY aA=>(eC i aA).2 j aY,?_⟩;by_cases M:bT<1\/100000<bT;·rw[if_pos M]at h;omega
   ·omega
def xC(aF:List bL)(cG:List Int)(bT:Int)(s:Int):List Int:=if i6 aF cG bT≠0\/s<0\/(aF.length:Int)<=s then[]else E5 aF s
def b85(f:hI)(s:Int)(L:aP)(R:aJ):
 aI prog 90 [f.val,.int .i64 s].toArray L R (λv E G=>∃l2 sY,v=.func (.func 171) #[] #[.pointer (some ⟨l2,0,none⟩),.pointer (some ⟨sY,0,none⟩)]/\(⟨l2,[.int .i64 s],3⟩::⟨sY,f.cells,42⟩::L)=E/\R=G):=by refine bW 6 call90 func90 ?_;apply(c8);intro cS;refine aAp (v:=Value.int _ _) rfl rfl rfl ?_;intro dG;refine aG (GN rfl) ?_;apply(lP);refine aG (a4R rfl) ?_;refine aG (GN rfl) ?_;apply(F5);refine bN (⟨dG,[.int .i64 s],3⟩::⟨cS,f.cells,42⟩::L) R (pG rfl (Dp rfl)) ?_;exact⟨dG,cS,rfl,rfl,rfl⟩
def b2f(f:hI)(s:Int)(l2 sY:Nat)(L:aP)(R:aJ)(jA:aH (uT f.aT) R)(c4:Eb f.aT.l)(hn:f.aT.l.length<=1000)(hc:s<f.aT.l.length):
 aI prog 89 [.func (.func 171) #[] #[.pointer (some ⟨l2,0,none⟩),.pointer (some ⟨sY,0,none⟩)]].toArray (⟨l2,[.int .i64 s],3⟩::⟨sY,f.cells,42⟩::L) R
  (λv E G=>∃(q:J Int) (qQ:Int),v=q.val/\q.ok 1 aL/\q.l=E5 f.aT.l s/\q.L 3 aL++(⟨l2,[.int .i64 qQ],3⟩::⟨sY,f.cells,42⟩::L)=E/\R=G):=by refine bW 5 call89 func89 ?_;apply cO∘vG;refine aG iR ?_;refine cK (b5O f s l2 sY L R jA c4 hn hc) ?_;rintro v E G ⟨q,qQ,rfl,hk,hq,rfl,rfl⟩;apply(S4);refine bN (q.L 3 aL++(⟨l2,[.int .i64 qQ],3⟩::⟨sY,f.cells,42⟩::L)) R vD ?_;exact⟨q,qQ,rfl,hk,hq,rfl,rfl⟩
def a93(f:hI)(s:Int)(L:aP)(R:aJ)(hf:k9 f R):
 aI prog 26 [f.val,.int .i64 s].toArray L R (λv E G=>∃q:J Int,v=q.val/\q.ok 1 aL/\q.l=xC f.aT.l f.aU.l f.cA s/\q.L 3 aL++L=E/\R=G):=by
 refine bW 23 call26 func26 ?_;apply(c8);intro cS;apply z5∘aBW;refine cC rfl (Fq f _ _ hf) ?_;apply(rO);apply cB (aC:=[_,_]) (j:=3) (a7:=8) rfl rfl aE rfl aW rfl;·intro eN;replace eN:=a8 eN;exact(b1) GD
 intro iG;apply(c9);apply cB (aC:=[_,_,_,_,_]) (j:=7) (a7:=12) rfl rfl aE rfl aW rfl;·intro hX;replace hX:=a8 hX;exact(a0i) hL
 intro RP;apply(b3);apply(W)<;>intro aO;·exact b0n
 have hok:=zD (aF:=f.aT.l) (cG:=f.aU.l) (bT:=f.cA) D;have HM:=hok.wN;apply eR∘aBW∘b1;refine cK (b85 f s _ _) ?_;rintro v E G ⟨l2,sY,rfl,rfl,rfl⟩;refine cK (b2f f s l2 sY _ _ hf.aF hok.up D D) ?_;rintro v E G ⟨q,qQ,rfl,hk,hq,rfl,rfl⟩;apply(S4);refine bN (q.L 3 aL++L) R vD ?_;exact⟨q,rfl,hk,by rw[xC,if_neg D];exact hq,rfl,rfl⟩
def aC3(f:hI)(s:Int)(L:aP)(R:aJ)(hf:k9 f R):
 aI prog 272 [f.val,.int .i64 s].toArray L R (λv E G=>∃q:J Int,v=q.val/\q.ok 1 aL/\q.l=xC f.aT.l f.aU.l f.cA s/\q.L 3 aL++L=E/\R=G):=by
 have jA:=hf.aF;refine J2 call272 jA λMS=>?_;refine bW 33 call272 func272 ?_;apply(c8);intro cS;apply z5∘aBW;refine cC rfl (Ll f _ _ hf) ?_;apply(rO);apply cB (aC:=[_,_]) (j:=3) (a7:=9) rfl rfl aE rfl aW rfl;·intro eN;replace eN:=a8 eN;exact(b1) GD
 intro iG;apply(c9);apply cB (aC:=[_,_,_,_,_]) (j:=7) (a7:=13) rfl rfl aE rfl aW rfl;·intro hX;replace hX:=a8 hX;exact(a0i) hL
 intro RP;apply(b3);apply(W)<;>intro aO;·exact b0n
 have hok:=zD (aF:=f.aT.l) (cG:=f.aU.l) (bT:=f.cA) D;have HM:=hok.wN;have EE:=hok.up;apply eR∘jS;refine eI (aZ (a6 (e3 ?_)));refine c7 [(1,.int _ _),(2,.pointer _),(5,.slice _ _ _)] bP λeZ=>?_;refine mC ([1,5]++b4 20 12) ((⟨λg=>[(1,.int .i64 g.1.1),(5,g.1.2.val)],λg=>g.1.2.L 3 aL++(⟨cS,f.cells,42⟩::L),λ_=>R,λg=>(g.1.1+1).toNat⟩:dV {g:Int×J Int//(g.1<f.aT.l.length/\E5 f.aT.l s=g.2.l++E5 f.aT.l g.1)/\g.2.ok 1 aL})) (⟨(s,J.nil),⟨by dsimp only;omega,rfl⟩,J.g6⟩) bP DP fF ?_;rintro⟨⟨Ls,q⟩,⟨aSL,hq⟩,gG⟩ bZ;try dsimp only
 dsimp only at aSL hq gG;apply(ZY);apply(W)<;>intro bF;·
  have hg:=bJ f.aT.l Ls.toNat default;have ha:=EE Ls.toNat D;have gB:q.l.length<=33:=by have:=aB3 EE _ s D (g4 _);rw[hq,iD]at this;omega
  refine dK (aZ (a6 (e3 (cR ?_))));apply(WT);rintro v E G ⟨bAf,rfl,rfl,Ml⟩;replace Ml:=Ml.symm;subst Ml;refine gO (j2 (f:=aL) (a:=Ls) O rfl rfl rfl rfl (gG) c0 j8 rfl kH) rfl ?_;rintro v E G ⟨aG7,rfl,aFE,rfl,rfl⟩;apply jS∘Vx∘gE;refine aG (by first|exact j9 O rfl rfl rfl rfl jC (i:=Ls.toNat) cW D|exact i9 O rfl rfl rfl rfl (i:=Ls.toNat) cW D) ?_;apply sW∘WD;exact dU ⟨((f.aT.l.getD Ls.toNat default).bB,(⟨aG7,q.l++[Ls]⟩:J Int)),⟨by dsimp only;omega,by dsimp only;rw[hq,Sf EE D aSL,mQ];rfl⟩,aFE⟩
 apply(TG);refine bN (q.L 3 aL++L) R vD ?_;exact⟨q,rfl,gG,by rw[xC,if_neg D,hq,Sq D,EX],rfl,rfl⟩
end
end Go.Proofs.YtchfclmokpbldaaGreat
