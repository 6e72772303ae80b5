/-
  Merged texts. By an AI agent.
-/
import Derived.Test.YtdiajbdaadlfhaaGreatDoorFits
import Derived.Test.YtdiajbdaadlfhaaGreatDoorDraws
import Derived.Test.YtdiajbdaadlfhaaGreatDoorNets
set_option linter.all false
set_option maxHeartbeats 4000000
set_option maxRecDepth 20000
variable{A B:Prop}
namespace Go.Proofs.YtdiajbdaadlfhaaGreatDoor
open Go.Aw Go Go.Proofs.Tryz
def zF(m:eC)(v:Nat):Nat->List Int
 |0=>[]
 |k+1=>if(m.Z.l.getD k default).dZ=true then zF m v k
  else if(m.Z.l.getD k default).bK=(v:Int)then zF m v k++[(m.Z.l.getD k default).to]
  else if(m.Z.l.getD k default).to=(v:Int)then zF m v k++[(m.Z.l.getD k default).bK]else zF m v k
def Zu(m:eC)(v:Nat): ∀k,(zF m v k).length<=k
 |0=>by simp[zF]
 |k+1=>by
  have:=Zu m v k
  rw[zF]
  split
  ·omega
  ·split
   ·simp only[hL,rE];omega
   ·split
    ·simp only[hL,rE];omega
    ·omega
def aEJ{m:eC}(a1:UI m){v:Nat}: ∀k,k<=m.Z.l.length->∀e∈zF m v k,∃w:Nat,e=(w:Int)/\H1 m v w
 |0,_,e,h=>by cases h
 |k+1,Y,e,h=>by
  have cA:=aEJ a1 (v:=v) k D e
  have bE:=bR (l:=m.Z.l) (k:=k) default D
  have mI:=a1.aS k _ bE
  have G:=mI.bK
  have U:=mI.to
  have vR:=hS bE
  rw[zF]at h
  split at h
  ·exact cA h
  ·rename_i bU
   have bU:(m.Z.l.getD k default).dZ=false:=by simpa using bU
   split at h
   ·rename_i aH
    rcases List.mem_append.1 h with h|h
    ·exact cA h
    ·rw[List.mem_singleton.1 h]
     exact⟨(m.Z.l.getD k default).to.toNat,by omega,_,vR,bU,.inl ⟨aH,by omega⟩⟩
   ·split at h
    ·rename_i aH gJ
     rcases List.mem_append.1 h with h|h
     ·exact cA h
     ·rw[List.mem_singleton.1 h]
      exact⟨(m.Z.l.getD k default).bK.toNat,by omega,_,vR,bU,.inr ⟨by omega,gJ⟩⟩
    ·exact cA h
def aDG(m:eC)(v:Nat){k:Nat}: ∀{n:Nat},k<=n->∀e∈zF m v k,e∈zF m v n
 |0,h,e,V=>by rw[show k=0 by omega]at V;exact V
 |n+1,h,e,V=>by
  rcases gX n k with cD|cD
  ·rw[show k=n+1 by omega]at V;exact V
  ·have:=aDG m v (n:=n) cD e V
   rw[zF]
   split
   ·exact this
   ·split
    ·exact oI _ this
    ·split
     ·exact oI _ this
     ·exact this
def aYS{m:eC}(a1:UI m){v w:Nat}(h:H1 m v w):(w:Int)∈zF m v m.Z.l.length:=by
 obtain⟨r,O,bU,G⟩:=h;obtain⟨i,aB⟩:=List.mem_iff_getElem?.1 O;have En:=(List.getElem?_eq_some_iff.1 aB).1;have mI:=a1.aS i r aB;have jC:=mI.ne;have a9F:m.Z.l.getD i default=r:=getD_some aB;refine aDG m v (k:=i+1) En _ ?_;rw[zF,a9F,if_neg (by rw[bU];decide)];rcases G with G|G;·rw[if_pos G.1,G.2];simp
 ·rw[if_neg D,if_pos G.2,G.1];simp
structure Q4(m:eC)(k:Nat)(aD:List (J Int)):Prop where
 len:aD.length=m.places.l.length
 ok:∀(v:Nat) (p:J Int),aD[v]?=some p->p.ok 1 aR/\p.l=zF m v k
def Q4.zero(m:eC):Q4 m 0 (List.replicate m.places.l.length J.nil):=by exact aBI
def Q4.F5{m:eC}{k:Nat}{aD:List (J Int)}(h:Q4 m k aD)(bU:(m.Z.l.getD k default).dZ=true):Q4 m (k+1) aD:=
 ⟨h.len,λv p aG=>⟨(h.ok v p aG).1,by rw[zF,if_pos bU];exact(h.ok v p aG).2⟩⟩
def Q4.next{m:eC}{k:Nat}{aD:List (J Int)}(h:Q4 m k aD)(bU: ¬(m.Z.l.getD k default).dZ=true){i j:Nat}(aB:(i:Int)=(m.Z.l.getD k default).bK)(a6:(j:Int)=(m.Z.l.getD k default).to)(jC:i≠j)
 {p q:J Int} (aG:aD[i]?=some p) (bZ:aD[j]?=some q) {o o':gT} (bM:(⟨o,p.l++[(m.Z.l.getD k default).to]⟩:J Int).ok 1 aR) (xU:(⟨o',q.l++[(m.Z.l.getD k default).bK]⟩:J Int).ok 1 aR):
 Q4 m (k+1) ((aD.set i ⟨o,p.l++[(m.Z.l.getD k default).to]⟩).set j ⟨o',q.l++[(m.Z.l.getD k default).bK]⟩):=by
 refine⟨by simp[h.len],λv x K=>?_⟩;rw[I9]at K;split at K;·
  rename_i e;subst e;split at K;·cases K;refine⟨xU,?_⟩;rw[zF,if_neg bU,if_neg D,if_pos D,(h.ok _ q bZ).2]
  ·cases K
 ·
  rename_i e;rw[I9]at K;split at K;·
   rename_i eH;subst eH;split at K;·cases K;refine⟨bM,?_⟩;rw[zF,if_neg bU,if_pos D,(h.ok _ p aG).2]
   ·cases K
  ·rename_i eH;refine⟨(h.ok v x K).1,?_⟩;rw[zF,if_neg bU,if_neg D,if_neg D];exact(h.ok v x K).2
abbrev h9(f:List Int)(v:Nat):Int:=f.getD v (-1)
def H5{f:List Int}{k i:Nat}{x:Int}(Y:k<f.length):h9 (f.set k x) i=if i=k then x else h9 f i:=by unfold h9;exact aBJ
def aVj{f:List Int}{v:Nat}(h:0<=h9 f v):v<f.length:=by
 rcases gX v f.length with cD|cD;·exact cD
 ·unfold h9 at h;rw[lN,u1 cD]at h;simp at h
structure JP(m:eC)(f:List Int)(n:Int):Prop where
 len:f.length=m.places.l.length
 KW:∀v,-1<=h9 f v/\h9 f v<n
 Fp:0<=n
 ZG:∀u v,0<=h9 f u->H1 m u v->h9 f v=h9 f u
 aKD:∀u v,0<=h9 f u->h9 f u=h9 f v->uC m u v
structure EG(m:eC)(qJ f:List Int)(n:Int)(i:Nat)(zZ:List Int)(ZH:Nat->Prop):Prop where
 len:f.length=m.places.l.length
 lW:∀v,0<=h9 qJ v->h9 f v=h9 qJ v
 new:∀v,h9 qJ v<0->h9 f v= -1\/(h9 f v=n/\uC m i v)
 start:h9 f i=n/\h9 qJ i<0
 a3y:∀e∈zZ,∃v:Nat,e=(v:Int)/\h9 qJ v<0/\h9 f v=n
 ZG:∀u,h9 qJ u<0->h9 f u=n->(u:Int)∈zZ\/ZH u\/∀v,H1 m u v->h9 f v=n
def JP.start{m:eC}{f:List Int}{n:Int}(h:JP m f n){i:Nat}(aB:i<m.places.l.length)(bA:h9 f i<0):EG m f (f.set i n) n i [(i:Int)] (λ_=>False):=by
 have aZ:=h.len;refine⟨by simp[aZ],λv cS=>?_,λv cS=>?_,⟨by rw[H5 D,if_pos rfl],bA⟩,λe V=>?_,λu cZ S7=>?_⟩;·rw[H5 D,if_neg (λe=>by rw[e]at cS;omega)]
 ·
  rw[H5 D];split;·rename_i e;rw[e];exact .inr ⟨rfl,.refl⟩
  ·left;have:=h.KW v;omega
 ·rw[List.mem_singleton.1 V];exact⟨i,rfl,bA,by rw[H5 D,if_pos rfl]⟩
 ·
  rw[H5 D]at S7;split at S7;·rename_i e;rw[e];exact .inl eY
  ·have:=h.KW u;omega
def EG.aNn{m:eC}{qJ f:List Int}{n:Int}{i:Nat}{zZ:List Int}{ZH:Nat->Prop}(h:EG m qJ f n i zZ ZH)(aZ:JP m qJ n){p q:Nat}(aG:h9 qJ p<0)(aF:H1 m p q):h9 qJ q<0:=by
 rcases HT (h9 qJ q) 0 with cD|cD;·exact cD
 ·have:=aZ.ZG q p cD aF.symm;omega
def EG.push{m:eC}{qJ f:List Int}{n:Int}{i:Nat}{zZ:List Int}{ZH:Nat->Prop}(h:EG m qJ f n i zZ ZH)(aZ:JP m qJ n){p q:Nat}(aG:h9 qJ p<0/\h9 f p=n)(aF:H1 m p q)(bZ:q<m.places.l.length)(aH:h9 f q<0):EG m qJ (f.set q n) n i (zZ++[(q:Int)]) ZH:=by
 have lL:=h.len;have WM:=h.aNn aZ aG.1 aF;have b13:uC m i p:=by
  rcases h.new p aG.1 with G|G;·have:=aZ.Fp;omega
  ·exact G.2
 have uT:=aZ.Fp;refine⟨by simp[lL],λv cS=>?_,λv cS=>?_,⟨?_,h.start.2⟩,λe V=>?_,λu cZ S7=>?_⟩;·rw[H5 D,if_neg (λe=>by rw[e]at cS;omega)];exact h.lW v cS
 ·
  rw[H5 D];split;·rename_i e;rw[e];exact .inr ⟨rfl,b13.tail aF⟩
  ·exact h.new v cS
 ·
  rw[H5 D];split;·rfl
  ·exact h.start.1
 ·
  rcases List.mem_append.1 V with G|G;·
   obtain⟨v,hO,a2,a3⟩:=h.a3y e G;refine⟨v,hO,a2,?_⟩;rw[H5 D];split;·rfl
   ·exact a3
  ·rw[List.mem_singleton.1 G];exact⟨q,rfl,WM,by rw[H5 D,if_pos rfl]⟩
 ·
  rw[H5 D]at S7;split at S7;·rename_i e;rw[e];exact .inl eY
  ·
   rcases h.ZG u cZ S7 with G|G|G;·exact .inl (oI _ G)
   ·exact .inr (.inl G)
   ·
    refine .inr (.inr λv cS=> ?_);rw[H5 D];split;·rfl
    ·exact G v cS
def EG.b6r{m:eC}{qJ f:List Int}{n:Int}{i:Nat}{zZ:List Int}{p:Nat}(h:EG m qJ f n i (zZ++[(p:Int)]) (λ_=>False)):EG m qJ f n i zZ (λu=>u=p):=by
 refine⟨h.len,h.lW,h.new,h.start,λe V=>h.a3y e (oI _ V),λu cZ S7=>?_⟩;rcases h.ZG u cZ S7 with G|G|G;·
  rcases List.mem_append.1 G with U|U;·exact .inl U
  ·have:=List.mem_singleton.1 U;exact .inr (.inl D)
 ·exact absurd G id
 ·exact .inr (.inr G)
def EG.b6L{m:eC}{qJ f:List Int}{n:Int}{i:Nat}{zZ:List Int}{p:Nat}(h:EG m qJ f n i zZ (λu=>u=p))(aG:∀v,H1 m p v->h9 f v=n):EG m qJ f n i zZ (λ_=>False):=by
 refine⟨h.len,h.lW,h.new,h.start,h.a3y,λu cZ S7=>?_⟩;rcases h.ZG u cZ S7 with G|G|G;·exact .inl G
 ·rw[G];exact .inr (.inr aG)
 ·exact .inr (.inr G)
def EG.done{m:eC}{qJ f:List Int}{n:Int}{i:Nat}(h:EG m qJ f n i [] (λ_=>False))(aZ:JP m qJ n):JP m f (n+1):=by
 have uT:=aZ.Fp;have Sf:∀v,(0<=h9 qJ v/\h9 f v=h9 qJ v)\/(h9 qJ v<0/\h9 f v= -1)\/(h9 qJ v<0/\h9 f v=n/\uC m i v):=λv=>by
  rcases HT (h9 qJ v) 0 with G|G;·
   rcases h.new v G with U|U;·exact .inr (.inl ⟨G,U⟩)
   ·exact .inr (.inr ⟨G,U⟩)
  ·exact .inl ⟨G,h.lW v G⟩
 refine⟨h.len,λv=>?_,by omega,λu v cZ aF=>?_,λu v cZ V=>?_⟩;·have:=aZ.KW v;rcases Sf v with G|G|G<;>omega
 ·
  rcases Sf u with G|G|G;·have U:=aZ.ZG u v G.1 aF;rw[h.lW v D,G.2,U]
  ·omega
  ·
   rcases h.ZG u G.1 G.2.1 with U|U|U;·cases U
   ·exact absurd U id
   ·rw[U v aF,G.2.1]
 ·
  have bAR:=aZ.KW u;have bAS:=aZ.KW v;rcases Sf u with G|G|G;·
   rcases Sf v with U|U|U;·exact aZ.aKD u v G.1 D
   ·omega
   ·omega
  ·omega
  ·
   rcases Sf v with U|U|U;·omega
   ·omega
   ·exact G.2.2.symm.trans U.2.2
def JP.M4{m:eC}:JP m (List.replicate m.places.l.length (-1)) 0:=by
 have e:∀v,h9 (List.replicate m.places.l.length (-1)) v= -1:=λv=>by unfold h9;rw[lN,K5];split<;>rfl
 refine⟨by simp,λv=>by rw[e];omega,by omega,λu v cZ=>by rw[e]at cZ;omega,λu v cZ=>by rw[e]at cZ;omega⟩
structure a5P(m:eC)(f:List Int)(n:Int):Prop where
 len:f.length=m.places.l.length
 KW:∀v,v<m.places.l.length->0<=h9 f v/\h9 f v<n
 n:0<=n/\n<=m.places.l.length
 qC:∀u v,u<m.places.l.length->v<m.places.l.length->(h9 f u=h9 f v↔uC m u v)
def JP.part{m:eC}{f:List Int}{n:Int}(h:JP m f n)(bX:∀v,v<m.places.l.length->0<=h9 f v)(bA:n<=m.places.l.length):a5P m f n:=by refine⟨h.len,λv cS=>⟨bX v cS,(h.KW v).2⟩,⟨h.Fp,bA⟩,λu v cZ cS=>⟨λV=>h.aKD u v (bX u cZ) V,λbU=>?_⟩⟩;have:=uC.dZ (P:=λx=>0<=h9 f x/\h9 f x=h9 f u) (λx y K aF=>by have:=h.ZG x y K.1 aF;omega) bU ⟨bX u cZ,rfl⟩;exact this.2.symm
def YJ(f:List Int):Nat:=f.countP (λx=>decide (x<0))
def aEN{f:List Int}{q:Nat}{n:Int}(bZ:q<f.length)(aH:h9 f q<0)(bA:0<=n):YJ (f.set q n)+1=YJ f:=by
 unfold YJ;have bE:f[q]<0:=by have:=bR (l:=f) (k:=q) (-1) bZ;rw[w4 bZ]at this;rw[uA this];exact aH
 rw[List.countP_set bZ];have:0<List.countP (λx=>decide (x<0)) f:=List.countP_pos_iff.2 ⟨f[q],Wn bZ,by simpa using bE⟩;rw[if_pos (by simpa using bE),if_neg (by simpa using bA)];omega
section
attribute [local irreducible] cO dG dP aM cI dR fA e2 e5 fB eQ e9 J.L
def a7C(h:A->B:=by exact aA (iV M ((⟨.own zJ m.places.l.length [],f⟩:J Int)) _ rfl rfl ((show _=Value.slice _ _ _ from rfl).trans (u7 iF)) rfl bS (i:=i) c7 iY) rfl):=h
def aEu(h:A->B:=by exact aA (iV M ((⟨.own zJ m.places.l.length [],iQ⟩:J Int)) _ rfl rfl ((show _=Value.slice _ _ _ from rfl).trans (u7 iF)) rfl bS (i:=u) c7 iY) rfl):=h
def w8{P n code t L R R'}{Q:fR}(h:R=R')(k:cO P n code t L R' Q):cO P n code t L R Q:=h▸k
def Pn{f:List Int}{v:Nat}(h:v<f.length):f[v]?=some (h9 f v):=bR _ h
def aY7{g cap:Nat}{spare:List Value}{l:List Int}{x:Int}(h:(⟨.own g cap spare,l++[x]⟩:J Int).ok 1 aR):(⟨.own g cap (aR x++spare),l⟩:J Int).ok 1 aR:=by obtain⟨G,U,aO,bW⟩:=h;dsimp only[]at G U aO bW;simp only[hL,rE]at U;refine⟨by rw[C0 (aI:=1) (λ_=>rfl)],by dsimp only;omega,aO,?_⟩;rw[<-bW];simp[Wk,kF]
def aXE{g cap:Nat}{spare:List Value}{T:TypeId}{l:List Int}{x:Int}:(⟨.own g cap spare,l++[x]⟩:J Int).L T aR=(⟨.own g cap (aR x++spare),l⟩:J Int).L T aR:=by simp[J.L,gT.L,Wk,kF]
def aSm(m:eC)(L:aW)(R:aP)(a1:oY m R)(bM:UI m):
 aM prog 77 [m.val].toArray L R (λw E R'=>∃(p:J Int) (n:Nat) (S:aP),w=.tuple #[p.val,.int .i64 n]/\p.ok 1 aR/\a5P m p.l n/\p.L 3 aR++L=E/\S++R=R'):=by
 have WD:=a1.Z;have wS:=a1.places;have n2:=bM.places;have HD:=bM.Z;refine cX 127 call77 func77 rfl rfl rfl ?_;apply(fC);intro fT;apply kS∘p5∘jM∘D1;rintro v E R' ⟨ME,rfl,rfl,a8T⟩;replace a8T:=a8T.symm;subst a8T;apply r2∘pE;refine e3 [(1,.pointer _),(4,.slice _ _ _),(20,.slice _ _ _),(21,.int _ _),(22,.int _ _)] cB λg9=>?_;refine oM ([6]++dJ 22 34) ((⟨λq=>[(22,.int .i64 ((q.1.1:Nat):Int))],λq=>⟨ME,q.1.2.flatMap DC,33⟩::⟨fT,m.cells,28⟩::(q.1.2.flatMap (J.L 3 aR)++L),λ_=>R,λq=>m.Z.l.length-q.1.1⟩:e0 {q:Nat×List (J Int)//q.1<=m.Z.l.length/\Q4 m q.1 q.2})) (⟨(0,List.replicate m.places.l.length J.nil),by dsimp only;omega,Q4.zero m⟩) cB (by dsimp only;rw[a45,<-a62];exact oU _) eX ?_;rintro⟨⟨k,aD⟩,Y,mH⟩ c1;try dsimp only
 dsimp only at Y mH;apply(gU);refine aJ ?_ ?_<;>intro bI;·
  have O:=bR (l:=m.Z.l) (k:=k) default D;have mI:=bM.aS _ _ O;have Up:=mI.bK;have Lh:=mI.to;have b4B:=mI.ne;have Dn:=mH.len;have V9:(m.Z.l.getD k default).bK.toNat<aD.length:=by omega
  have j3:(m.Z.l.getD k default).to.toNat<aD.length:=by omega
  obtain⟨p,aG⟩:=lQ V9;obtain⟨q,bZ⟩:=lQ j3;have iN:=mH.ok _ _ aG;have g7:=mH.ok _ _ bZ;have dC:=Zu m (m.Z.l.getD k default).bK.toNat k;have eZ:=Zu m (m.Z.l.getD k default).to.toNat k;rw[<-iN.2]at dC;rw[<-g7.2]at eZ;have jC:(m.Z.l.getD k default).bK.toNat≠(m.Z.l.getD k default).to.toNat:=by omega
  apply jK∘A6∘Lx∘dO;intro jN;apply BP∘AJ;refine aJ ?_ ?_<;>intro cK;·refine cC ?_;refine jV M [29,30,31] [0,1,2,3,4,5,6,7,8,9,10] [11,12,13] ([bQ.mk jN _ _,bQ.mk ME _ _]) _ mixed aQ bC aQd ?_;refine p4 qX rfl rfl rfl rfl ?_;apply LV∘OL;refine fE aQE rfl rfl rfl rfl ?_;apply TM∘lS∘XC;rintro v E R' ⟨VL,rfl,rfl,Du⟩;replace Du:=Du.symm;subst Du;apply(DA);refine pP (jZ (f:=aR) (a:=(m.Z.l.getD k default).to) M rfl rfl rfl rfl (iN.1) cL j8 rfl kG) rfl rfl rfl ?_;rintro v E R' ⟨aNy,rfl,b3G,rfl,rfl⟩;apply(fI);refine b7 aQE rfl rfl rfl ?_;refine UA (v:=Value.slice _ _ _) rfl rfl rfl rfl qV Gy (by exact Ce (vY:=⟨aNy,p.l++[(m.Z.l.getD k default).to]⟩) bH aX bS aK) aK bC ?_;apply(A9);(have b4s:(aD.set (m.Z.l.getD k default).bK.toNat ⟨aNy,p.l++[(m.Z.l.getD k default).to]⟩)[(m.Z.l.getD k default).to.toNat]?=some q:=by rw[P7 jC];exact bZ);refine jV M [42,43,44] [0,1,2,3,4,5,6,7,8,9,10] [11,12,13] ([bQ.mk jN _ _,bQ.mk ME _ _]) _ mixed aQ bC aQd ?_;refine p4 qX rfl rfl rfl rfl ?_;apply LV∘OL;refine fE aQH rfl rfl rfl rfl ?_;apply TM∘lS∘XC;rintro v E R' ⟨b75,rfl,rfl,a82⟩;replace a82:=a82.symm;subst a82;apply(DA);refine pP (jZ (f:=aR) (a:=(m.Z.l.getD k default).bK) M rfl rfl rfl rfl (g7.1) cL j8 rfl kG) rfl rfl rfl ?_;rintro v E R' ⟨b59,rfl,b3I,rfl,rfl⟩;apply(fI);refine b7 aQH rfl rfl rfl ?_;refine UA (v:=Value.slice _ _ _) rfl rfl rfl rfl qV Gy (by exact Ce (vY:=⟨b59,q.l++[(m.Z.l.getD k default).bK]⟩) bH aX bS aK) aK bC ?_;apply KV∘m0;exact eG ⟨(k+1,_),by dsimp only;omega,mH.next LA D D jC aG bZ b3G b3I⟩
  apply(k9);exact eG ⟨(k+1,aD),by dsimp only;omega,mH.F5 LA⟩
 obtain rfl:k=m.Z.l.length:=by omega
 apply(ND);have Dn:=mH.len;refine aH1 (A:=[_,_]) (aI:=1) bH aX (λp aG=>?aBn) λeF DM=>?_;case aBn=>obtain⟨r,O⟩:=List.mem_iff_getElem?.1 aG;exact(mH.ok r p O).1
 apply(DX);refine Oy (A:=[]) (aI:=1) (len:=(aD.map J.W).length) (cap:=m.places.l.length) (rows:=(aD.map J.W).map a6r) (eE:=(aD.map J.W).map dW) eY EB D (λr O=>?pN) aX ?a8h (λx K=>?aBD) ?_;case pN=>obtain⟨y,_,rfl⟩:=List.mem_map.1 O;rfl
 case a8h=>rw[Qo,List.flatMap_map,yV (by rw[C0 (aI:=1) (λ_=>rfl)];simp)];rfl
 case aBD=>exact aPU
 apply(DX);obtain⟨UJ,a12⟩:∃UJ:bP (bP Int),UJ=⟨some ⟨ME,0,none⟩,m.places.l.length,aD.map J.W⟩:=⟨_,rfl⟩;have b8C:UJ.l.length=m.places.l.length:=by rw[a12];simp[Dn]
 have b1c:∀(v:Nat) (x:bP Int),UJ.l[v]?=some x->x.l=zF m v m.Z.l.length:=λv x K=>by rw[a12]at K;dsimp only at K;exact aP4
 have Z9:Value.slice (some ⟨ME,0,none⟩) m.places.l.length m.places.l.length=UJ.val:=by rw[a12,bP.val,pU,Dn]
 obtain⟨hE,nG⟩:∃hE,hE=pH UJ::(eF++R):=⟨_,rfl⟩;have b1b:aN (pH UJ) hE:=by rw[nG];exact aU (.head _)
 have aMm:aN (zW m.places) hE:=by rw[nG];exact wS.mono λr h=>aU (by simp[h])
 rw[Z9];refine w8 (show _=hE by rw[nG,a12]) ?_;apply e1∘jM∘D1;rintro v E R' ⟨zJ,rfl,rfl,a85⟩;replace a85:=a85.symm;subst a85;apply r2∘r3;refine e3 [(4,.slice _ _ _),(7,.slice _ _ _),(61,.int _ _),(62,.int _ _)] cB λs4=>?_;refine e7 (R5 (f:=aR) (x:=0) rfl _) ?_;refine m6 ([8]++dJ 62 7) ((⟨λq=>[(62,.int .i64 ((q.1.1:Nat):Int))],λq=>(⟨.own zJ m.places.l.length [],q.1.2⟩:J Int).L 3 aR++(⟨fT,m.cells,28⟩::L),λ_=>hE,λq=>m.places.l.length-q.1.1⟩:e0 {q:Nat×List Int//q.1<=m.places.l.length/\q.2.length=m.places.l.length/\∀j:Nat,j<q.1->q.2[j]?=some (-1)})) (⟨(0,List.replicate m.places.l.length 0),by dsimp only;omega,by simp,λj a6=>by omega⟩) ?_;rintro⟨⟨i,f⟩,vW,iF,qR⟩ c1;try dsimp only
 dsimp only at vW iF qR;have Ev:(⟨.own zJ m.places.l.length [],f⟩:J Int).ok 1 aR:=by have:=BT (f:=aR) (aI:=1) (b:=zJ) (n:=m.places.l.length) (x:=0) bH BE;exact J.tU bH this (by simp;exact iF)
 apply(gU);refine aJ ?_ ?_<;>intro dE;·
  have El:=Pn (f:=f) (v:=i) D;apply nC∘eA;refine eS (bY (dM ?_));apply k2∘a7C;refine mO (mV M ((⟨.own zJ m.places.l.length [],f⟩:J Int)) (-1) rfl rfl rfl rfl cL bS bH bS aX aK aK) ?_;rintro v E R' ⟨rfl,rfl⟩;apply(tF);exact lP ⟨(i+1,f.set i (-1)),by dsimp only;omega,by simp;exact iF,λj a6=>by
  rw[I9];split;·rw[if_pos D]
  ·exact qR j (by dsimp only at a6;omega)⟩ hM cB bC eX kM
 obtain rfl:i=m.places.l.length:=by omega
 have AZ:f=List.replicate m.places.l.length (-1):=by
  refine Au λj=>?_;rcases gX j m.places.l.length with h|h;·rw[qR j h,K5,if_pos h]
  ·rw[u1 D,u1 (by simp;exact h)]
 have aLd:JP m f ((0:Nat):Int):=by rw[AZ];exact JP.M4
 apply oS∘kB∘r3;refine e3 [(4,.slice _ _ _),(7,.slice _ _ _),(9,.int _ _),(70,.int _ _),(71,.int _ _)] cB λGg=>?_;refine m6 ([9,10,11,12,14]++dJ 71 54) ((⟨λq=>[(71,.int .i64 ((q.1.1:Nat):Int)),(9,.int .i64 ((q.1.2.1:Nat):Int))],λq=>(⟨.own zJ m.places.l.length [],q.1.2.2⟩:J Int).L 3 aR++(⟨fT,m.cells,28⟩::L),λ_=>hE,λq=>m.places.l.length-q.1.1⟩:e0 {q:Nat×Nat×List Int//q.1<=m.places.l.length/\JP m q.2.2 (q.2.1:Int)/\q.2.1<=q.1/\∀j:Nat,j<q.1->0<=h9 q.2.2 j})) (⟨(0,0,f),by dsimp only;omega,aLd,by dsimp only;omega,λj a6=>by dsimp only at a6;omega⟩) ?_;rintro⟨⟨i,n,f⟩,vW,ZM,qR,Vm⟩ c1;try dsimp only
 dsimp only at vW ZM qR Vm;have iF:=ZM.len;have Ev:(⟨.own zJ m.places.l.length [],f⟩:J Int).ok 1 aR:=by have:=BT (f:=aR) (aI:=1) (b:=zJ) (n:=m.places.l.length) (x:=0) bH BE;exact J.tU bH this (by simp;exact iF)
 apply(gU);refine aJ ?_ ?_<;>intro gZ;·
  have El:=Pn (f:=f) (v:=i) D;apply nC∘kB∘k2∘a7C;refine aA (rX M ((⟨.own zJ m.places.l.length [],f⟩:J Int)) rfl rfl rfl cL bS bH bS aK) rfl ?_;apply(IF);refine aJ ?_ ?_<;>intro fW;·
   refine oZ (oX (oW (bY (dM ?_))));apply(m0);exact lP ⟨(i+1,n,f),by dsimp only;omega,ZM,by dsimp only;omega,λj a6=>by
   rcases gX j i with h|h;·exact Vm j h
   ·(obtain rfl:j=i:=by dsimp only at a6;omega);omega⟩ hM cB bC eX kM
  have uT:h9 f i<0:=by omega
  have b0Y:=ZM.start (i:=i) D uT;have b9x:=aEN (f:=f) (q:=i) (n:=(n:Int)) D uT D;have S0:YJ f<=f.length:=List.countP_le_length;apply gI∘k2∘cJ∘a7C;refine mO (mV M ((⟨.own zJ m.places.l.length [],f⟩:J Int)) ((n:Int)) rfl rfl rfl rfl cL bS bH bS aX aK aK) ?_;rintro v E R' ⟨rfl,rfl⟩;apply U2∘w1;rintro v E R' ⟨Sd,rfl,rfl,PH⟩;replace PH:=PH.symm;subst PH;apply kS∘Ga;refine ON ([9,10,11,12,14]++dJ 71 54) QD [(9,.int _ _),(11,.slice _ _ _),(71,.int _ _)] cB λaBF=>?_;have b1v:(⟨.own Sd 1 [],[(i:Int)]⟩:J Int).ok 1 aR:=⟨rfl,gS _,by simp only[maxLen];omega,rfl⟩;refine e7 (E:=(⟨.own Sd 1 [],[(i:Int)]⟩:J Int).L 3 aR++((⟨.own zJ m.places.l.length [],f.set i (n:Int)⟩:J Int).L 3 aR++(⟨fT,m.cells,28⟩::L))) (by simp only[J.L,gT.L,vZ,a3P,aR,rV,mK,nJ]) ?_;refine m6 ([11,12,14]++dJ 85 37) ((⟨λq=>[(11,q.1.2.val)],λq=>q.1.2.L 3 aR++((⟨.own zJ m.places.l.length [],q.1.1⟩:J Int).L 3 aR++(⟨fT,m.cells,28⟩::L)),λ_=>hE,λq=>2*YJ q.1.1+q.1.2.l.length⟩:e0 {q:List Int×J Int//q.2.ok 1 aR/\EG m f q.1 (n:Int) i q.2.l (λ_=>False)/\2*YJ q.1+q.2.l.length<=2*m.places.l.length})) (⟨(f.set i (n:Int),⟨.own Sd 1 [],[(i:Int)]⟩),b1v,b0Y,by dsimp only;simp only[rE];omega⟩) ?_;rintro⟨⟨h5,⟨W5,vU⟩⟩,dF,h0,vO⟩ c1;try dsimp only
  dsimp only at dF h0 vO;apply x0∘j0∘y8;refine aJ ?_ ?_<;>intro lJ;·
   (have WJ:0<vU.length:=by have:=lJ;(try simp only[J.val]at this);omega);obtain⟨g,cap,spare,cM⟩:=J.a3p dF (i:=0) WJ;dsimp only at cM;subst cM;obtain⟨uV,x,b3a⟩:∃uV x,vU=uV++[x]:=⟨vU.dropLast,vU.getLast (by intro h;rw[h]at WJ;simp at WJ),(List.dropLast_concat_getLast _).symm⟩;subst b3a;obtain⟨v,b5g,Ln,zT⟩:=h0.a3y x eY;subst b5g;(have Z1:(uV++[(v:Int)]).length=uV.length+1:=by simp);(have b9d:(uV++[(v:Int)])[uV.length]?=some (v:Int):=by simp);(have aLs:(⟨.own g cap spare,uV++[(v:Int)]⟩:J Int).val=Value.slice (some ⟨g,0,none⟩) (uV.length+1) cap:=by simp[J.val,gT.r5,gT.cap]);rw[aLs];have o5:=aY7 dF;have G9:=dF.2.1;dsimp only at G9;(have vS:v<m.places.l.length:=by have G:=h0.len;have U:=aVj (f:=h5) (v:=v) D;omega);obtain⟨y,bB⟩:=lQ (l:=UJ.l) (k:=v) D;have aAW:=b1c v y bB;have bAl:=aN.W b1b bB;(have a24:y.l.length<=m.Z.l.length:=by rw[aAW];exact Zu m v _);refine gG (bY (iH (cC (dM ?_))));apply gQ∘j0∘oD;refine aA (iV M ((⟨.own g cap spare,uV++[(v:Int)]⟩:J Int)) _ rfl rfl ((show _=Value.slice _ _ _ from rfl).trans aLs.symm) rfl bS (i:=uV.length) c7 iY) rfl ?_;refine aA (rX M ((⟨.own g cap spare,uV++[(v:Int)]⟩:J Int)) rfl rfl rfl cL bS bH bS aK) rfl ?_;apply p5∘gQ∘j0∘oD;refine aA (a6u M rfl rfl rfl rfl (n:=uV.length) c7 D) rfl ?_;apply(OK);refine e7 (by rw[aXE]) ?_;apply(y6);refine aA (by first|exact j9 M rfl rfl rfl rfl i6 (i:=v) c7 D|exact jF M rfl rfl rfl rfl (i:=v) c7 D) rfl ?_;apply kY∘R0;refine ON ([11,12,14]++dJ 85 37) QD [(11,.slice _ _ _),(102,.slice _ _ _),(103,.int _ _),(104,.int _ _)] cB λb6N=>?_;refine m6 ([11,14]++dJ 104 18) ((⟨λq=>[(104,.int .i64 ((q.1.1:Nat):Int)),(11,q.1.2.2.val)],λq=>q.1.2.2.L 3 aR++((⟨.own zJ m.places.l.length [],q.1.2.1⟩:J Int).L 3 aR++(⟨fT,m.cells,28⟩::L)),λ_=>hE,λq=>y.l.length-q.1.1⟩:e0 {q:Nat×List Int×J Int//q.1<=y.l.length/\q.2.2.ok 1 aR/\EG m f q.2.1 (n:Int) i q.2.2.l (λu=>u=v)/\2*YJ q.2.1+q.2.2.l.length<=2*YJ h5+uV.length/\h9 q.2.1 v=(n:Int)/\∀(j:Nat) (e:Int),j<q.1->y.l[j]?=some e->h9 q.2.1 e.toNat=(n:Int)})) (⟨(0,h5,⟨.own g cap (aR (v:Int)++spare),uV⟩),by dsimp only;omega,o5,h0.b6r,gS _,zT,λj e a6=>by dsimp only at a6;omega⟩) ?_;rintro⟨⟨k,iQ,⟨Lp,Vd⟩⟩,pN,fJ,jH,x2,Ml,F6⟩ c1;(try dsimp only);dsimp only at pN fJ jH x2 F6 Ml;have iF:=jH.len;(have b9j:(⟨.own zJ m.places.l.length [],iQ⟩:J Int).ok 1 aR:=by have:=BT (f:=aR) (aI:=1) (b:=zJ) (n:=m.places.l.length) (x:=0) bH BE;exact J.tU bH this (by simp;exact iF));apply(gU);refine aJ ?_ ?_<;>intro kK;·
    have a23:=bR (l:=y.l) (k:=k) 0 D;obtain⟨e,V⟩:∃e,e=y.l.getD k 0:=⟨_,rfl⟩;rw[<-V]at a23;obtain⟨u,b41,cW⟩:=aEJ bM m.Z.l.length (gS _) e (by rw[<-aAW];exact hS a23);subst b41;have HJ:=(cW.lt bM).2;have FQ:=Pn (f:=iQ) (v:=u) D;apply(jK);refine aA rF rfl ?_;apply U3∘k2∘aEu;refine aA (rX M ((⟨.own zJ m.places.l.length [],iQ⟩:J Int)) rfl rfl rfl cL bS bH bS aK) rfl ?_;apply(nD);refine aJ ?_ ?_<;>intro qM;·
     apply eV∘k2∘cJ∘aEu;refine mO (mV M ((⟨.own zJ m.places.l.length [],iQ⟩:J Int)) ((n:Int)) rfl rfl rfl rfl cL bS bH bS aX aK aK) ?_;rintro v E R' ⟨rfl,rfl⟩;refine eS (bY (dM ?_));apply k2∘w1;rintro v E R' ⟨b7T,rfl,rfl,a8J⟩;replace a8J:=a8J.symm;subst a8J;refine g2 (jZ (f:=aR) (a:=(u:Int)) M rfl rfl rfl rfl (fJ) cL j8 rfl kG) rfl ?_;rintro v E R' ⟨b52,rfl,b3t,rfl,rfl⟩;apply(LO);(have a9p:h9 iQ u<0:=by simpa using qM);have Ua:=aEN (f:=iQ) (q:=u) (n:=(n:Int)) D a9p D;exact lP ⟨(k+1,iQ.set u (n:Int),⟨b52,Vd++[(u:Int)]⟩),by dsimp only;omega,b3t,jH.push ZM ⟨Ln,Ml⟩ cW HJ a9p,by dsimp only;rw[hL,rE];omega,by dsimp only;rw[H5 D];split;rfl;exact Ml,λj e a6 Er=>by
      dsimp only at a6|-;rw[H5 D];split;·rfl
      ·
       rename_i jC;rcases gX j k with h|h;·exact F6 j e h Er
       ·(obtain rfl:j=k:=by omega);rw[a23]at Er;cases Er;exact absurd D jC⟩ hM cB bC eX kM
    apply(k9);(have a9p:¬h9 iQ u<0:=by simpa using qM);exact lP ⟨(k+1,iQ,⟨Lp,Vd⟩),by dsimp only;omega,fJ,jH,x2,Ml,λj e a6 Er=>by
     dsimp only at a6|-;rcases gX j k with h|h;·exact F6 j e h Er
     ·
      (obtain rfl:j=k:=by omega);rw[a23]at Er;cases Er;rw[tZ];rcases jH.new u (jH.aNn ZM Ln cW)with G|G;·omega
      ·exact G.1⟩ hM cB bC eX kM
   (obtain rfl:k=y.l.length:=by omega);have FI:=jH.b6L (λu aF=>by have G:=aYS bM aF;rw[<-aAW]at G;obtain⟨j,a6⟩:=List.mem_iff_getElem?.1 G;exact F6 j u (List.getElem?_eq_some_iff.1 a6).1 a6);refine oZ (oX (AF (oW (hG ?_))));exact eG ⟨(iQ,⟨Lp,Vd⟩),fJ,FI,by dsimp only;omega⟩
  have WA:vU=[]:=List.length_eq_zero_iff.1 (by have:=lJ;(try simp only[J.val]at this);omega);subst WA;have aK8:=h0.done ZM;refine oZ (oX (AF (oW (bY (dM ?_)))));apply Y4∘eA∘tF;exact lP ⟨(i+1,n+1,h5),by dsimp only;omega,(show((n+1:Nat):Int)=(n:Int)+1 from by omega)▸aK8,by dsimp only;omega,λj a6=>by
  dsimp only at a6|-;rcases gX j i with h|h;·have:=Vm j h;rw[h0.lW j this];exact this
  ·(obtain rfl:j=i:=by omega);rw[h0.start.1];omega⟩ hM cB bC eX kM
 obtain rfl:i=m.places.l.length:=by omega
 apply oS∘k2∘kS∘sO;refine cF ((⟨.own zJ m.places.l.length [],f⟩:J Int).L 3 aR++L) hE LB ?_;exact⟨(⟨.own zJ m.places.l.length [],f⟩:J Int),n,pH UJ::eF,congrArg (λw=>Value.tuple #[w,.int .i64 (n:Int)]) (u7 iF),Ev,ZM.part (λv cS=>Vm v cS) D,rfl,nG.symm⟩
end
end Go.Proofs.YtdiajbdaadlfhaaGreatDoor
