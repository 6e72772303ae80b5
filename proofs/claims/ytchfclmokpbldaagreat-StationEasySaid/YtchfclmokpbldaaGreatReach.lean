/-
  Merged texts. By an AI agent.
-/
import Derived.Test.YtchfclmokpbldaaGreatFits
import Derived.Test.YtchfclmokpbldaaGreatDraws
import Derived.Test.YtchfclmokpbldaaGreatNets
set_option linter.all false
set_option maxHeartbeats 4000000
set_option maxRecDepth 20000
variable{A B:Prop}
namespace Go.Proofs.YtchfclmokpbldaaGreat
open Go.Aw Go Go.Proofs.Tryz
def zW(m:h4)(v:Nat):Nat->List Int
 |0=>[]
 |k+1=>if(m.aJ.l.getD k default).eJ=true then zW m v k
  else if(m.aJ.l.getD k default).cR=(v:Int)then zW m v k++[(m.aJ.l.getD k default).to]
  else if(m.aJ.l.getD k default).to=(v:Int)then zW m v k++[(m.aJ.l.getD k default).cR]else zW m v k
def a0l(m:h4)(v:Nat): ∀k,(zW m v k).length<=k
 |0=>by simp[zW]
 |k+1=>by
  have:=a0l m v k
  rw[zW]
  split
  ·omega
  ·split
   ·simp only[l9,OW];omega
   ·split
    ·simp only[l9,OW];omega
    ·omega
def aHu{m:h4}(a3:MV m){v:Nat}: ∀k,k<=m.aJ.l.length->∀e∈zW m v k,∃w:Nat,e=(w:Int)/\FK m v w
 |0,_,e,h=>by cases h
 |k+1,aG,e,h=>by
  have c6:=aHu a3 (v:=v) k D e
  have b7:=bJ (l:=m.aJ.l) (k:=k) default D
  have mJ:=a3.cV k _ b7
  have O:=mJ.cR
  have X:=mJ.to
  have B5:=hV b7
  rw[zW]at h
  split at h
  ·exact c6 h
  ·rename_i cG
   have cG:(m.aJ.l.getD k default).eJ=false:=by simpa using cG
   split at h
   ·rename_i aF
    rcases List.mem_append.1 h with h|h
    ·exact c6 h
    ·rw[List.mem_singleton.1 h]
     exact⟨(m.aJ.l.getD k default).to.toNat,by omega,_,B5,cG,.inl ⟨aF,by omega⟩⟩
   ·split at h
    ·rename_i aF fH
     rcases List.mem_append.1 h with h|h
     ·exact c6 h
     ·rw[List.mem_singleton.1 h]
      exact⟨(m.aJ.l.getD k default).cR.toNat,by omega,_,B5,cG,.inr ⟨by omega,fH⟩⟩
    ·exact c6 h
def aDE(m:h4)(v:Nat){k:Nat}: ∀{n:Nat},k<=n->∀e∈zW m v k,e∈zW m v n
 |0,h,e,W=>by rw[show k=0 by omega]at W;exact W
 |n+1,h,e,W=>by
  rcases hF n k with c4|c4
  ·rw[show k=n+1 by omega]at W;exact W
  ·have:=aDE m v (n:=n) c4 e W
   rw[zW]
   split
   ·exact this
   ·split
    ·exact r7 _ this
    ·split
     ·exact r7 _ this
     ·exact this
def aZb{m:h4}(a3:MV m){v w:Nat}(h:FK m v w):(w:Int)∈zW m v m.aJ.l.length:=by
 obtain⟨r,M,cG,O⟩:=h;obtain⟨i,aE⟩:=List.mem_iff_getElem?.1 M;have WO:=(List.getElem?_eq_some_iff.1 aE).1;have mJ:=a3.cV i r aE;have jF:=mJ.ne;have b3G:m.aJ.l.getD i default=r:=getD_some aE;refine aDE m v (k:=i+1) WO _ ?_;rw[zW,b3G,if_neg (by rw[cG];decide)];rcases O with O|O;·rw[if_pos O.1,O.2];simp
 ·rw[if_neg D,if_pos O.2,O.1];simp
structure RZ(m:h4)(k:Nat)(Z:List (J Int)):Prop where
 len:Z.length=m.places.l.length
 ok:∀(v:Nat) (p:J Int),Z[v]?=some p->p.ok 1 a1/\p.l=zW m v k
def RZ.zero(m:h4):RZ m 0 (List.replicate m.places.l.length J.nil):=by exact aCd
def RZ.EX{m:h4}{k:Nat}{Z:List (J Int)}(h:RZ m k Z)(cG:(m.aJ.l.getD k default).eJ=true):RZ m (k+1) Z:=
 ⟨h.len,λv p aP=>⟨(h.ok v p aP).1,by rw[zW,if_pos cG];exact(h.ok v p aP).2⟩⟩
def RZ.next{m:h4}{k:Nat}{Z:List (J Int)}(h:RZ m k Z)(cG: ¬(m.aJ.l.getD k default).eJ=true){i j:Nat}(aE:(i:Int)=(m.aJ.l.getD k default).cR)(a6:(j:Int)=(m.aJ.l.getD k default).to)(jF:i≠j)
 {p q:J Int} (aP:Z[i]?=some p) (cJ:Z[j]?=some q) {o o':g6} (bH:(⟨o,p.l++[(m.aJ.l.getD k default).to]⟩:J Int).ok 1 a1) (GI:(⟨o',q.l++[(m.aJ.l.getD k default).cR]⟩:J Int).ok 1 a1):
 RZ m (k+1) ((Z.set i ⟨o,p.l++[(m.aJ.l.getD k default).to]⟩).set j ⟨o',q.l++[(m.aJ.l.getD k default).cR]⟩):=by
 refine⟨by simp[h.len],λv x K=>?_⟩;rw[IW]at K;split at K;·
  rename_i e;subst e;split at K;·cases K;refine⟨GI,?_⟩;rw[zW,if_neg cG,if_neg D,if_pos D,(h.ok _ q cJ).2]
  ·cases K
 ·
  rename_i e;rw[IW]at K;split at K;·
   rename_i fN;subst fN;split at K;·cases K;refine⟨bH,?_⟩;rw[zW,if_neg cG,if_pos D,(h.ok _ p aP).2]
   ·cases K
  ·rename_i fN;refine⟨(h.ok v x K).1,?_⟩;rw[zW,if_neg cG,if_neg D,if_neg D];exact(h.ok v x K).2
abbrev iC(f:List Int)(v:Nat):Int:=f.getD v (-1)
def JK{f:List Int}{k i:Nat}{x:Int}(aG:k<f.length):iC (f.set k x) i=if i=k then x else iC f i:=by unfold iC;exact aCa
def aWl{f:List Int}{v:Nat}(h:0<=iC f v):v<f.length:=by
 rcases hF v f.length with c4|c4;·exact c4
 ·unfold iC at h;rw[m8,uF c4]at h;simp at h
structure K3(m:h4)(f:List Int)(n:Int):Prop where
 len:f.length=m.places.l.length
 IR:∀v,-1<=iC f v/\iC f v<n
 Hg:0<=n
 ZJ:∀u v,0<=iC f u->FK m u v->iC f v=iC f u
 aLx:∀u v,0<=iC f u->iC f u=iC f v->sY m u v
structure E4(m:h4)(rW f:List Int)(n:Int)(i:Nat)(L8:List Int)(ZK:Nat->Prop):Prop where
 len:f.length=m.places.l.length
 pZ:∀v,0<=iC rW v->iC f v=iC rW v
 new:∀v,iC rW v<0->iC f v= -1\/(iC f v=n/\sY m i v)
 start:iC f i=n/\iC rW i<0
 a28:∀e∈L8,∃v:Nat,e=(v:Int)/\iC rW v<0/\iC f v=n
 ZJ:∀u,iC rW u<0->iC f u=n->(u:Int)∈L8\/ZK u\/∀v,FK m u v->iC f v=n
def K3.start{m:h4}{f:List Int}{n:Int}(h:K3 m f n){i:Nat}(aE:i<m.places.l.length)(b1:iC f i<0):E4 m f (f.set i n) n i [(i:Int)] (λ_=>False):=by
 have aX:=h.len;refine⟨by simp[aX],λv cY=>?_,λv cY=>?_,⟨by rw[JK D,if_pos rfl],b1⟩,λe W=>?_,λu dL TU=>?_⟩;·rw[JK D,if_neg (λe=>by rw[e]at cY;omega)]
 ·
  rw[JK D];split;·rename_i e;rw[e];exact .inr ⟨rfl,.refl⟩
  ·left;have:=h.IR v;omega
 ·rw[List.mem_singleton.1 W];exact⟨i,rfl,b1,by rw[JK D,if_pos rfl]⟩
 ·
  rw[JK D]at TU;split at TU;·rename_i e;rw[e];exact .inl g2
  ·have:=h.IR u;omega
def E4.aNG{m:h4}{rW f:List Int}{n:Int}{i:Nat}{L8:List Int}{ZK:Nat->Prop}(h:E4 m rW f n i L8 ZK)(aX:K3 m rW n){p q:Nat}(aP:iC rW p<0)(aH:FK m p q):iC rW q<0:=by
 rcases IY (iC rW q) 0 with c4|c4;·exact c4
 ·have:=aX.ZJ q p c4 aH.symm;omega
def E4.push{m:h4}{rW f:List Int}{n:Int}{i:Nat}{L8:List Int}{ZK:Nat->Prop}(h:E4 m rW f n i L8 ZK)(aX:K3 m rW n){p q:Nat}(aP:iC rW p<0/\iC f p=n)(aH:FK m p q)(cJ:q<m.places.l.length)(aF:iC f q<0):E4 m rW (f.set q n) n i (L8++[(q:Int)]) ZK:=by
 have j1:=h.len;have QV:=h.aNG aX aP.1 aH;have b23:sY m i p:=by
  rcases h.new p aP.1 with O|O;·have:=aX.Hg;omega
  ·exact O.2
 have mX:=aX.Hg;refine⟨by simp[j1],λv cY=>?_,λv cY=>?_,⟨?_,h.start.2⟩,λe W=>?_,λu dL TU=>?_⟩;·rw[JK D,if_neg (λe=>by rw[e]at cY;omega)];exact h.pZ v cY
 ·
  rw[JK D];split;·rename_i e;rw[e];exact .inr ⟨rfl,b23.tail aH⟩
  ·exact h.new v cY
 ·
  rw[JK D];split;·rfl
  ·exact h.start.1
 ·
  rcases List.mem_append.1 W with O|O;·
   obtain⟨v,k7,lJ,m4⟩:=h.a28 e O;refine⟨v,k7,lJ,?_⟩;rw[JK D];split;·rfl
   ·exact m4
  ·rw[List.mem_singleton.1 O];exact⟨q,rfl,QV,by rw[JK D,if_pos rfl]⟩
 ·
  rw[JK D]at TU;split at TU;·rename_i e;rw[e];exact .inl g2
  ·
   rcases h.ZJ u dL TU with O|O|O;·exact .inl (r7 _ O)
   ·exact .inr (.inl O)
   ·
    refine .inr (.inr λv cY=> ?_);rw[JK D];split;·rfl
    ·exact O v cY
def E4.b6R{m:h4}{rW f:List Int}{n:Int}{i:Nat}{L8:List Int}{p:Nat}(h:E4 m rW f n i (L8++[(p:Int)]) (λ_=>False)):E4 m rW f n i L8 (λu=>u=p):=by
 refine⟨h.len,h.pZ,h.new,h.start,λe W=>h.a28 e (r7 _ W),λu dL TU=>?_⟩;rcases h.ZJ u dL TU with O|O|O;·
  rcases List.mem_append.1 O with X|X;·exact .inl X
  ·have:=List.mem_singleton.1 X;exact .inr (.inl D)
 ·exact absurd O id
 ·exact .inr (.inr O)
def E4.b7a{m:h4}{rW f:List Int}{n:Int}{i:Nat}{L8:List Int}{p:Nat}(h:E4 m rW f n i L8 (λu=>u=p))(aP:∀v,FK m p v->iC f v=n):E4 m rW f n i L8 (λ_=>False):=by
 refine⟨h.len,h.pZ,h.new,h.start,h.a28,λu dL TU=>?_⟩;rcases h.ZJ u dL TU with O|O|O;·exact .inl O
 ·rw[O];exact .inr (.inr aP)
 ·exact .inr (.inr O)
def E4.done{m:h4}{rW f:List Int}{n:Int}{i:Nat}(h:E4 m rW f n i [] (λ_=>False))(aX:K3 m rW n):K3 m f (n+1):=by
 have mX:=aX.Hg;have Sd:∀v,(0<=iC rW v/\iC f v=iC rW v)\/(iC rW v<0/\iC f v= -1)\/(iC rW v<0/\iC f v=n/\sY m i v):=λv=>by
  rcases IY (iC rW v) 0 with O|O;·
   rcases h.new v O with X|X;·exact .inr (.inl ⟨O,X⟩)
   ·exact .inr (.inr ⟨O,X⟩)
  ·exact .inl ⟨O,h.pZ v O⟩
 refine⟨h.len,λv=>?_,by omega,λu v dL aH=>?_,λu v dL W=>?_⟩;·have:=aX.IR v;rcases Sd v with O|O|O<;>omega
 ·
  rcases Sd u with O|O|O;·have X:=aX.ZJ u v O.1 aH;rw[h.pZ v D,O.2,X]
  ·omega
  ·
   rcases h.ZJ u O.1 O.2.1 with X|X|X;·cases X
   ·exact absurd X id
   ·rw[X v aH,O.2.1]
 ·
  have bAQ:=aX.IR u;have bAR:=aX.IR v;rcases Sd u with O|O|O;·
   rcases Sd v with X|X|X;·exact aX.aLx u v O.1 D
   ·omega
   ·omega
  ·omega
  ·
   rcases Sd v with X|X|X;·omega
   ·omega
   ·exact O.2.2.symm.trans X.2.2
def K3.XB{m:h4}:K3 m (List.replicate m.places.l.length (-1)) 0:=by
 have e:∀v,iC (List.replicate m.places.l.length (-1)) v= -1:=λv=>by unfold iC;rw[m8,UE];split<;>rfl
 refine⟨by simp,λv=>by rw[e];omega,by omega,λu v dL=>by rw[e]at dL;omega,λu v dL=>by rw[e]at dL;omega⟩
structure a5H(m:h4)(f:List Int)(n:Int):Prop where
 len:f.length=m.places.l.length
 IR:∀v,v<m.places.l.length->0<=iC f v/\iC f v<n
 n:0<=n/\n<=m.places.l.length
 KD:∀u v,u<m.places.l.length->v<m.places.l.length->(iC f u=iC f v↔sY m u v)
def K3.part{m:h4}{f:List Int}{n:Int}(h:K3 m f n)(bT:∀v,v<m.places.l.length->0<=iC f v)(b1:n<=m.places.l.length):a5H m f n:=by refine⟨h.len,λv cY=>⟨bT v cY,(h.IR v).2⟩,⟨h.Hg,b1⟩,λu v dL cY=>⟨λW=>h.aLx u v (bT u dL) W,λcG=>?_⟩⟩;have:=sY.eJ (P:=λx=>0<=iC f x/\iC f x=iC f u) (λx y K aH=>by have:=h.ZJ x y K.1 aH;omega) cG ⟨bT u dL,rfl⟩;exact this.2.symm
def Y8(f:List Int):Nat:=f.countP (λx=>decide (x<0))
def aFW{f:List Int}{q:Nat}{n:Int}(cJ:q<f.length)(aF:iC f q<0)(b1:0<=n):Y8 (f.set q n)+1=Y8 f:=by
 unfold Y8;have b7:f[q]<0:=by have:=bJ (l:=f) (k:=q) (-1) cJ;rw[DN cJ]at this;rw[yF this];exact aF
 rw[List.countP_set cJ];have:0<List.countP (λx=>decide (x<0)) f:=List.countP_pos_iff.2 ⟨f[q],aCA cJ,by simpa using b7⟩;rw[if_pos (by simpa using b7),if_neg (by simpa using b1)];omega
section
attribute [local irreducible] cQ dF dV aM cP eC e5 e1 e2 e6 eX e4 J.L
def a5o(h:A->B:=by exact aI (jA N ((⟨.own AH m.places.l.length [],f⟩:J Int)) _ rfl rfl ((show _=Value.slice _ _ _ from rfl).trans (w6 gA)) rfl bR (i:=i) dA jC) rfl):=h
def aLk(h:A->B:=by exact aI (jA N ((⟨.own AH m.places.l.length [],iE⟩:J Int)) _ rfl rfl ((show _=Value.slice _ _ _ from rfl).trans (w6 gA)) rfl bR (i:=u) dA jC) rfl):=h
def wK{P n code t L R G}{Q:gF}(h:R=G)(k:cQ P n code t L G Q):cQ P n code t L R Q:=h▸k
def Pl{f:List Int}{v:Nat}(h:v<f.length):f[v]?=some (iC f v):=bJ _ h
def aUb{g cap:Nat}{spare:List Value}{l:List Int}{x:Int}(h:(⟨.own g cap spare,l++[x]⟩:J Int).ok 1 a1):(⟨.own g cap (a1 x++spare),l⟩:J Int).ok 1 a1:=by obtain⟨O,X,aU,cK⟩:=h;dsimp only[]at O X aU cK;simp only[l9,OW]at X;refine⟨by rw[JG (aN:=1) (λ_=>rfl)],by dsimp only;omega,aU,?_⟩;rw[<-cK];simp[aCr,oB]
def aVF{g cap:Nat}{spare:List Value}{T:TypeId}{l:List Int}{x:Int}:(⟨.own g cap spare,l++[x]⟩:J Int).L T a1=(⟨.own g cap (a1 x++spare),l⟩:J Int).L T a1:=by simp[J.L,g6.L,aCr,oB]
def aZo(m:h4)(L:aR)(R:aO)(a3:K4 m R)(bH:MV m):
 aM prog 281 [m.val].toArray L R (λw E G=>∃(p:J Int) (n:Nat) (S:aO),w=.tuple #[p.val,.int .i64 n]/\p.ok 1 a1/\a5H m p.l n/\p.L 3 a1++L=E/\S++R=G):=by
 have QR:=a3.aJ;have B7:=a3.places;have r0:=bH.places;have N7:=bH.aJ;refine b6 127 call281 func281 rfl rfl rfl ?_;apply(dB);intro gL;apply kA∘mO∘kD∘GS;rintro v E G ⟨JX,rfl,rfl,a8D⟩;replace a8D:=a8D.symm;subst a8D;apply v1∘qP;refine dS [(1,.pointer _),(4,.slice _ _ _),(20,.slice _ _ _),(21,.int _ _),(22,.int _ _)] bV λfK=>?_;refine qK ([6]++cN 22 34) ((⟨λq=>[(22,.int .i64 ((q.1.1:Nat):Int))],λq=>⟨JX,q.1.2.flatMap JF,40⟩::⟨gL,m.cells,28⟩::(q.1.2.flatMap (J.L 3 a1)++L),λ_=>R,λq=>m.aJ.l.length-q.1.1⟩:fB {q:Nat×List (J Int)//q.1<=m.aJ.l.length/\RZ m q.1 q.2})) (⟨(0,List.replicate m.places.l.length J.nil),by dsimp only;omega,RZ.zero m⟩) bV (by dsimp only;rw[a7w,<-a7e];exact rH _) eN ?_;rintro⟨⟨k,Z⟩,aG,n7⟩ cH;try dsimp only
 dsimp only at aG n7;apply(h0);refine U ?_ ?_<;>intro aQ;·
  have M:=bJ (l:=m.aJ.l) (k:=k) default D;have mJ:=bH.cV _ _ M;have N8:=mJ.cR;have TQ:=mJ.to;have a2q:=mJ.ne;have Es:=n7.len;have B3:(m.aJ.l.getD k default).cR.toNat<Z.length:=by omega
  have jL:(m.aJ.l.getD k default).to.toNat<Z.length:=by omega
  obtain⟨p,aP⟩:=jW B3;obtain⟨q,cJ⟩:=jW jL;have iF:=n7.ok _ _ aP;have gR:=n7.ok _ _ cJ;have eI:=a0l m (m.aJ.l.getD k default).cR.toNat k;have fT:=a0l m (m.aJ.l.getD k default).to.toNat k;rw[<-iF.2]at eI;rw[<-gR.2]at fT;have jF:(m.aJ.l.getD k default).cR.toNat≠(m.aJ.l.getD k default).to.toNat:=by omega
  apply j9∘GO∘SR;intro i1;apply z8∘nK;refine U ?_ ?_<;>intro bL;·refine bK ?_;refine iS N [29,30,31] [0,1,2,3,4,5,6,7,8,9,10] [11,12,13] ([bN.mk i1 _ _,bN.mk JX _ _]) _ dO bI bA aSX ?_;refine m2 oS rfl rfl rfl rfl ?_;apply FZ∘NH;refine fP aQ8 rfl rfl rfl rfl ?_;apply UA∘mH∘Bf;rintro v E G ⟨V7,rfl,rfl,Fe⟩;replace Fe:=Fe.symm;subst Fe;apply(NG);refine uN (pO (f:=a1) (a:=(m.aJ.l.getD k default).to) N rfl rfl rfl rfl (iF.1) cF p2 rfl qI) rfl rfl rfl ?_;rintro v E G ⟨aNN,rfl,b4z,rfl,rfl⟩;apply(gJ);refine bE aQ8 rfl rfl rfl ?_;refine U4 (v:=Value.slice _ _ _) rfl rfl rfl rfl sX Ij (by exact De (wY:=⟨aNN,p.l++[(m.aJ.l.getD k default).to]⟩) bD aW bR aB) aB bA ?_;apply(wV);(have b47:(Z.set (m.aJ.l.getD k default).cR.toNat ⟨aNN,p.l++[(m.aJ.l.getD k default).to]⟩)[(m.aJ.l.getD k default).to.toNat]?=some q:=by rw[KN jF];exact cJ);refine iS N [42,43,44] [0,1,2,3,4,5,6,7,8,9,10] [11,12,13] ([bN.mk i1 _ _,bN.mk JX _ _]) _ dO bI bA aSX ?_;refine m2 oS rfl rfl rfl rfl ?_;apply FZ∘NH;refine fP aRc rfl rfl rfl rfl ?_;apply UA∘mH∘Bf;rintro v E G ⟨b8N,rfl,rfl,a8O⟩;replace a8O:=a8O.symm;subst a8O;apply(NG);refine uN (pO (f:=a1) (a:=(m.aJ.l.getD k default).cR) N rfl rfl rfl rfl (gR.1) cF p2 rfl qI) rfl rfl rfl ?_;rintro v E G ⟨b6C,rfl,b4E,rfl,rfl⟩;apply(gJ);refine bE aRc rfl rfl rfl ?_;refine U4 (v:=Value.slice _ _ _) rfl rfl rfl rfl sX Ij (by exact De (wY:=⟨b6C,q.l++[(m.aJ.l.getD k default).cR]⟩) bD aW bR aB) aB bA ?_;apply(PV);exact eO ⟨(k+1,_),by dsimp only;omega,n7.next MH D D jF aP cJ b4z b4E⟩
  apply(mU);exact eO ⟨(k+1,Z),by dsimp only;omega,n7.EX MH⟩
 obtain rfl:k=m.aJ.l.length:=by omega
 apply(Hk);have Es:=n7.len;refine aHB (A:=[_,_]) (aN:=1) bD aW (λp aP=>?aBP) λe3 tA=>?_;case aBP=>obtain⟨r,M⟩:=List.mem_iff_getElem?.1 aP;exact(n7.ok r p M).1
 apply(L3);refine Pd (A:=[]) (aN:=1) (len:=(Z.map J.V).length) (cap:=m.places.l.length) (rows:=(Z.map J.V).map a7P) (eU:=(Z.map J.V).map dU) g2 DQ D (λr M=>?rG) aW ?a70 (λx K=>?aB9) ?_;case rG=>obtain⟨y,_,rfl⟩:=List.mem_map.1 M;rfl
 case a70=>rw[Qr,List.flatMap_map,DK (by rw[JG (aN:=1) (λ_=>rfl)];simp)];rfl
 case aB9=>exact aQY
 apply(L3);obtain⟨U7,a1V⟩:∃U7:a4 (a4 Int),U7=⟨some ⟨JX,0,none⟩,m.places.l.length,Z.map J.V⟩:=⟨_,rfl⟩;have b9m:U7.l.length=m.places.l.length:=by rw[a1V];simp[Es]
 have b2a:∀(v:Nat) (x:a4 Int),U7.l[v]?=some x->x.l=zW m v m.aJ.l.length:=λv x K=>by rw[a1V]at K;dsimp only at K;exact aTn
 have Ml:Value.slice (some ⟨JX,0,none⟩) m.places.l.length m.places.l.length=U7.val:=by rw[a1V,a4.val,sV,Es]
 obtain⟨hG,kY⟩:∃hG,hG=qA U7::(e3++R):=⟨_,rfl⟩;have b19:aL (qA U7) hG:=by rw[kY];exact aT (.head _)
 have aME:aL (OM m.places) hG:=by rw[kY];exact B7.mono λr h=>aT (by simp[h])
 rw[Ml];refine wK (show _=hG by rw[kY,a1V]) ?_;apply eB∘kD∘GS;rintro v E G ⟨AH,rfl,rfl,a8Q⟩;replace a8Q:=a8Q.symm;subst a8Q;apply v1∘BN;refine dS [(4,.slice _ _ _),(7,.slice _ _ _),(61,.int _ _),(62,.int _ _)] bV λoA=>?_;refine eM (ZE (f:=a1) (x:=0) rfl _) ?_;refine k2 ([8]++cN 62 7) ((⟨λq=>[(62,.int .i64 ((q.1.1:Nat):Int))],λq=>(⟨.own AH m.places.l.length [],q.1.2⟩:J Int).L 3 a1++(⟨gL,m.cells,28⟩::L),λ_=>hG,λq=>m.places.l.length-q.1.1⟩:fB {q:Nat×List Int//q.1<=m.places.l.length/\q.2.length=m.places.l.length/\∀j:Nat,j<q.1->q.2[j]?=some (-1)})) (⟨(0,List.replicate m.places.l.length 0),by dsimp only;omega,by simp,λj a6=>by omega⟩) ?_;rintro⟨⟨i,f⟩,uB,gA,jU⟩ cH;try dsimp only
 dsimp only at uB gA jU;have Tq:(⟨.own AH m.places.l.length [],f⟩:J Int).ok 1 a1:=by have:=ED (f:=a1) (aN:=1) (b:=AH) (n:=m.places.l.length) (x:=0) bD DP;exact J.o6 bD this (by simp;exact gA)
 apply(h0);refine U ?_ ?_<;>intro cC;·
  have LV:=Pl (f:=f) (v:=i) D;apply oJ∘dM;refine eZ (a8 (c2 ?_));apply h9∘a5o;refine jH (j5 N ((⟨.own AH m.places.l.length [],f⟩:J Int)) (-1) rfl rfl rfl rfl cF bR bD bR aW aB aB) ?_;rintro v E G ⟨rfl,rfl⟩;apply(uJ);exact hP ⟨(i+1,f.set i (-1)),by dsimp only;omega,by simp;exact gA,λj a6=>by
  rw[IW];split;·rw[if_pos D]
  ·exact jU j (by dsimp only at a6;omega)⟩ gW bV bA eN hO
 obtain rfl:i=m.places.l.length:=by omega
 have C8:f=List.replicate m.places.l.length (-1):=by
  refine UG λj=>?_;rcases hF j m.places.l.length with h|h;·rw[jU j h,UE,if_pos h]
  ·rw[uF D,uF (by simp;exact h)]
 have aLV:K3 m f ((0:Nat):Int):=by rw[C8];exact K3.XB
 apply n9∘hH∘BN;refine dS [(4,.slice _ _ _),(7,.slice _ _ _),(9,.int _ _),(70,.int _ _),(71,.int _ _)] bV λUD=>?_;refine k2 ([9,10,11,12,14]++cN 71 54) ((⟨λq=>[(71,.int .i64 ((q.1.1:Nat):Int)),(9,.int .i64 ((q.1.2.1:Nat):Int))],λq=>(⟨.own AH m.places.l.length [],q.1.2.2⟩:J Int).L 3 a1++(⟨gL,m.cells,28⟩::L),λ_=>hG,λq=>m.places.l.length-q.1.1⟩:fB {q:Nat×Nat×List Int//q.1<=m.places.l.length/\K3 m q.2.2 (q.2.1:Int)/\q.2.1<=q.1/\∀j:Nat,j<q.1->0<=iC q.2.2 j})) (⟨(0,0,f),by dsimp only;omega,aLV,by dsimp only;omega,λj a6=>by dsimp only at a6;omega⟩) ?_;rintro⟨⟨i,n,f⟩,uB,ZQ,jU,Vp⟩ cH;try dsimp only
 dsimp only at uB ZQ jU Vp;have gA:=ZQ.len;have Tq:(⟨.own AH m.places.l.length [],f⟩:J Int).ok 1 a1:=by have:=ED (f:=a1) (aN:=1) (b:=AH) (n:=m.places.l.length) (x:=0) bD DP;exact J.o6 bD this (by simp;exact gA)
 apply(h0);refine U ?_ ?_<;>intro dX;·
  have LV:=Pl (f:=f) (v:=i) D;apply oJ∘hH∘h9∘a5o;refine aI (tK N ((⟨.own AH m.places.l.length [],f⟩:J Int)) rfl rfl rfl cF bR bD bR aB) rfl ?_;apply(D7);refine U ?_ ?_<;>intro dY;·
   refine mD (mF (mB (a8 (c2 ?_))));apply(s6);exact hP ⟨(i+1,n,f),by dsimp only;omega,ZQ,by dsimp only;omega,λj a6=>by
   rcases hF j i with h|h;·exact Vp j h
   ·(obtain rfl:j=i:=by dsimp only at a6;omega);omega⟩ gW bV bA eN hO
  have mX:iC f i<0:=by omega
  have b12:=ZQ.start (i:=i) D mX;have b9S:=aFW (f:=f) (q:=i) (n:=(n:Int)) D mX D;have QT:Y8 f<=f.length:=List.countP_le_length;apply NC∘cE∘a5o;refine jH (j5 N ((⟨.own AH m.places.l.length [],f⟩:J Int)) ((n:Int)) rfl rfl rfl rfl cF bR bD bR aW aB aB) ?_;rintro v E G ⟨rfl,rfl⟩;apply rF∘cE∘GU;rintro v E G ⟨Lc,rfl,rfl,IB⟩;replace IB:=IB.symm;subst IB;apply kA∘T5;refine FP ([9,10,11,12,14]++cN 71 54) G1 [(9,.int _ _),(11,.slice _ _ _),(71,.int _ _)] bV λa29=>?_;have b2p:(⟨.own Lc 1 [],[(i:Int)]⟩:J Int).ok 1 a1:=⟨rfl,iK _,by simp only[maxLen];omega,rfl⟩;refine eM (E:=(⟨.own Lc 1 [],[(i:Int)]⟩:J Int).L 3 a1++((⟨.own AH m.places.l.length [],f.set i (n:Int)⟩:J Int).L 3 a1++(⟨gL,m.cells,28⟩::L))) (by simp only[J.L,g6.L,CF,List.flatMap_nil,a1,GZ,pK,nN]) ?_;refine k2 ([11,12,14]++cN 85 37) ((⟨λq=>[(11,q.1.2.val)],λq=>q.1.2.L 3 a1++((⟨.own AH m.places.l.length [],q.1.1⟩:J Int).L 3 a1++(⟨gL,m.cells,28⟩::L)),λ_=>hG,λq=>2*Y8 q.1.1+q.1.2.l.length⟩:fB {q:List Int×J Int//q.2.ok 1 a1/\E4 m f q.1 (n:Int) i q.2.l (λ_=>False)/\2*Y8 q.1+q.2.l.length<=2*m.places.l.length})) (⟨(f.set i (n:Int),⟨.own Lc 1 [],[(i:Int)]⟩),b2p,b12,by dsimp only;simp only[OW];omega⟩) ?_;rintro⟨⟨jY,⟨Mp,A1⟩⟩,dW,uT,rC⟩ cH;try dsimp only
  dsimp only at dW uT rC;apply tD∘pR∘HS;refine U ?_ ?_<;>intro h1;·
   (have WV:0<A1.length:=by have:=h1;(try simp only[J.val]at this);omega);obtain⟨g,cap,spare,dG⟩:=J.a2Z dW (i:=0) WV;dsimp only at dG;subst dG;obtain⟨wC,x,b39⟩:∃wC x,A1=wC++[x]:=⟨A1.dropLast,A1.getLast (by intro h;rw[h]at WV;simp at WV),(List.dropLast_concat_getLast _).symm⟩;subst b39;obtain⟨v,b5W,aNl,KB⟩:=uT.a28 x g2;subst b5W;(have WP:(wC++[(v:Int)]).length=wC.length+1:=by simp);(have b9E:(wC++[(v:Int)])[wC.length]?=some (v:Int):=by simp);(have aL0:(⟨.own g cap spare,wC++[(v:Int)]⟩:J Int).val=Value.slice (some ⟨g,0,none⟩) (wC.length+1) cap:=by simp[J.val,g6.pS,g6.cap]);rw[aL0];have lE:=aUb dW;have J2:=dW.2.1;dsimp only at J2;(have uX:v<m.places.l.length:=by have O:=uT.len;have X:=aWl (f:=jY) (v:=v) D;omega);obtain⟨y,aS⟩:=jW (l:=U7.l) (k:=v) D;have aBi:=b2a v y aS;have Q1:=aL.V b19 aS;(have aBh:y.l.length<=m.aJ.l.length:=by rw[aBi];exact a0l m v _);refine eP (a8 (fR (bK (c2 ?_))));apply gU∘VV;refine aI (jA N ((⟨.own g cap spare,wC++[(v:Int)]⟩:J Int)) _ rfl rfl ((show _=Value.slice _ _ _ from rfl).trans aL0.symm) rfl bR (i:=wC.length) dA jC) rfl ?_;refine aI (tK N ((⟨.own g cap spare,wC++[(v:Int)]⟩:J Int)) rfl rfl rfl cF bR bD bR aB) rfl ?_;apply mO∘gU∘VV;refine aI (a6V N rfl rfl rfl rfl (n:=wC.length) dA D) rfl ?_;apply(BK);refine eM (by rw[aVF]) ?_;apply(wJ);refine aI (by first|exact j4 N rfl rfl rfl rfl i9 (i:=v) dA D|exact i5 N rfl rfl rfl rfl (i:=v) dA D) rfl ?_;apply jG∘u0∘VM;refine FP ([11,12,14]++cN 85 37) G1 [(11,.slice _ _ _),(102,.slice _ _ _),(103,.int _ _),(104,.int _ _)] bV λb7c=>?_;refine k2 ([11,14]++cN 104 18) ((⟨λq=>[(104,.int .i64 ((q.1.1:Nat):Int)),(11,q.1.2.2.val)],λq=>q.1.2.2.L 3 a1++((⟨.own AH m.places.l.length [],q.1.2.1⟩:J Int).L 3 a1++(⟨gL,m.cells,28⟩::L)),λ_=>hG,λq=>y.l.length-q.1.1⟩:fB {q:Nat×List Int×J Int//q.1<=y.l.length/\q.2.2.ok 1 a1/\E4 m f q.2.1 (n:Int) i q.2.2.l (λu=>u=v)/\2*Y8 q.2.1+q.2.2.l.length<=2*Y8 jY+wC.length/\iC q.2.1 v=(n:Int)/\∀(j:Nat) (e:Int),j<q.1->y.l[j]?=some e->iC q.2.1 e.toNat=(n:Int)})) (⟨(0,jY,⟨.own g cap (a1 (v:Int)++spare),wC⟩),by dsimp only;omega,lE,uT.b6R,iK _,KB,λj e a6=>by dsimp only at a6;omega⟩) ?_;rintro⟨⟨k,iE,⟨aBA,Vi⟩⟩,rG,fO,lY,KM,Nh,CE⟩ cH;(try dsimp only);dsimp only at rG fO lY KM CE Nh;have gA:=lY.len;(have b9J:(⟨.own AH m.places.l.length [],iE⟩:J Int).ok 1 a1:=by have:=ED (f:=a1) (aN:=1) (b:=AH) (n:=m.places.l.length) (x:=0) bD DP;exact J.o6 bD this (by simp;exact gA));apply(h0);refine U ?_ ?_<;>intro h2;·
    have a2B:=bJ (l:=y.l) (k:=k) 0 D;obtain⟨e,W⟩:∃e,e=y.l.getD k 0:=⟨_,rfl⟩;rw[<-W]at a2B;obtain⟨u,b5H,cT⟩:=aHu bH m.aJ.l.length (iK _) e (by rw[<-aBi];exact hV a2B);subst b5H;have Mj:=(cT.lt bH).2;have GF:=Pl (f:=iE) (v:=u) D;apply(j9);refine aI pL rfl ?_;apply VU∘h9∘aLk;refine aI (tK N ((⟨.own AH m.places.l.length [],iE⟩:J Int)) rfl rfl rfl cF bR bD bR aB) rfl ?_;apply(CP);refine U ?_ ?_<;>intro n8;·
     apply SN∘cE∘aLk;refine jH (j5 N ((⟨.own AH m.places.l.length [],iE⟩:J Int)) ((n:Int)) rfl rfl rfl rfl cF bR bD bR aW aB aB) ?_;rintro v E G ⟨rfl,rfl⟩;refine eZ (a8 (c2 ?_));apply(SU);rintro v E G ⟨b8G,rfl,rfl,a8v⟩;replace a8v:=a8v.symm;subst a8v;refine hT (pO (f:=a1) (a:=(u:Int)) N rfl rfl rfl rfl (fO) cF p2 rfl qI) rfl ?_;rintro v E G ⟨b6u,rfl,b4r,rfl,rfl⟩;apply kA∘uJ;(have a9n:iC iE u<0:=by simpa using n8);have aMJ:=aFW (f:=iE) (q:=u) (n:=(n:Int)) D a9n D;exact hP ⟨(k+1,iE.set u (n:Int),⟨b6u,Vi++[(u:Int)]⟩),by dsimp only;omega,b4r,lY.push ZQ ⟨aNl,Nh⟩ cT Mj a9n,by dsimp only;rw[l9,OW];omega,by dsimp only;rw[JK D];split;rfl;exact Nh,λj e a6 Gb=>by
      dsimp only at a6|-;rw[JK D];split;·rfl
      ·
       rename_i jF;rcases hF j k with h|h;·exact CE j e h Gb
       ·(obtain rfl:j=k:=by omega);rw[a2B]at Gb;cases Gb;exact absurd D jF⟩ gW bV bA eN hO
    apply(mU);(have a9n:¬iC iE u<0:=by simpa using n8);exact hP ⟨(k+1,iE,⟨aBA,Vi⟩),by dsimp only;omega,fO,lY,KM,Nh,λj e a6 Gb=>by
     dsimp only at a6|-;rcases hF j k with h|h;·exact CE j e h Gb
     ·
      (obtain rfl:j=k:=by omega);rw[a2B]at Gb;cases Gb;rw[xP];rcases lY.new u (lY.aNG ZQ aNl cT)with O|O;·omega
      ·exact O.1⟩ gW bV bA eN hO
   (obtain rfl:k=y.l.length:=by omega);have b13:=lY.b7a (λu aH=>by have O:=aZb bH aH;rw[<-aBi]at O;obtain⟨j,a6⟩:=List.mem_iff_getElem?.1 O;exact CE j u (List.getElem?_eq_some_iff.1 a6).1 a6);refine mD (mF (xY (mB (hI ?_))));exact eO ⟨(iE,⟨aBA,Vi⟩),fO,b13,by dsimp only;omega⟩
  have a9V:A1=[]:=List.length_eq_zero_iff.1 (by have:=h1;(try simp only[J.val]at this);omega);subst a9V;have aLS:=uT.done ZQ;refine mD (mF (xY (mB (a8 (c2 ?_)))));apply M7∘dM∘uJ;exact hP ⟨(i+1,n+1,jY),by dsimp only;omega,(show((n+1:Nat):Int)=(n:Int)+1 from by omega)▸aLS,by dsimp only;omega,λj a6=>by
  dsimp only at a6|-;rcases hF j i with h|h;·have:=Vp j h;rw[uT.pZ j this];exact this
  ·(obtain rfl:j=i:=by omega);rw[uT.start.1];omega⟩ gW bV bA eN hO
 obtain rfl:i=m.places.l.length:=by omega
 apply n9∘h9∘Y6;refine bQ ((⟨.own AH m.places.l.length [],f⟩:J Int).L 3 a1++L) hG yH ?_;exact⟨(⟨.own AH m.places.l.length [],f⟩:J Int),n,qA U7::e3,congrArg (λw=>Value.tuple #[w,.int .i64 (n:Int)]) (w6 gA),Tq,ZQ.part (λv cY=>Vp v cY) D,rfl,kY.symm⟩
def aEx(h:A->B:=by exact aI (jA N (p) _ rfl rfl rfl rfl bR (i:=k) dA jC) rfl):=h
def aJw(h:A->B:=by exact aI O2 rfl):=h
def aEo(h:A->B:=by exact aI (jA N ((⟨.own C3 mG [],cR⟩:J Bool)) _ rfl rfl ((show _=Value.slice _ _ _ from rfl).trans (w6 gA)) rfl bR (i:=(iC p.l k).toNat) dA jC) rfl):=h
def b0U(m:h4)(L:aR)(R:aO)(a3:K4 m R):
 aM prog 196 [m.val].toArray L R (λv E G=>v=.bool (decide (uI m=0))/\L=E/\R=G):=by refine b6 6 call196 func196 rfl rfl rfl ?_;apply(dB);intro gL;apply nG∘j8∘nZ;refine cD rfl (aIn m _ _ a3) ?_;apply XJ∘uK;refine lG L R ?_;exact MK
structure MP(m:h4)(f:List Int)(cR:List Bool)(mG k:Nat):Prop where
 len:cR.length=mG
 KD:∀c:Nat,cR.getD c false=true↔∃j:Nat,j<k/\(m.places.l.getD j default).tG=true/\iC f j=(c:Int)
def MP.zero(m:h4)(f:List Int)(mG:Nat):MP m f (List.replicate mG false) mG 0:=by refine⟨by simp,λc=>⟨λh=>?_,λ⟨j,a6,_⟩=>by omega⟩⟩;rw[m8,UE]at h;split at h<;>simp at h
def MP.EX{m:h4}{f:List Int}{cR:List Bool}{mG k:Nat}(h:MP m f cR mG k)(aH:¬(m.places.l.getD k default).tG=true):MP m f cR mG (k+1):=by
 refine⟨h.len,λc=>(h.KD c).trans ⟨λ⟨j,O,X,aU⟩=>⟨j,by omega,X,aU⟩,λ⟨j,O,X,aU⟩=>?_⟩⟩;rcases hF j k with cK|cK;·exact⟨j,cK,X,aU⟩
 ·
  obtain rfl:j=k:=by omega
  exact absurd X aH
def MP.next{m:h4}{f:List Int}{cR:List Bool}{mG k:Nat}(h:MP m f cR mG k)(aH:(m.places.l.getD k default).tG=true)(b2:0<=iC f k/\iC f k<(mG:Int)):MP m f (cR.set (iC f k).toNat true) mG (k+1):=by
 have aX:=h.len;refine⟨by simp[aX],λc=>?_⟩;rw[Rn D];split;·rename_i e;exact⟨λ_=>⟨k,by omega,aH,by omega⟩,λ_=>rfl⟩
 ·
  rename_i e;refine(h.KD c).trans ⟨λ⟨j,O,X,aU⟩=>⟨j,by omega,X,aU⟩,λ⟨j,O,X,aU⟩=>?_⟩;rcases hF j k with cK|cK;·exact⟨j,cK,X,aU⟩
  ·(obtain rfl:j=k:=by omega);exact absurd D e
def Qj(f:List Int)(cR:List Bool)(n:Nat):List Bool:=(List.range n).map λi=>cR.getD (iC f i).toNat false
def aHM{f:List Int}{cR:List Bool}{n i:Nat}(h:i<n):(Qj f cR n).getD i false=cR.getD (iC f i).toNat false:=by rw[m8,Qj,pA,KP h];rfl
def aGG{m:h4}{j:Nat}(h:j<m.places.l.length):(M4 m).getD j false=(m.places.l.getD j default).tG:=by rw[m8,M4,pA,bJ (l:=m.places.l) (k:=j) default h];rfl
def MP.xA{m:h4}{f:List Int}{cR:List Bool}{mG:Nat}(h:MP m f cR mG m.places.l.length)(aP:a5H m f (mG:Int)):lB m (Qj f cR m.places.l.length):=by
 have m6:(M4 m).length=m.places.l.length:=by simp[M4]
 refine⟨by simp[Qj,m6],λi aE=>?_⟩;have Tm:i<m.places.l.length:=by omega
 have M:=aP.IR i Tm;rw[aHM Tm,h.KD];refine⟨λ⟨j,O,X,aU⟩=>⟨j,by omega,by rw[aGG O];exact X,(aP.KD j i O Tm).1 D⟩,λ⟨j,O,X,aU⟩=>?_⟩;have So:j<m.places.l.length:=by omega
 rw[aGG So]at X;exact⟨j,So,X,by rw[(aP.KD j i So Tm).2 aU];omega⟩
def LK(A:List Bool):Nat->List Int
 |0=>[]
 |k+1=>if A.getD k false=true then LK A k else LK A k++[(k:Int)]
def a7o(A:List Bool): ∀k,(LK A k).length<=k
 |0=>by simp[LK]
 |k+1=>by
  have:=a7o A k
  rw[LK]
  split
  ·omega
  ·simp only[l9,OW];omega
def a6Y{A:List Bool}{e:Int}: ∀{k:Nat},e∈LK A k↔∃i:Nat,e=(i:Int)/\i<k/\¬A.getD i false=true
 |0=>⟨λh=>(by simp[LK]at h),λ⟨i,_,h,_⟩=>D⟩
 |k+1=>by
  have c6:=a6Y (A:=A) (e:=e) (k:=k)
  rw[LK]
  split
  ·rename_i h
   refine c6.trans ⟨λ⟨i,O,X,aU⟩=>⟨i,O,by omega,aU⟩,λ⟨i,O,X,aU⟩=>⟨i,O,?_,aU⟩⟩
   rcases hF i k with cK|cK
   ·exact cK
   ·obtain rfl:i=k:=by omega
    exact absurd h aU
  ·rename_i h
   rw[Hw,c6,aCv]
   refine⟨λb2=>?_,λ⟨i,O,X,aU⟩=>?_⟩
   ·rcases b2 with⟨i,O,X,aU⟩|b2
    ·exact⟨i,O,by omega,aU⟩
    ·exact⟨k,b2,by omega,h⟩
   ·rcases hF i k with cK|cK
    ·exact .inl ⟨i,O,cK,aU⟩
    ·obtain rfl:i=k:=by omega
     exact .inr O
def aYJ(m:h4)(L:aR)(R:aO)(a3:K4 m R)(bH:MV m)(cY:uI m=0):
 aM prog 243 [m.val].toArray L R (λw E G=>∃(p:J Int) (A:List Bool) (S:aO),w=p.val/\p.ok 1 a1/\lB m A/\p.l=LK A m.places.l.length/\p.L 3 a1++L=E/\S++R=G):=by
 have B7:=a3.places;have r0:=bH.places;refine b6 57 call243 func243 rfl rfl rfl ?_;apply(dB);intro gL;apply v1∘nZ;refine cD rfl (b0U m _ _ a3) ?_;apply(nK);refine U ?_ ?_<;>intro aQ;·apply PP∘A3;refine bQ L R w2 ?_;exact absurd cY zR
 apply e0∘nZ;refine dT rfl (aZo m _ _ a3 bH) rfl ?_;rintro v E G ⟨p,mG,S,rfl,iF,kX,rfl,rfl⟩;have eI:=kX.len;have lK:=kX.n;have aME:aL (OM m.places) (S++R):=B7.mono λr h=>aT (by simp[h]);refine aI iL rfl ?_;apply CO∘kA∘rS∘GS;rintro v E G ⟨C3,rfl,rfl,H7⟩;replace H7:=H7.symm;subst H7;apply v1∘qP;refine dS [(1,.pointer _),(3,.slice _ _ _),(5,.slice _ _ _),(21,.slice _ _ _),(22,.int _ _),(23,.int _ _)] bV λfK=>?_;refine eM Ib ?_;refine k2 ([6,7]++cN 23 14) ((⟨λq=>[(23,.int .i64 ((q.1.1:Nat):Int))],λq=>(⟨.own C3 mG [],q.1.2⟩:J Bool).L 4 jJ++(p.L 3 a1++(⟨gL,m.cells,28⟩::L)),λ_=>S++R,λq=>m.places.l.length-q.1.1⟩:fB {q:Nat×List Bool//q.1<=m.places.l.length/\MP m p.l q.2 mG q.1})) (⟨(0,List.replicate mG false),by dsimp only;omega,MP.zero m p.l mG⟩) ?_;rintro⟨⟨k,cR⟩,uB,fW⟩ cH;try dsimp only
 dsimp only at uB fW;have gA:=fW.len;have Tq:(⟨.own C3 mG [],cR⟩:J Bool).ok 1 jJ:=by have:=ED (f:=jJ) (aN:=1) (b:=C3) (n:=mG) (x:=false) BP DP;exact J.o6 BP this (by simp;exact gA)
 apply(h0);refine U ?_ ?_<;>intro bL;·
  have zD:=bJ (l:=m.places.l) (k:=k) default D;have wA:=Pl (f:=p.l) (v:=k) D;have IH:=kX.IR k D;have LV:=bJ (l:=cR) (k:=(iC p.l k).toNat) false D;apply oJ∘GO∘LI;intro o0;apply dM∘z8∘b9;refine U ?_ ?_<;>intro cC;·apply BL∘h9∘aEx∘aJw∘aEo;refine jH (j5 N ((⟨.own C3 mG [],cR⟩:J Bool)) (true) rfl rfl rfl rfl cF bR bD bR aW aB aB) ?_;rintro v E G ⟨rfl,rfl⟩;apply(uJ);exact eO ⟨(k+1,_),by dsimp only;omega,fW.next MG IH⟩
  apply(mU);exact eO ⟨(k+1,cR),by dsimp only;omega,fW.EX MG⟩
 obtain rfl:k=m.places.l.length:=by omega
 have gE:=fW.xA kX;obtain⟨A,aLQ⟩:∃A,A=Qj p.l cR m.places.l.length:=⟨_,rfl⟩;rw[<-aLQ]at gE;apply n9∘v1∘qP;refine dS [(3,.slice _ _ _),(5,.slice _ _ _),(8,.slice _ _ _),(39,.int _ _),(40,.int _ _)] bV λoA=>?_;refine qK ([8,9]++cN 40 16) ((⟨λq=>[(40,.int .i64 ((q.1.1:Nat):Int)),(8,q.1.2.val)],λq=>q.1.2.L 3 a1++((⟨.own C3 mG [],cR⟩:J Bool).L 4 jJ++(p.L 3 a1++(⟨gL,m.cells,28⟩::L))),λ_=>S++R,λq=>m.places.l.length-q.1.1⟩:fB {q:Nat×J Int//q.1<=m.places.l.length/\q.2.ok 1 a1/\q.2.l=LK A q.1})) (⟨(0,J.nil),by dsimp only;omega,J.iJ,rfl⟩) bV X2 eN ?_;rintro⟨⟨k,q⟩,rG,fO,lY⟩ cH;try dsimp only
 dsimp only at rG fO lY;apply(h0);refine U ?_ ?_<;>intro dX;·
  have wA:=Pl (f:=p.l) (v:=k) D;have IH:=kX.IR k D;have LV:=bJ (l:=cR) (k:=(iC p.l k).toNat) false D;have aLR:A.getD k false=cR.getD (iC p.l k).toNat false:=by rw[aLQ];exact aHM D
  have fT:=a7o A k;rw[<-lY]at fT;apply oJ∘mO∘P0∘aEx∘aJw∘aEo;refine aI (tK N ((⟨.own C3 mG [],cR⟩:J Bool)) rfl rfl rfl cF bR bD bR aB) rfl ?_;apply(nK);refine U ?_ ?_<;>intro dY;·apply wJ∘GU;rintro v E G ⟨b1k,rfl,rfl,Fh⟩;replace Fh:=Fh.symm;subst Fh;refine hT (pO (f:=a1) (a:=(k:Int)) N rfl rfl rfl rfl (fO) cF p2 rfl qI) rfl ?_;rintro v E G ⟨aBE,rfl,aAi,rfl,rfl⟩;apply kA∘uJ;exact eO ⟨(k+1,⟨aBE,q.l++[(k:Int)]⟩),by dsimp only;omega,aAi,by dsimp only;rw[LK,if_neg (by rw[aLR];simpa using dY),lY]⟩
  apply(mU);exact eO ⟨(k+1,q),by dsimp only;omega,fO,by dsimp only;rw[LK,if_pos (by rw[aLR];simpa using dY),lY]⟩
 obtain rfl:k=m.places.l.length:=by omega
 apply(SP);refine bQ (q.L 3 a1++L) (S++R) w2 ?_;exact⟨q,A,S,rfl,fO,gE,lY,rfl,rfl⟩
def aLi(h:A->B:=by exact aI Ol rfl):=h
def aKe(h:A->B:=by exact bE (tK N ((⟨xM,l⟩:J Bool)) rfl rfl rfl cF bR bD bR aB) rfl rfl rfl):=h
def aEE(h:A->B:=by exact bE (jA N ((⟨xM,l⟩:J Bool)) _ rfl rfl ((show _=Value.slice _ _ _ from rfl).trans (by simp only[J.val,pW])) rfl bR (i:=r.to.toNat) dA jC) rfl rfl rfl):=h
def aUC(m:h4)(seen:a4 Bool)(L:aR)(R:aO)(a3:K4 m R)(aH:aL (a5P seen) R)(bH:MV m)(aX:seen.l.length=m.places.l.length):
 aM prog 289 [m.val,seen.val].toArray L R (λw E G=>∃p:J Bool,w=p.val/\p.ok 1 jJ/\X9 m seen.l p.l/\p.L 4 jJ++L=E/\R=G):=by
 have mJ:=a3.aJ;have r0:=bH.places;have N7:=bH.aJ;refine b6 49 call289 func289 rfl rfl rfl ?_;apply(dB);intro eH;apply vD∘gU;refine hT (r9 (f:=jJ) (xs:=seen) N rfl rfl rfl aW rfl rfl (aH) bD D) rfl ?_;rintro v E G ⟨xM,rfl,Gi,rfl,rfl⟩;apply v1∘nG∘T5;refine dS [(2,.pointer _),(5,.slice _ _ _),(6,.bool _)] bV λfK=>?_;refine k2 ([6,7,8]++cN 11 37) ((⟨λq=>[(6,.bool q.1.1)],λq=>(⟨xM,q.1.2⟩:J Bool).L 4 jJ++(⟨eH,m.cells,28⟩::L),λ_=>R,λq=>HG q.1.2*2+(if q.1.1=true then 1 else 0)⟩:fB {q:Bool×List Bool//(⟨xM,q.2⟩:J Bool).ok 1 jJ/\RM m seen.l q.2/\(q.1=false->∀r∈m.aJ.l,r.eJ=false->q.2.getD r.cR.toNat false=q.2.getD r.to.toNat false)})) (⟨(true,seen.l),Gi,RM.XB,λh=>by cases h⟩) ?_;rintro⟨⟨b08,oN⟩,uB,fW,jU⟩ cH;try dsimp only
 dsimp only at uB fW jU;apply tD∘dE∘b9;refine U ?_ ?_<;>intro aQ;·
  refine eP (a8 (fR (bK (c2 ?_))));apply nG∘j8∘nP;refine FP ([6,7,8]++cN 11 37) G1 [(6,.bool _),(7,.int _ _)] bV λoA=>?_;refine k2 ([6,7,8]++cN 12 36) ((⟨λq=>[(7,.int .i64 ((q.1.1:Nat):Int)),(6,.bool q.1.2.1)],λq=>(⟨xM,q.1.2.2⟩:J Bool).L 4 jJ++(⟨eH,m.cells,28⟩::L),λ_=>R,λq=>m.aJ.l.length-q.1.1⟩:fB {q:Nat×Bool×List Bool//q.1<=m.aJ.l.length/\(⟨xM,q.2.2⟩:J Bool).ok 1 jJ/\RM m seen.l q.2.2/\(q.2.1=true->HG q.2.2<HG oN)/\(q.2.1=false->q.2.2=oN/\∀(j:Nat) (r:qN),j<q.1->m.aJ.l[j]?=some r->r.eJ=false->oN.getD r.cR.toNat false=oN.getD r.to.toNat false)})) (⟨(0,false,oN),by dsimp only;omega,uB,fW,(λh=>by cases h),λ_=>⟨rfl,λj r a6=>by omega⟩⟩) ?_;rintro⟨⟨i,Le,l⟩,rG,fO,lY,KM,CE⟩ cH;try dsimp only
  dsimp only at rG fO lY KM CE;have pW:=lY.len;apply(q9);refine U ?_ ?_<;>intro bL;·
   have Ul:=bJ (l:=m.aJ.l) (k:=i) default D;have IH:=bH.cV i _ Ul;obtain⟨r,b5o⟩:∃r,r=m.aJ.l.getD i default:=⟨_,rfl⟩;rw[<-b5o]at Ul IH;have N8:=IH.cR;have TQ:=IH.to;have a2q:=IH.ne;have Tj:=bJ (l:=l) (k:=r.cR.toNat) false D;have J6:=bJ (l:=l) (k:=r.to.toNat) false D;apply FY∘aLi∘SR;intro h6;apply(HT);refine gZ N [0,1,2,3,4,5,6,7,8,9,10,11,12,13,14,15] ([bN.mk h6 _ _]++((⟨xM,l⟩:J Bool).L 4 jJ++[])) dO bI bA ?_;apply(g7);refine bE (NQ rfl) rfl rfl rfl ?_;apply(sS);refine lQ (k:=27) aY (λfQ=>?_) (λfQ=>?_);·
    replace fQ:=bB fQ;refine bE oS rfl rfl rfl ?_;apply(g7);refine bE aSh rfl rfl rfl ?_;apply(aKe);refine bE oS rfl rfl rfl ?_;apply g7∘aEE∘aKe;refine bE (aYW N rfl rfl rfl) rfl rfl rfl ?_;apply(l2);refine U ?_ ?_<;>intro cC;·
     refine iS N [43,44,45] [0,1,2,3,4,5,6] [7,8,9,10] ([bN.mk h6 _ _]) _ dO bI bA hA ?_;apply(NH);refine m2 oS rfl rfl rfl rfl ?_;apply(FZ);refine fP aSh rfl rfl rfl rfl ?_;apply(zN);refine HN (j5 N ((⟨xM,l⟩:J Bool)) (true) rfl rfl rfl rfl cF bR bD bR aW aB aB) rfl rfl ?_;rintro v E G ⟨rfl,rfl⟩;apply gJ∘aEE;(have aM2:(l.set r.cR.toNat true)[r.to.toNat]?=some (l.getD r.to.toNat false):=by rw[KN D];exact J6);have DA:(⟨xM,l.set r.cR.toNat true⟩:J Bool).ok 1 jJ:=J.o6 BP fO g2;refine HN (j5 N ((⟨xM,l.set r.cR.toNat true⟩:J Bool)) (true) rfl rfl rfl rfl cF bR bD bR aW aB aB) rfl rfl ?_;rintro v E G ⟨rfl,rfl⟩;apply(gJ);refine bE (FB aY) rfl rfl rfl ?_;apply(JN);(have jF:l.getD r.cR.toNat false≠l.getD r.to.toNat false:=by simpa using cC);(have kK:r.eJ=false:=by simpa using fQ);have cT:FK m r.cR.toNat r.to.toNat:=⟨r,hV Ul,kK,.inl ⟨by omega,by omega⟩⟩;have i3:=aYa (l:=l) (u:=r.cR.toNat) (v:=r.to.toNat) D D jF;have IF:HG l<=HG oN:=by
      cases Le with
      |true=>have:=KM rfl;omega
      |false=>rw[(CE rfl).1];exact iK _
     exact eO ⟨(i+1,true,(l.set r.cR.toNat true).set r.to.toNat true),by dsimp only;omega,J.o6 BP fO g2,lY.next cT D D jF,λ_=>by dsimp only;omega,λh=>by cases h⟩
    exact aPk
   replace fQ:=bB fQ;(iterate 11 apply(iU));apply(l2);refine MX rfl ?_;exact aPk
  obtain rfl:i=m.aJ.l.length:=by omega
  have b4c:HG l*2+(if Le=true then 1 else 0)<HG oN*2+(if b08=true then 1 else 0):=by
   rw[if_pos aQ];cases Le with
   |true=>have:=KM rfl;simp;omega
   |false=>rw[(CE rfl).1];simp
  refine mD (mF (xY (mB (hI ?_))));exact hP ⟨(Le,l),fO,lY,λh r M Lq=>by obtain⟨j,a6⟩:=List.mem_iff_getElem?.1 M;rw[(CE h).1];exact(CE h).2 j r (List.getElem?_eq_some_iff.1 a6).1 a6 Lq⟩ gW bV bA eN b4c
 have pW:=fW.len;apply(SP);refine bQ ((⟨xM,oN⟩:J Bool).L 4 jJ++L) R w2 ?_;exact⟨⟨xM,oN⟩,by simp only[J.val,pW],uB,fW.done (jU zR),rfl,rfl⟩
def b0f{m:h4}{p:J Bool}{A:aR}{R:aO}(kG:xT (p.L 4 jJ) A)(aG:p.ok 1 jJ)(a3:K4 m R)(bH:MV m)(aX:p.l.length=m.places.l.length):
 aM prog 289 [m.val,p.val].toArray A R (λw E G=>∃q:J Bool,w=q.val/\q.ok 1 jJ/\X9 m p.l q.l/\A++q.L 4 jJ=E/\R=G):=by have h:=aUC m p.V [] ([a5P p.V]++R) ⟨a3.places.mono λr h=>aT (.tail _ h),a3.aJ.mono λr h=>aT (.tail _ h)⟩ mA bH aX;have X:=aM.Mn (S:=[a5P p.V]) (Post:=λv E=>∃q:J Bool,v=q.val/\q.ok 1 jJ/\X9 m p.l q.l/\q.L 4 jJ++[]=E) (zZ.aD (L:=A)) (λw Z b4 s aH=>by rw[List.mem_singleton.1 aH];exact VF b4 kG aG BP aW e8) (h.mono λv E G ⟨q,k7,lJ,m4,vG,JW⟩=>⟨⟨q,k7,lJ,m4,vG⟩,JW⟩);exact X.mono λv i6 G ⟨E,e,⟨q,k7,lJ,m4,vG⟩,JW⟩=>⟨q,k7,lJ,m4,by rw[<-vG,GZ]at e;exact e,JW⟩
def aDw(m:h4)(L:aR)(R:aO)(a3:K4 m R)(bH:MV m):
 aM prog 256 [m.val].toArray L R (λw E G=>∃p:J Bool,w=p.val/\p.ok 1 jJ/\lB m p.l/\L++p.L 4 jJ=E/\R=G):=by
 have eI:=a3.places;have r0:=bH.places;refine b6 28 call256 func256 rfl rfl rfl ?_;apply(dB);intro gL;apply vD∘kD∘GS;rintro v E G ⟨h6,rfl,rfl,a8W⟩;replace a8W:=a8W.symm;subst a8W;apply v1∘nP;refine dS [(1,.pointer _),(3,.slice _ _ _),(4,.int _ _)] bV λfK=>?_;refine eM Ib ?_;refine k2 ([4]++cN 9 16) ((⟨λq=>[(4,.int .i64 ((q.1.1:Nat):Int))],λq=>(⟨.own h6 m.places.l.length [],q.1.2⟩:J Bool).L 4 jJ++(⟨gL,m.cells,28⟩::L),λ_=>R,λq=>m.places.l.length-q.1.1⟩:fB {q:Nat×List Bool//q.1<=m.places.l.length/\q.2.length=m.places.l.length/\∀(j:Nat) (p:yX),j<q.1->m.places.l[j]?=some p->q.2[j]?=some p.tG})) (⟨(0,List.replicate m.places.l.length false),by dsimp only;omega,by simp,λj p a6=>by omega⟩) ?_;rintro⟨⟨i,l⟩,uB,pW,jU⟩ cH;try dsimp only
 dsimp only at uB pW jU;have b3W:(⟨.own h6 m.places.l.length [],l⟩:J Bool).ok 1 jJ:=by have:=ED (f:=jJ) (aN:=1) (b:=h6) (n:=m.places.l.length) (x:=false) BP DP;exact J.o6 BP this Wp
 apply(q9);refine U ?_ ?_<;>intro aQ;·
  have zD:=bJ (l:=m.places.l) (k:=i) default D;have wA:=bJ (l:=l) (k:=i) false D;refine eP (a8 (bK (fR (c2 ?_))));apply h9∘gK∘aLi∘sH;refine aI (jA N ((⟨.own h6 m.places.l.length [],l⟩:J Bool)) _ rfl rfl ((show _=Value.slice _ _ _ from rfl).trans (w6 pW)) rfl bR (i:=i) dA jC) rfl ?_;refine jH (j5 N ((⟨.own h6 m.places.l.length [],l⟩:J Bool)) ((m.places.l.getD i default).tG) rfl rfl rfl rfl cF bR bD bR aW aB aB) ?_;rintro v E G ⟨rfl,rfl⟩;apply(VO);exact hP ⟨(i+1,l.set i (m.places.l.getD i default).tG),by dsimp only;omega,by simp;exact pW,λj p a6 aP=>by
  rw[IW];split;·rename_i e;subst e;rw[if_pos D];rw[zD]at aP;cases aP;rfl
  ·rename_i e;exact jU j p (by dsimp only at a6;omega) aP⟩ gW bV bA eN hO
 obtain rfl:i=m.places.l.length:=by omega
 have Gt:l=M4 m:=by
  refine UG λj=>?_;rcases hF j m.places.l.length with h|h;·have aP:=bJ (l:=m.places.l) (k:=j) default h;rw[jU j _ h aP,M4,pA,aP];rfl
  ·rw[uF D,uF (by simp[M4];exact h)]
 apply n9∘nZ∘gU;refine dT rfl (aM.cast (b0f (p:=(⟨.own h6 m.places.l.length [],l⟩:J Bool)) G2 b3W a3 bH pW) (by show #[_,Value.slice _ (List.length _) _]=_;rw[pW];rfl)) rfl ?_;rintro v E G ⟨p,rfl,aP,kN,rfl,rfl⟩;simp only[oB,pK,nN];apply(SH);refine bQ (L++p.L 4 jJ) R w2 ?_;exact⟨p,rfl,aP,by rw[Gt]at kN;exact kN,rfl,rfl⟩
end
end Go.Proofs.YtchfclmokpbldaaGreat
