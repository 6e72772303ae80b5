-- By an AI agent; no person has read it.
import Derived.Test.YtdiajbdaadlfhaaGreatDoorData
set_option linter.all false
set_option maxHeartbeats 4000000
namespace Go.Aw
open Go
def a72{aY:Type}{f:aY->List Value}{aI:Nat}(aH: ∀x,(f x).length=aI): ∀(l:List aY) (i j:Nat),j<aI->(l.flatMap f)[i*aI+j]? =(l[i]?).bind λx=>(f x)[j]?
 |[],i,j,_=>by simp
 |x::l,0,j,a6=>by
  rw[vZ,K4 (by rw[aH];omega)]
  simp
 |x::l,i+1,j,a6=>by
  rw[vZ,XQ (by rw[aH,K2];omega),aH]
  rw[show(i+1)*aI+j-aI=i*aI+j by rw[K2];omega]
  rw[a72 aH l i j a6]
  simp
def C0{aY:Type}{f:aY->List Value}{aI:Nat}(aH: ∀x,(f x).length=aI): ∀(l:List aY),(l.flatMap f).length=l.length*aI
 |[]=>by simp
 |x::l=>by rw[vZ,hL,aH,C0 aH l,kL,K2];omega
def aFd{aY:Type}{f:aY->List Value}{aI:Nat}(aH: ∀x,(f x).length=aI): ∀(l:List aY) (i j:Nat) (x vY:aY) (v:Value),j<aI->l[i]? =some x->(f x).set j v=f vY->(l.flatMap f).set (i*aI+j) v=(l.set i vY).flatMap f
 |[],i,j,x,vY,v,_,h,_=>by simp at h
 |y::l,0,j,x,vY,v,a6,h,aF=>by
  simp only[aBX,Mw]at h
  subst h
  rw[vZ,aB5,vZ,<-aF,List.set_append_left _ _ (by rw[aH];omega)]
  simp
 |y::l,i+1,j,x,vY,v,a6,h,aF=>by
  rw[vZ,List.set_cons_succ,vZ,aBY _ _ (by rw[aH,K2];omega),aH]
  rw[show(i+1)*aI+j-aI=i*aI+j by rw[K2];omega]
  rw[aFd aH l i j x vY v a6 Bg aF]
def a5J(b aI i j:Nat):n0 (some ⟨b,0,none⟩) aI i j=i*aI+j:=by simp[n0,Jo]
section
variable{aY:Type}{f:aY->List Value}{aI b i j:Nat}{l:List aY}{x vY:aY}{v:Value}{spare:List Value}
def a57(aH:∀x,(f x).length=aI)(K:l[i]?=some x)(cS:(f x)[j]?=some v):(l.flatMap f)[n0 (some ⟨b,0,none⟩) aI i j]?=some v:=by
 have a6:j<aI:=by have:=(List.getElem?_eq_some_iff.1 cS).1;rw[aH]at this;exact this
 rw[a5J,a72 aH l i j a6,K];exact cS
def aUG(aH:∀x,(f x).length=aI)(K:l[i]?=some x)(a6:j<aI):Nat.blt (n0 (some ⟨b,0,none⟩) aI i j) (l.flatMap f).length=true:=by rw[a5J,C0 aH];have aB:=(List.getElem?_eq_some_iff.1 K).1;have:(i+1)*aI<=l.length*aI:=Wi _ aB;rw[K2]at this;simp;omega
def Ce(aH:∀x,(f x).length=aI)(a6:j<aI)(K:l[i]?=some x)(aF:(f x).set j v=f vY):(l.flatMap f).set (n0 (some ⟨b,0,none⟩) aI i j) v=(l.set i vY).flatMap f:=by rw[a5J];exact aFd aH l i j x vY v a6 K aF
def aIV(aH:∀x,(f x).length=aI)(K:l[i]?=some x)(cS:(f x)[j]?=some v):(l.flatMap f++spare)[n0 (some ⟨b,0,none⟩) aI i j]?=some v:=by have:=a57 (b:=b) aH K cS;rw[K4 (List.getElem?_eq_some_iff.1 this).1];exact this
end
def a5d{aY:Type}{f:aY->List Value}{z:List Value}{x:aY}(h:z=f x)(m:Nat):y1 z m=(List.replicate m x).flatMap f:=by
 induction m with
 |zero=>rfl
 |succ m cA=>rw[y1,cA,a4b,vZ,h]
structure J(aY:Type) where
 o:gT
 l:List aY
def gT.r5:gT->Option Addr
 | .nil=>none
 | .own g _ _=>some ⟨g,0,none⟩
def gT.cap:gT->Nat
 | .nil=>0
 | .own _ cap _=>cap
def J.val{aY:Type}(p:J aY):Value:=.slice p.o.r5 p.l.length p.o.cap
def J.L{aY:Type}(T:TypeId)(f:aY->List Value)(p:J aY):aW:=p.o.L T (p.l.flatMap f)
def J.ok{aY:Type}(aI:Nat)(f:aY->List Value)(p:J aY):Prop:=p.o.ok aI (p.l.flatMap f) p.l.length
abbrev J.W{aY:Type}(p:J aY):bP aY:=⟨p.o.r5,p.o.cap,p.l⟩
abbrev J.nil{aY:Type}:J aY:=⟨.nil,[]⟩
def J.iJ{aY:Type}{aI:Nat}{f:aY->List Value}:(J.nil:J aY).ok aI f:=⟨rfl,rfl⟩
def gT.aPu{aI n:Nat}{xs:List Value}{o:gT}(h:o.ok aI xs n):o.val n=.slice o.r5 n o.cap:=by
 cases o with
 |nil=>rw[h.1];rfl
 |own=>rfl
def DC{aY:Type}(p:J aY):List Value:=[p.val]
inductive tB{aY:Type}(T:TypeId)(f:aY->List Value)(p:J aY):aW->(J aY->aW)->Prop
 |lK {B:aW}:tB T f p (p.L T f++B) (λq=>q.L T f++B)
 |wV:tB T f p (p.L T f) (λq=>q.L T f)
 |at {l:List (J aY)} {i:Nat} {B:aW} (h:l[i]?=some p):tB T f p (l.flatMap (J.L T f)++B) (λq=>(l.set i q).flatMap (J.L T f)++B)
 |cons {x:bQ} {L:aW} {F:J aY->aW} (h:tB T f p L F):tB T f p (x::L) (λq=>x::F q)
 |wJ {BV L:aW} {F:J aY->aW} (h:tB T f p L F):tB T f p (BV++L) (λq=>BV++F q)
def aJu{aY:Type}{g:aY->aW}: ∀{l:List aY} {i:Nat} {p:aY},l[i]? =some p->∃A B,l.flatMap g=A++g p++B/\∀q,(l.set i q).flatMap g=A++g q++B
 |[],i,p,h=>by simp at h
 |x::l,0,p,h=>by
  simp only[aBX,Mw]at h
  subst h
  exact⟨[],l.flatMap g,by simp,λq=>by simp⟩
 |x::l,i+1,p,h=>by
  obtain⟨A,B,G,U⟩:=aJu (g:=g) (l:=l) (i:=i) (p:=p) Bg
  exact⟨g x++A,B,by simp[G],λq=>by simp[U]⟩
def tB.split{aY:Type}{T:TypeId}{f:aY->List Value}{p:J aY}{L:aW}{F:J aY->aW}(h:tB T f p L F):∃A B,L=A++p.L T f++B/\∀q,F q=A++q.L T f++B:=by
 induction h with
 | @lK B=>exact⟨[],B,by simp,λq=>by simp⟩
 |wV=>exact⟨[],[],by simp,λq=>by simp⟩
 | @«at» l i B h=>obtain⟨A,aC9,G,U⟩:=aJu (g:=J.L T f) h;exact⟨A,aC9++B,by simp[G],λq=>by simp[U]⟩
 | @cons x L F _ cA=>obtain⟨A,B,G,U⟩:=cA;exact⟨x::A,B,by simp[G],λq=>by simp[U]⟩
 | @wJ BV L F _ cA=>obtain⟨A,B,G,U⟩:=cA;exact⟨BV++A,B,by simp[G],λq=>by simp[U]⟩
def aFy(A X B:aW):GI X (A++X++B) (λxH=>A++xH++B):=by
 have h:GI X (A++(X++B)) (λxH=>A++(xH++B)):=.wJ .lK;have dH:A++(X++B)=A++X++B:=(kF _ _ _).symm;have eH:(λxH=>A++(xH++B))=(λxH=>A++xH++B):=by funext xH;exact(kF _ _ _).symm
 rwa[dH,eH]at h
section
variable{P:Program}{aV:Operand->Value}{L:aW}{R:aP}{dst:Option Tmp}{ty:TypeId}{pos:String}{after:Array Edge}{guard:Option (Nat×Bool)}(M:nN P){T:TypeId}{x y:Operand}
def jZ{aY:Type}{e n fl bt z eK gC pJ mX z2}{f:aY->List Value}{p:J aY}{a:aY}{F:J aY->aW}(dF:g5 M.gD T=some ⟨.slice e,n,fl,bt,z⟩)(c6:g5 M.gD e=some ⟨eK,gC,pJ,mX,z2⟩)(A1:z2.length=gC)
 (K:aV x=p.val) (bM:p.ok gC f) (uU:tB e f p L F) (aF:Ij L R (aV y) 1 gC (f a)) (G:(f a).all (·.oneCell')=true) (MQ:(p.l.length+1)*(mX+1)<=140737488355328):
 dR P ⟨dst,.call ⟨.builtin .append,#[x,y],#[T,T]⟩,ty,pos,after,guard⟩ aV L R (λv E R'=>∃o:gT,v=(⟨o,p.l++[a]⟩:J aY).val/\(⟨o,p.l++[a]⟩:J aY).ok gC f/\F ⟨o,p.l++[a]⟩=E/\R=R'):=by
 obtain⟨A,B,b3,hR⟩:=uU.split;subst b3;have mQ:(p.l.length+1)*mX<=140737488355328:=HU (aB2 _ (Nat.le_succ _)) MQ;have DO:p.l.length+1<=140737488355328:=HU (aBW _ (Nat.succ_pos _)) MQ;have Fg:aV x=p.o.val p.l.length:=by rw[K,gT.aPu bM];rfl
 have:=a74 (dst:=dst) (ty:=ty) (pos:=pos) (after:=after) (guard:=guard) M dF c6 A1 Fg bM (aFy A _ B) aF D G D mQ;intro c w cW a1A next Q gK
 refine this c w cW a1A next Q ?_
 rintro v E R' w' ⟨g,cap,spare,rfl,xU,rfl,rfl⟩ pL;have e:p.l.flatMap f++f a=(p.l++[a]).flatMap f:=by simp
 rw[e]at xU;have aZ:(p.l++[a]).length=p.l.length+1:=by simp
 exact aOA
end
def Qo{aY:Type}{f:aY->List Value}(l:List aY):(l.map f).flatten=l.flatMap f:=by rw[List.flatMap_def]
def c5.ZI{aY:Type}{c:sH}{L:aW}{R:aP}{w:World}{T:TypeId}{f:aY->List Value}{aI:Nat}{p:J aY}{eE:aP}(h:c5 c (p.L T f++L) R w)(bM:p.ok aI f)(aH: ∀x,(f x).length=aI)(jY:0<aI)
 (mA:∀s∈eE,aN s R):c5 c L (p.W.eJ aI f eE::R) w:=by
 obtain⟨o,l⟩:=p;cases o with
 |nil=>
  obtain⟨G,U⟩:=bM;have aZ:l=[]:=NJ G;subst aZ;obtain⟨⟨aD,bF,bE⟩,cM,Y⟩:=h;refine⟨⟨aD,⟨bF.lC,bF.own,bF.pT,bF.nT,λr O=>?_⟩,bE⟩,cM,Y⟩;rcases List.mem_cons.1 O with rfl|O;·refine .mk rfl (rW _) (by simp[gT.cap]) eY (.inl rfl) (λs aF=> ?_);obtain⟨r,O,M2⟩:=mA s aF;exact(bF.nH r O).sub M2
  ·exact bF.nH r O
 |own g cap spare=>
  obtain⟨G,U,aO,bW⟩:=bM;dsimp only at G U aO bW;have:=h.a1P (b:=g) (cs:=l.flatMap f++spare) (T:=T) (aI:=aI) (len:=l.length) (cap:=cap) (rows:=l.map f) (eE:=eE) eY U (by simp only[maxLen]at aO;omega) (by simp;intro r _;exact aH r) jY
   (by rw[Qo,<-G,List.take_left'];rfl) mA
  exact this
def c5.aKM{aY:Type}{c:sH}{L:aW}{w:World}{T:TypeId}{f:aY->List Value}{aI:Nat}{sub:aY->eT}(aH:∀x,(f x).length=aI)(jY:0<aI):∀(l:List (J aY)) {R:aP},c5 c (l.flatMap (J.L T f)++L) R w->(∀p∈l,p.ok aI f)->
 (∀p∈l,∀x∈p.l,aN (sub x) R)->∃S:aP,(∀p∈l,aN (p.W.eJ aI f (p.l.map sub)) S)/\c5 c L (S++R) w
 |[],R,h,_,_=>⟨[],by simp,by simpa using h⟩
 |p::l,R,h,bM,aF=>by
  rw[vZ,kF]at h
  have G:=h.ZI (eE:=p.l.map sub) (bM p eY) aH jY (λs qO=>by
   obtain⟨x,K,rfl⟩:=List.mem_map.1 qO
   exact aF p eY x K)
  obtain⟨S,U,aO⟩:=c5.aKM aH jY l G (λq bZ=>bM q (by simp[bZ])) (λq bZ x K=>by
   obtain⟨r,O,S5⟩:=aF q (by simp[bZ]) x K
   exact⟨r,by simp[O],S5⟩)
  refine⟨S++[p.W.eJ aI f (p.l.map sub)],λq bZ=>?_,by simpa using aO⟩
  rcases List.mem_cons.1 bZ with rfl|bZ
  ·exact⟨_,by simp,.lK⟩
  ·obtain⟨r,O,S5⟩:=U q bZ
   exact⟨r,by simp[O],S5⟩
def c5.aKN{aY:Type}{c:sH}{L:aW}{w:World}{T:TypeId}{f:aY->List Value}{aI:Nat}(aH:∀x,(f x).length=aI)(jY:0<aI):∀(l:List (J aY)) {R:aP},c5 c (l.flatMap (J.L T f)++L) R w->(∀p∈l,p.ok aI f)->
 ∃S:aP,(∀p∈l,aN (p.W.eJ aI f []) S)/\c5 c L (S++R) w
 |[],R,h,_=>⟨[],by simp,by simpa using h⟩
 |p::l,R,h,bM=>by
  rw[vZ,kF]at h
  have G:=h.ZI (eE:=[]) (bM p eY) aH jY (λs qO=>by cases qO)
  obtain⟨S,U,aO⟩:=c5.aKN aH jY l G (λq bZ=>bM q (by simp[bZ]))
  refine⟨S++[p.W.eJ aI f []],λq bZ=>?_,by simpa using aO⟩
  rcases List.mem_cons.1 bZ with rfl|bZ
  ·exact⟨_,by simp,.lK⟩
  ·obtain⟨r,O,S5⟩:=U q bZ
   exact⟨r,by simp[O],S5⟩
def Ik{P n code t L R}{Q:fR}(h:∀c w,c5 c L R w->∃E R',c5 c E R' w/\cO P n code t E R' Q):cO P n code t L R Q:=λc a w aH aF=>by
 obtain⟨E,R',qO,bU⟩:=h c w aF
 exact bU c a w aH qO
def aFe{aY:Type}{P n code t L R}{Q:fR}{T:TypeId}{f:aY->List Value}{aI:Nat}{p:J aY}(eE:aP)(bM:p.ok aI f)(aH: ∀x,(f x).length=aI)(jY:0<aI)(mA: ∀s∈eE,aN s R)
 (h:cO P n code t L (p.W.eJ aI f eE::R) Q):cO P n code t (p.L T f++L) R Q:=
 Ik λ_ _ aF=>⟨_,_,aF.ZI bM aH jY mA,h⟩
def aSQ{aY:Type}{P n code t L R}{Q:fR}{T:TypeId}{f:aY->List Value}{aI:Nat}{A:aW}{l:List (J aY)}(sub:aY->eT)(aH: ∀x,(f x).length=aI)(jY:0<aI)(bM: ∀p∈l,p.ok aI f)(aF: ∀p∈l,∀x∈p.l,aN (sub x) R)
 (h:∀S:aP,(∀p∈l,aN (p.W.eJ aI f (p.l.map sub)) S)->cO P n code t (A++L) (S++R) Q):cO P n code t (A++(l.flatMap (J.L T f)++L)) R Q:=by
 refine Ik λc w cW=>?_;have aG:(A++(l.flatMap (J.L T f)++L)).Perm (l.flatMap (J.L T f)++(A++L)):=by exact a4A
 obtain⟨S,G,U⟩:=c5.aKM aH jY l (cW.yN aG) bM aF;exact⟨_,_,U,h S G⟩
def aH1{aY:Type}{P n code t L R}{Q:fR}{T:TypeId}{f:aY->List Value}{aI:Nat}{A:aW}{l:List (J aY)}(aH: ∀x,(f x).length=aI)(jY:0<aI)(bM: ∀p∈l,p.ok aI f)
 (h:∀S:aP,(∀p∈l,aN (p.W.eJ aI f []) S)->cO P n code t (A++L) (S++R) Q):cO P n code t (A++(l.flatMap (J.L T f)++L)) R Q:=by
 refine Ik λc w cW=>?_;have aG:(A++(l.flatMap (J.L T f)++L)).Perm (l.flatMap (J.L T f)++(A++L)):=by exact a4A
 obtain⟨S,G,U⟩:=c5.aKN aH jY l (cW.yN aG) bM;exact⟨_,_,U,h S G⟩
def rY{aY:Type}{P n code t L R}{Q:fR}{T:TypeId}{f:aY->List Value}{aI:Nat}{A:aW}{p:J aY}(eE:aP)(aH: ∀x,(f x).length=aI)(jY:0<aI)(bM:p.ok aI f)(aF: ∀s∈eE,aN s R)
 (h:cO P n code t (A++L) (p.W.eJ aI f eE::R) Q):cO P n code t (A++(p.L T f++L)) R Q:=by
 refine Ik λc w cW=>?_;have aG:(A++(p.L T f++L)).Perm (p.L T f++(A++L)):=by exact a4A
 exact⟨_,_,c5.ZI (cW.yN aG) bM aH jY aF,h⟩
def Oy{P n code t L R}{Q:fR}{A:aW}{b:Nat}{cs:List Value}{T:TypeId}{aI len cap:Nat}{rows:List (List Value)}{eE:aP}
 (aZ:rows.length=len) (bU:len<=cap) (a1:cap<9223372036854775808) (cE:∀r∈rows,r.length=aI) (aG:0<aI) (nU:cs.take (len*aI)=rows.flatten) (mA:∀s∈eE,aN s R)
 (h:cO P n code t (A++L) (.mk aI (some ⟨b,0,none⟩) len cap rows eE::R) Q):cO P n code t (A++(⟨b,cs,T⟩::L)) R Q:=
 Ik λ_ _ cW=>⟨_,_,c5.a1P (cW.yN Wg) aZ bU a1 cE aG nU mA,h⟩
def pC{aY:Type}{T:TypeId}{f:aY->List Value}:(J.nil:J aY).L T f=[]:=rfl
def e7{P n code t L E R}{Q:fR}(h:L=E)(k:cO P n code t E R Q):cO P n code t L R Q:=h▸k
def aDo{aY:Type}{f:aY->List Value}{aI:Nat}(aH:∀x,(f x).length=aI):∀(l:List aY) (i j:Nat) (x vY:aY) (vs:List Value),j+vs.length<=aI->l[i]?=some x->(f x).take j++vs++(f x).drop (j+vs.length)=f vY->
 (l.flatMap f).take (i*aI+j)++vs++(l.flatMap f).drop (i*aI+j+vs.length)=(l.set i vY).flatMap f
 |[],i,j,x,vY,vs,_,h,_=>by simp at h
 |y::l,0,j,x,vY,vs,a6,h,aF=>by
  simp only[aBX,Mw]at h
  subst h
  have bB:=aH y
  rw[vZ,aB5,vZ,<-aF,Nat.zero_mul,K7]
  rw[a3O D,aPy D]
  simp only[kF]
 |y::l,i+1,j,x,vY,vs,a6,h,aF=>by
  have cA:=aDo aH l i j x vY vs a6 Bg aF
  have bB:=aH y
  have dH:(i+1)*aI+j=aI+(i*aI+j):=by rw[K2];omega
  rw[vZ,List.set_cons_succ,vZ,dH]
  rw[show aI+(i*aI+j)=(f y).length+(i*aI+j) by rw[bB],List.take_length_add_append]
  rw[show(f y).length+(i*aI+j)+vs.length=(f y).length+(i*aI+j+vs.length) by omega,List.drop_length_add_append]
  rw[<-cA]
  simp only[kF]
def J.a3p{aY:Type}{aI:Nat}{f:aY->List Value}{p:J aY}(bM:p.ok aI f){i:Nat}(aB:i<p.l.length):∃g cap spare,p.o=.own g cap spare:=by
 cases cM:p.o with
 |nil=>rw[J.ok,cM]at bM;have:=bM.1;omega
 |own g cap spare=>exact⟨g,cap,spare,rfl⟩
def tB.mem{aY:Type}{T:TypeId}{f:aY->List Value}{p:J aY}{L:aW}{F:J aY->aW}(h:tB T f p L F){g cap:Nat}{spare:List Value}(cM:p.o=.own g cap spare):(⟨g,p.l.flatMap f++spare,T⟩:bQ)∈L:=by obtain⟨A,B,b3,_⟩:=h.split;rw[b3,J.L,cM];simp[gT.L]
section
variable{P:Program}{aV:Operand->Value}{L:aW}{R:aP}{dst:Option Tmp}{ty:TypeId}{pos:String}{after:Array Edge}{guard:Option (Nat×Bool)}(M:nN P){T:TypeId}{x y:Operand}{aY:Type}{f:aY->List Value}{p:J aY}{F:J aY->aW}
def iV{k:IntKind}{a:Int}{e n gC bt z mX z2 eK}{fl pJ:List (Nat×Nat)}{i:Nat}(p:J aY)(f:aY->List Value)(dF:g5 M.gD T=some ⟨.slice e,n,fl,bt,z⟩)(c6:g5 M.gD e=some ⟨eK,gC,pJ,mX,z2⟩)
 (K:aV x=p.val) (bB:aV y=.int k a) (bM:p.ok gC f) (aB:a=(i:Int)) (jT:i<p.l.length):
 cI P ⟨dst,.indexAddr T x y,ty,pos,after,guard⟩ aV L R (.pointer (some ⟨xJ p.o.r5,n0 p.o.r5 gC i 0,none⟩)):=by obtain⟨g,cap,spare,cM⟩:=J.a3p bM jT;rw[cM];exact jF M dF c6 (by rw[K,J.val,cM];rfl) bB aB jT
def aDi{c:sH}{w:World}{nY:TypeId}{aI i:Nat}{sE:aY}(aF:c5 c L R w)(uU:tB nY f p L F)(bM:p.ok aI f)(aH:∀x,(f x).length=aI)(O:p.l[i]?=some sE){j:Nat}{v:Value}(a6:(f sE)[j]?=some v):w.cell? ⟨xJ p.o.r5,n0 p.o.r5 aI i j,none⟩=some v:=by obtain⟨g,cap,spare,cM⟩:=J.a3p bM (List.getElem?_eq_some_iff.1 O).1;rw[cM];have:=T6 aF (uU.mem cM) (n0 (some ⟨g,0,none⟩) aI i j);rw[show xJ (gT.own g cap spare).r5=g from rfl,show(gT.own g cap spare).r5=some ⟨g,0,none⟩from rfl,this];exact aIV aH O a6
def rX{n aI i j:Nat}{fl bt z v}{gK:H3}{nY:TypeId}{sE:aY}(p:J aY)(K:aV x= .pointer (some ⟨xJ p.o.r5,n0 p.o.r5 aI i j,none⟩))(dF:g5 M.gD T=some ⟨gK,n,fl,bt,z⟩)(Y:gK.isAgg=false)
 (uU:tB nY f p L F) (bM:p.ok aI f) (aH:∀x,(f x).length=aI) (O:p.l[i]?=some sE) (a6:(f sE)[j]?=some v):cI P ⟨dst,.load T x,ty,pos,after,guard⟩ aV L R v:=λc w cW=>by
 have:=a7M (P:=P) (w:=w) (M.ok _ _ dF) Y (v:=v) (aDi cW uU bM aH O a6)
 simp[execOp,K,Instr.loadAt,Instr.sureAddr,this]
def a0U{n aI i j:Nat}{fl bt z}{gK:H3}{nY:TypeId}{sE:aY}{row:List Value}(p:J aY)(K:aV x= .pointer (some ⟨xJ p.o.r5,n0 p.o.r5 aI i j,none⟩))(dF:g5 M.gD T=some ⟨gK,n,fl,bt,z⟩)(Y:gK.isAgg=true)
 (uU:tB nY f p L F) (bM:p.ok aI f) (aH:∀x,(f x).length=aI) (O:p.l[i]?=some sE) (cS:sub (f sE) j n=row) (bA:row.length=n):cI P ⟨dst,.load T x,ty,pos,after,guard⟩ aV L R (.agg row.toArray):=λc w cW=>by
 have:=a0c (P:=P) (w:=w) (M.ok _ _ dF) Y (b:=xJ p.o.r5) (o:=n0 p.o.r5 aI i j) (row:=row) bA (λaA3 v a6=>by
  rw[<-cS,sub,XV]at a6
  split at a6
  ·have:=aDi cW uU bM aH O (j:=j+aA3) (v:=v) (by simpa using a6)
   rw[<-this]
   simp[n0,a36]
  ·cases a6)
 simp[execOp,K,Instr.loadAt,Instr.sureAddr,this]
def aFv{n aI i j:Nat}{fl bt z}{gK:H3}{nY:TypeId}{sE NI:aY}{vs:List Value}{val:Value}(p:J aY)(dF:g5 M.gD T=some ⟨gK,n,fl,bt,z⟩)(K:aV x= .pointer (some ⟨xJ p.o.r5,n0 p.o.r5 aI i j,none⟩))(bB:aV y=val)(Z9:val.cells=vs.toArray)(bA:vs.length=n)
 (uU:tB nY f p L F) (bM:p.ok aI f) (aH:∀x,(f x).length=aI) (O:p.l[i]?=some sE) (o6:j+vs.length<=aI) (aF:(f sE).take j++vs++(f sE).drop (j+vs.length)=f NI) (G:vs.all (·.oneCell')=true):
 dR P ⟨none,.store T x y,ty,pos,after,guard⟩ aV L R (λ_ hA R'=>F ⟨p.o,p.l.set i NI⟩=hA/\R=R'):=by
 intro c w cW a next Q gK
 obtain⟨g,cap,spare,cM⟩:=J.a3p bM (List.getElem?_eq_some_iff.1 O).1;obtain⟨A,B,b3,hR⟩:=uU.split;have sU:=C0 aH p.l;have En:=(List.getElem?_eq_some_iff.1 O).1;have b3j:(i+1)*aI<=p.l.length*aI:=Wi _ En;rw[K2]at b3j;have I0:=aDo aH p.l i j sE NI vs o6 O aF;have nU:(p.l.flatMap f++spare).take (i*aI+j)++vs++(p.l.flatMap f++spare).drop (i*aI+j+vs.length)=(p.l.set i NI).flatMap f++spare:=by rw[a3O D,aPy D,<-I0];simp only[kF]
 have cZ:q0 g (p.l.flatMap f++spare) nY ((p.l.set i NI).flatMap f++spare) L (F ⟨p.o,p.l.set i NI⟩):=by rw[b3,hR,J.L,J.L,cM];simp only[gT.L,kF,mK,nJ];exact .wJ .lK
 have WQ:=a65 (P:=P) (T:=T) (o:=i*aI+j) (vs:=vs) cW (M.ok _ _ dF) bA (by rw[nU];exact cZ) (by rw[hL,sU];omega) (List.all_eq_true.1 G) (val:=val) Z9;rw[nU]at WQ;refine aEo (w':=w.setRow g _) ?_ (gK undef _ R _ ⟨rfl,rfl⟩ (cW.setRow cZ));rw[cM]at K;have Fg:aV x=.pointer (some ⟨g,i*aI+j,none⟩):=by rw[K];simp[gT.r5,xJ,n0,Jo]
 simp[execOp,Fg,bB,Instr.storeAt,Instr.sureAddr,WQ]
def mV{n aI i j:Nat}{fl bt z}{gK:H3}{nY:TypeId}{sE:aY}{v:Value}(p:J aY)(NI:aY)(dF:g5 M.gD T=some ⟨gK,n,fl,bt,z⟩)(K:aV x= .pointer (some ⟨xJ p.o.r5,n0 p.o.r5 aI i j,none⟩))(bB:aV y=v)(bA:n=1)
 (uU:tB nY f p L F) (bM:p.ok aI f) (aH:∀x,(f x).length=aI) (O:p.l[i]?=some sE) (o6:j<aI) (aF:(f sE).set j v=f NI) (G:v.oneCell'=true):
 dR P ⟨none,.store T x y,ty,pos,after,guard⟩ aV L R (λ_ hA R'=>F ⟨p.o,p.l.set i NI⟩=hA/\R=R'):=by
 have bU:v.cells=#[v]:=by cases v<;>first|rfl|(simp[Value.oneCell']at G)
 refine aFv (vs:=[v]) M p dF K bB bU (by simp[bA]) uU bM aH O o6 ?_ Xh;rw[rE,aEM _ _ _ (by rw[aH];exact o6),aF]
def N4{n aI i j:Nat}{fl bt z}{gK:H3}{nY:TypeId}{sE:aY}{vs:List Value}(p:J aY)(NI:aY)(dF:g5 M.gD T=some ⟨gK,n,fl,bt,z⟩)(K:aV x= .pointer (some ⟨xJ p.o.r5,n0 p.o.r5 aI i j,none⟩))(bB:aV y= .agg vs.toArray)(bA:vs.length=n)
 (uU:tB nY f p L F) (bM:p.ok aI f) (aH:∀x,(f x).length=aI) (O:p.l[i]?=some sE) (o6:j+vs.length<=aI) (aF:(f sE).take j++vs++(f sE).drop (j+vs.length)=f NI) (G:vs.all (·.oneCell')=true):
 dR P ⟨none,.store T x y,ty,pos,after,guard⟩ aV L R (λ_ hA R'=>F ⟨p.o,p.l.set i NI⟩=hA/\R=R'):=
 aFv M p dF K bB rfl bA uU bM aH O o6 aF G
end
def J.yS{aY:Type}{f:aY->List Value}{aI i:Nat}{p:J aY}{x:aY}(aH:∀x,(f x).length=aI)(bM:p.ok aI f):(⟨p.o,p.l.set i x⟩:J aY).ok aI f:=by
 have dH:(p.l.set i x).length=p.l.length:=by simp
 have eH:((p.l.set i x).flatMap f).length=(p.l.flatMap f).length:=by rw[C0 aH,C0 aH,dH]
 rw[J.ok]at bM|-;cases cM:p.o with
 |nil=>rw[cM]at bM;have:p.l=[]:=NJ bM.1;rw[this];exact⟨rfl,rfl⟩
 |own g cap spare=>rw[cM]at bM;obtain⟨G,U,aO,bW⟩:=bM;refine⟨by rw[eH,dH];exact G,by rw[dH];exact U,aO,?_⟩;rw[hL,eH,<-hL];exact bW
def J.tU{aY:Type}{f:aY->List Value}{aI:Nat}{o:gT}{l DV:List aY}(aH:∀x,(f x).length=aI)(bM:(⟨o,l⟩:J aY).ok aI f)(h:DV.length=l.length):(⟨o,DV⟩:J aY).ok aI f:=by
 have eH:(DV.flatMap f).length=(l.flatMap f).length:=by rw[C0 aH,C0 aH,h]
 rw[J.ok]at bM|-;dsimp only at bM|-;cases o with
 |nil=>have:DV=[]:=NJ (by rw[h];exact bM.1);rw[this];exact⟨rfl,rfl⟩
 |own g cap spare=>obtain⟨G,U,aO,bW⟩:=bM;refine⟨by rw[eH,h];exact G,by rw[h];exact U,aO,?_⟩;rw[hL,eH,<-hL];exact bW
def J.aOi{aY:Type}{o:gT}{l:List aY}{i:Nat}{x:aY}:(⟨o,l.set i x⟩:J aY).val=(⟨o,l⟩:J aY).val:=by simp[J.val]
def YF{fn:Func}{P:Program}{t:Nat->Value}{L:aW}{R:aP}(O:fn.results=#[]):∀c n a w,mD n t a->c5 c L R w->(results fn a.tmps).run P w=.ok (.tuple #[]) w:=by intro c n a w _ _;rw[Qp,O];simp
def R5{aY:Type}{f:aY->List Value}{z:List Value}{b n:Nat}{T:TypeId}{x:aY}(dI:z=f x)(L:aW):⟨b,y1 z n,T⟩::L=(⟨.own b n [],List.replicate n x⟩:J aY).L T f++L:=by rw[a5d dI n];simp[J.L,gT.L]
def BT{aY:Type}{f:aY->List Value}{aI b n:Nat}{x:aY}(aH:∀x,(f x).length=aI)(bA:n<=maxLen):(⟨.own b n [],List.replicate n x⟩:J aY).ok aI f:=by
 refine⟨?_,by simp,bA,?_⟩;·rw[C0 aH]
 ·rw[rV,C0 aH];simp
def Qm{aY:Type}{f:aY->List Value}{cs:List Value}{b n:Nat}{T:TypeId}(l:List aY)(nU:cs=l.flatMap f)(L:aW):⟨b,cs,T⟩::L=(⟨.own b n [],l⟩:J aY).L T f++L:=by subst nU;simp[J.L,gT.L]
def Dc{aY:Type}{f:aY->List Value}{aI b n:Nat}{l:List aY}(aH:∀x,(f x).length=aI)(aZ:l.length=n)(bA:n<=maxLen):(⟨.own b n [],l⟩:J aY).ok aI f:=by
 subst aZ;refine⟨?_,by simp,bA,?_⟩;·rw[C0 aH]
 ·rw[rV,C0 aH]
inductive nA:aW->aW->aW->Prop
 |nil:nA [] [] []
 |aC {L:aW}:nA L L []
 |xL {x:bQ} {A B C:aW} (h:nA A B C):nA (x::A) (x::B) C
 |MJ {x:bQ} {A B C:aW} (h:nA A B C):nA (x::A) B (x::C)
 |vH {X A B C:aW} (h:nA A B C):nA (X++A) (X++B) C
 |Sc {X A B C:aW} (h:nA A B C):nA (X++A) B (X++C)
def nA.yN{A B C:aW}(h:nA A B C):A.Perm (B++C):=by
 induction h with
 |nil=>exact .refl _
 |aC=>rw[rV]
 |xL _ cA=>exact cA.cons _
 | @MJ x A B C _ cA=>exact(cA.cons x).trans List.perm_middle.symm
 | @vH X A B C _ cA=>rw[kF];exact cA.append_left _
 | @Sc X A B C _ cA=>refine(cA.append_left X).trans ?_;exact a4A
def aM.a3w{P:Program}{f:FuncId}{args:Array Value}{A B L:aW}{R:aP}{Post:n8}(B9:nA A B L)(h:aM P f args L R Post):aM P f args A R (λv hA R'=>∃E,B++E=hA/\Post v E R'):=by have aG:=B9.yN;refine⟨h.1,λw aD bF=>?_⟩;have oQ:Holds (B++L) aD R w:=⟨(aG.map _).nodup_iff.1 bF.lC,λe V=>bF.own e (aG.mem_iff.2 V),λe V=>bF.pT e (aG.mem_iff.2 V),bF.nT,bF.nH⟩;have b3:Holds L aD R w:=⟨(List.nodup_append.1 (by have:=oQ.lC;rwa[CO]at this)).2.1,λe V=>oQ.own e (kE _ V),λe V=>oQ.pT e (kE _ V),oQ.nT,oQ.nH⟩;refine(h.2 w aD b3).mono λe w' ⟨v,E,R',V,WK,cW⟩=>⟨v,B++E,R',V,⟨E,rfl,WK⟩,?_⟩;have U:=c5.frame oQ cW;exact aOZ
def aM.TB{P:Program}{f:FuncId}{args:Array Value}{A B L:aW}{R S:aP}{Post:Value->aW->Prop}(B9:nA A B L)
 (fL:∀w,∀aD:Nat->Prop,Holds (B++L) aD R w->∀s∈S,p2 w (λb=>aD b\/∃e∈B,e.b=b) s)
 (h:aM P f args L (S++R) (λv E R'=>Post v E/\S++R=R')):aM P f args A R (λv hA R'=>∃E,B++E=hA/\Post v E/\R=R'):=by
 refine⟨h.1,λw aD bF=>?_⟩;have aG:=B9.yN;have oQ:Holds (B++L) aD R w:=⟨(aG.map _).nodup_iff.1 bF.lC,λe V=>bF.own e (aG.mem_iff.2 V),λe V=>bF.pT e (aG.mem_iff.2 V),bF.nT,bF.nH⟩;have xT:=oQ.lC;rw[CO,Ms]at xT;have a9Y:∀e∈L,¬∃r7∈B,r7.b=e.b:=λe V ⟨r7,uR,aT⟩=>xT.2.2 r7.b (List.mem_map.2 ⟨r7,uR,rfl⟩) e.b (List.mem_map.2 ⟨e,V,rfl⟩) aT;have b3:Holds L (λb=>aD b\/∃e∈B,e.b=b) (S++R) w:=by
  refine⟨xT.2.1,λe V=>oQ.own e (kE _ V),λe V bE=>?_,λb aT=>?_,λr O=>?_⟩;·
   rcases bE with bE|bE;·exact oQ.pT e (kE _ V) bE
   ·exact a9Y e V bE
  ·
   rcases aT with aT|⟨e,V,rfl⟩;·exact oQ.nT b aT
   ·exact oQ.lt (oI _ V)
  ·
   rcases List.mem_append.1 O with O|O;·exact fL w aD oQ r O
   ·exact(oQ.nH r O).mono (λ_ h=>.inl h) (λ_ _=>rfl)
 refine(h.2 w _ b3).mono ?_;rintro e w' ⟨v,E,R',rfl,⟨WK,rfl⟩,cW⟩;refine⟨v,B++E,R,rfl,⟨E,rfl,WK,rfl⟩,?_⟩;obtain⟨⟨EH,Kv,j3⟩,cM,Y⟩:=cW
 -- what the lent blocks hold has not changed
 have qK:∀e∈B,w'.heap[e.b]?=w.heap[e.b]?:=λe V=>Y.block e.b (oQ.lt (oI _ V)) (λ⟨r7,uR,aT⟩=>a9Y r7 uR ⟨e,V,aT.symm⟩);have b0R:∀r7∈E,∀e∈B,r7.b≠e.b:=λr7 uR e V aT=>by
  rcases cM r7 uR with G|G;·obtain⟨eH,DP,DO⟩:=G;exact a9Y eH DP ⟨e,V,by rw[DO,aT]⟩
  ·rw[aT]at G;have:=oQ.lt (oI L V);simp only at G;omega
 have b04:∀b,aD b->w'.heap[b]?=w.heap[b]?:=λb aT=>Y.block b (oQ.nT b aT) (λ⟨e,V,Eg⟩=>oQ.pT e (kE _ V) (Eg▸aT));refine⟨⟨aD,⟨?_,λe V=>?_,λe V bE=>?_,λb aT=>Gr (oQ.nT b aT) Y.size,λr O=>(oQ.nH r O).mono (λ_ h=>h) b04⟩,λb aT=>.inl aT⟩,λe V=>?_,⟨Y.os,Y.tape,Y.output,Y.size,λb aT bA=>Y.block b aT (λ⟨e,V,Eg⟩=>bA ⟨e,aG.mem_iff.2 (kE _ V),Eg⟩)⟩⟩;·rw[CO,Ms];refine⟨xT.1,Kv.lC,λx K y bB Ae=>?_⟩;obtain⟨e,V,rfl⟩:=List.mem_map.1 K;obtain⟨r7,uR,rfl⟩:=List.mem_map.1 bB;exact b0R r7 uR e V Ae.symm
 ·
  rcases List.mem_append.1 V with V|V;·rw[qK e V];exact oQ.own e (oI _ V)
  ·exact Kv.own e V
 ·
  rcases List.mem_append.1 V with V|V;·exact oQ.pT e (oI _ V) bE
  ·
   rcases cM e V with⟨eH,DP,DO⟩|G;·exact oQ.pT eH (kE _ DP) (by rw[DO];exact bE)
   ·have:=oQ.nT _ bE;simp only at G;omega
 ·
  rcases List.mem_append.1 V with V|V;·exact .inl ⟨e,aG.mem_iff.2 (oI _ V),rfl⟩
  ·
   rcases cM e V with⟨eH,DP,DO⟩|G;·exact .inl ⟨eH,aG.mem_iff.2 (kE _ DP),DO⟩
   ·exact .inr G
def aUF{aY:Type}{f:aY->List Value}{aI:Nat}{T:TypeId}{p:J aY}{L:aW}{aD:Nat->Prop}{R:aP}{w:World}{eE:aP}(bF:Holds L aD R w){EH:Nat->Prop}(jQ: ∀e∈p.L T f,e∈L/\EH e.b)(bM:p.ok aI f)(aH: ∀x,(f x).length=aI)(jY:0<aI)
 (mA:∀s∈eE,p2 w EH s):p2 w EH (p.W.eJ aI f eE):=by
 cases cM:p.o with
 |nil=>
  rw[J.ok,cM]at bM;have aZ:p.l=[]:=NJ bM.1;refine .mk eY ?_ ?_ (by dsimp only;rw[aZ];simp) (.inl (by dsimp only;rw[aZ];rfl)) mA;·dsimp only;rw[aZ,cM];exact rW _
  ·dsimp only;rw[cM];simp[gT.cap]
 |own g cap spare=>
  have xU:=bM;rw[J.ok,cM]at bM;obtain⟨G,U,aO,bW⟩:=bM;obtain⟨a1,bE⟩:=jQ ⟨g,p.l.flatMap f++spare,T⟩ (by rw[J.L,cM];simp[gT.L]);refine .mk eY ?_ ?_ (by intro r O;obtain⟨x,_,rfl⟩:=List.mem_map.1 O;exact aH x) (.inr ⟨g,0,by dsimp only;rw[cM];rfl,bE,λi j aB a6=>?_⟩) mA;·dsimp only;rw[cM];exact U
  ·dsimp only;rw[cM];simp only[maxLen]at aO;simp only[gT.cap];omega
  ·
   dsimp only at aB;have aT:=bF.own _ a1;simp only[QI.FZ]at aT;(have dH:w.cell? ⟨g,0+i*aI+j,none⟩=(p.l.flatMap f++spare)[i*aI+j]?:=by simp[World.cell?,aT]);rw[dH];obtain⟨x,K⟩:=lQ aB;(have aZ:(p.l.flatMap f)[i*aI+j]?=(f x)[j]?:=by rw[a72 aH p.l i j a6,K];rfl);(have b2O:j<(f x).length:=by rw[aH];exact a6);rw[K4,aZ,pW,K];·rfl
   ·rw[w4 b2O]at aZ;exact(List.getElem?_eq_some_iff.1 aZ).1
def E3(x:Int):(aR x).length=1:=rfl
def pA(X B:aW):Prop:=∀e∈X,e∈B
def Hq{X B:aW}:pA X (X++B):=λ_ h=>oI _ h
def Qw{X BV B:aW}(h:pA X B):pA X (BV++B):=λe V=>kE _ (h e V)
def Qj{X B:aW}{z:bQ}(h:pA X B):pA X (z::B):=λe V=>K6 _ (h e V)
def wD{aY:Type}{f:aY->List Value}{aI:Nat}{T:TypeId}{p:J aY}{B L:aW}{aD:Nat->Prop}{R:aP}{w:World}{eE:aP}(bF:Holds (B++L) aD R w)(qK:pA (p.L T f) B)(bM:p.ok aI f)(aH:∀x,(f x).length=aI)(jY:0<aI)(mA:∀s∈eE,aN s R):
 p2 w (λb=>aD b\/∃e∈B,e.b=b) (p.W.eJ aI f eE):=
 aUF bF (λe V=>⟨oI _ (qK e V),.inr ⟨e,qK e V,rfl⟩⟩) bM aH jY (λs aF=>by
  obtain⟨r,O,Y⟩:=mA s aF
  exact((bF.nH r O).sub Y).mono (λ_ h=>.inl h) (λ_ _=>rfl))
def aM.b6o{P:Program}{f:FuncId}{args:Array Value}{L H0:aW}{R:aP}{Post:n8}(aG:L.Perm H0)(h:aM P f args L R Post):aM P f args H0 R Post:=by
 refine⟨h.1,λw aD bF=>?_⟩;have oQ:Holds L aD R w:=⟨(aG.map _).nodup_iff.2 bF.lC,λe V=>bF.own e (aG.mem_iff.1 V),λe V=>bF.pT e (aG.mem_iff.1 V),bF.nT,bF.nH⟩;refine(h.2 w aD oQ).mono ?_;rintro e w' ⟨v,E,R',rfl,WK,cW⟩;refine⟨v,E,R',rfl,WK,?_⟩;obtain⟨⟨EH,Kv,j3⟩,cM,Y⟩:=cW;have conv:∀b,wU L b↔wU H0 b:=λb=>⟨λ⟨e,V,aT⟩=>⟨e,aG.mem_iff.1 V,aT⟩,λ⟨e,V,aT⟩=>⟨e,aG.mem_iff.2 V,aT⟩⟩
 exact⟨⟨EH,Kv,λb aT=>(j3 b aT).imp id (Or.imp id (conv b).1)⟩,λe V=>(cM e V).imp (conv _).1 id,⟨Y.os,Y.tape,Y.output,Y.size,λb aT bA=>Y.block b aT (λh=>bA ((conv b).1 h))⟩⟩
def aWn{X:aW}{a b:bQ}:(a::b::(X++[])).Perm (X++(a::b::[])):=by simpa using(Gj (l₁:=[a,b]) (l₂:=X))
def aG1{aY:Type}{b n:Nat}{x:aY}:(⟨.own b n [],List.replicate n x⟩:J aY).val=.slice (some ⟨b,0,none⟩) n n:=by simp[J.val,gT.r5,gT.cap]
def u7{aY:Type}{b n:Nat}{l:List aY}(h:l.length=n):Value.slice (some ⟨b,0,none⟩) n n=(⟨.own b n [],l⟩:J aY).val:=by simp[J.val,gT.r5,gT.cap,h]
def Yc{lH:Type}(ws:List Nat)(t0:Nat->Value)(a7:e0 lH)(Q:fR):fR
 | .normal,t,L,R=>∃g,kH ws t0 t/\BX t (a7.rT g)/\(a7.L g).Sublist L/\∀r∈a7.R g,aN r R
 |e,t,L,R=>Q e t L R
def a0j{lH:Type}{ws:List Nat}{t0 t:Nat->Value}{L:aW}{R:aP}{a7:e0 lH}{Q:fR}(h:Q .ret t L R):Yc ws t0 a7 Q .ret t L R:=h
def s9{lH:Type}{ws:List Nat}{t0 t:Nat->Value}{L:aW}{R:aP}{a7:e0 lH}{Q:fR}(g:lH)(cM:kH ws t0 t)(aF:BX t (a7.rT g))(b3:(a7.L g).Sublist L)(b8:∀r∈a7.R g,aN r R):Yc ws t0 a7 Q .normal t L R:=⟨g,cM,aF,b3,b8⟩
def w6{lH:Type}{P n x y t L R}{Q:fR}(ws:List Nat)(a7:e0 lH)(h:cO P n x t L R (Yc ws t a7 Q))(k:∀g c1,cO P n y (yT (xO ws t c1) (a7.rT g)) (a7.L g) (a7.R g) Q):cO P n x t L R (fA P n y Q):=by
 intro c a w aH aF;refine wp_mono (h c a w aH aF) ?_;rintro e a w ⟨n2,t',E,R',bZ,uS,qO⟩;cases e with
 |normal=>
  obtain⟨g,cM,KN,b3,b8⟩:=bZ;have e:yT (xO ws t t') (a7.rT g)=t':=by rw[Oi cM,Jn KN]
  refine⟨trivial,t',E,R',?_,uS,qO⟩;have:=k g t';rw[e]at this;exact sN b3 b8 this
 |_=>exact⟨n2,t',E,R',bZ,uS,qO⟩
def add_zero(a:Addr):a.add 0=a:=by simp[Addr.add]
def aYd(a:Option Addr)(h m s:Nat):sliced a 0 h m s=.slice a h m:=by
 unfold sliced;split;·rfl
 ·
  cases a with
  |none=>rfl
  |some a=>simp[add_zero]
def a6u{P:Program}{aV:Operand->Value}{L:aW}{R:aP}{dst:Option Tmp}{ty:TypeId}{pos:String}{after:Array Edge}{guard:Option (Nat×Bool)}(M:nN P){T:TypeId}{x y:Operand}{k:IntKind}{h:Int}{n len cap:Nat}{gH:Option Addr}{e oR fl bt z eK gC pJ mX z2}
 (dF:g5 M.gD T=some ⟨.slice e,oR,fl,bt,z⟩) (c6:g5 M.gD e=some ⟨eK,gC,pJ,mX,z2⟩) (K:aV x=.slice gH len cap) (bB:aV y=.int k h) (bF:h=(n:Int)) (bA:n<=cap):
 cI P ⟨dst,.slice T x none (some y) none,ty,pos,after,guard⟩ aV L R (.slice gH n cap):=λ_ w _=>by
 have cZ:=LL (M.ok _ _ dF) rfl
 have V:P.elem T=e:=by simp[Program.elem,cZ]
 have M3:P.underlying T=some (.slice (P.elem T)):=by rw[V];exact cZ
 have aF:=run_sizeOf (M.ok _ _ c6) w
 simp only at aF
 subst bF
 have G:=run_slice_h (P:=P) w T gH len cap M3 k (n:Int) D D
 rw[V,aF,rD,tZ,aYd]at G
 simp[execOp,K,bB,run_sliceAt_slice w T _ _ _ _ M3,G]
def aHv{w:World}{aD:Nat->Prop}{aI len cap k:Nat}{a:Option Addr}{rows:List (List Value)}{eE:aP}(h:p2 w aD (.mk aI a len cap rows eE))(Y:k<=len):p2 w aD (.mk aI a k cap (rows.take k) eE):=by
 cases h with
 |mk aZ bU a1 cE O aF=>
  refine .mk EB D a1 (λr O=>cE r (Wh O)) ?_ aF;rcases O with bV|⟨b,off,bX,bE,DC⟩;·exact .inl (by rw[bV];simp)
  ·refine .inr ⟨b,off,bX,bE,λi j aB a6=> ?_⟩;rw[DC i j D a6,XV,if_pos aB]
def aYe{P n code t L R}{Q:fR}{aI len cap:Nat}{a:Option Addr}{rows:List (List Value)}{eE:aP}(k:Nat)(b8:aN (.mk aI a len cap rows eE) R)(Y:k<=len)(h:cO P n code t L (.mk aI a k cap (rows.take k) eE::R) Q):cO P n code t L R Q:=
 a7r (λw aD bF=>by obtain⟨r,O,aF⟩:=b8;exact aHv ((bF r O).sub aF) Y) h
def aEs{aY:Type}{P n code t L R}{Q:fR}{aI:Nat}{f:aY->List Value}{eE:aP}{y:bP aY}(m:Nat)(b8:aN (y.eJ aI f eE) R)(h:cO P n code t L ((⟨y.a,y.cap,y.l.take m⟩:bP aY).eJ aI f eE::R) Q):cO P n code t L R Q:=by
 have G:=aYe (Q:=Q) (t:=t) (L:=L) (P:=P) (n:=n) (code:=code) (y.l.take m).length b8 (by rw[HS];omega);refine G ?_;have e:(y.l.map f).take (y.l.take m).length=(y.l.take m).map f:=by
  rw[HS,<-List.map_take];congr 1;rcases Nat.le_total m y.l.length with h|h;·rw[Nat.min_eq_left h]
  ·rw[Nat.min_eq_right h,yV h,yV (gS _)]
 rw[e];exact h
def Bw{P f args L R}{Post:n8}{aI len cap:Nat}{a:Option Addr}{rows:List (List Value)}{eE:aP}(Tj:∀(xs:Array Value) (w:World),(callFunc f xs).run P w=.ok (.enter f xs) w)(b8:aN (.mk aI a len cap rows eE) R)(h:len<=cap/\cap<9223372036854775808->aM P f args L R Post):aM P f args L R Post:=by refine⟨Tj,λw aD bF=>?_⟩;obtain⟨r,O,mA⟩:=b8;exact(h ((bF.nH r O).sub mA).aKz).2 w aD bF
def aUi{P n all ops t L E R R'}{Q:fR}(b3:E.Sublist L)(b8:∀r∈R',aN r R)(h:dG P n all ops t E R' Q):dG P n all ops t L R Q:=
 λc a w aH aF=>h c a w aH (aF.rU b3 b8)
def aSh{P n all t t0 L E R R' ws HR v}(G:iL t HR=.bool v)(U:kH ws t0 t)(b3:E.Sublist L)(b8:∀r∈R',aN r R):dG P n all [] t L R (e9 ws t0 HR v E R'):=
 aUi b3 b8 (eS (aWT G U))
def aJN{w:World}{aD:Nat->Prop}{aI:Nat}:p2 w aD (.mk aI none 0 0 [] []):=.mk rfl (gS _) aX eY (.inl rfl) eY
def a5f{P n code t L R}{Q:fR}(aI:Nat)(h:cO P n code t L (.mk aI none 0 0 [] []::R) Q):cO P n code t L R Q:=a7r (λ_ _ _=>aJN) h
structure Zp(P:Program)(T:TypeId):Prop where
 eq:∀(a b c d:Int) (w:World),(Op.equalIn 10000 T (.agg #[.int .i64 a,.int .i64 b]) (.agg #[.int .i64 c,.int .i64 d])).run P w=.ok (decide (a=c) && decide (b=d)) w
 guard:P.eqGuardType P.depth T=false
def aRA{P:Program}{T I:TypeId}(G:P.underlying T=some (.struct (P.fieldsOf T)))(U:P.stoodInHeld T=false)(aO:P.eqGuardType P.depth T=false)(bW:(P.fieldsOf T).toList.map (fun f=>(f.name== "_",f.type,f.offset))=[(false,I,0),(false,I,1)])
 (hP:P.underlying I=some (.int .i64)):Zp P T:=by
 refine⟨λa b c d w=>?_,aO⟩;rw[run_equalIn_agg w 9999 T _ _ G U];generalize (P.fieldsOf T).toList=q8 at bW;obtain⟨f,g,rfl⟩:∃f g,q8=[f,g]:=by
  have aZ:=congrArg List.length bW;simp only[pU]at aZ;cases q8 with
  |nil=>cases aZ
  |cons f q8=>cases q8 with
   |nil=>cases aZ
   |cons g q8=>cases q8 with
    |nil=>exact⟨f,g,rfl⟩
    |cons _ _=>cases aZ
 simp only[pV,XS,a3Y,Prod.mk.injEq,and_true]at bW;obtain⟨⟨h5,iQ,f3⟩,g1,oA,g3⟩:=bW;have PU:f.name≠ "_" :=by simpa using h5
 have pT:g.name≠ "_" :=by simpa using g1
 have IM:(isAgg I).run P w=.ok false w:=by simp[isAgg,run_underlying hP]
 have aG:∀(cs:Array Value) (off:Nat) (v:Value),cs[off]?=some v->(part I cs off).run P w=.ok v w:=λcs off v h=>by simp only[part,s5,IM,rD];simp[h]
 have dH:(Op.equalIn 9999 I (.int .i64 a) (.int .i64 c)).run P w=.ok (a==c) w:=run_equalIn_int (P:=P) w 9998 I .i64 .i64 a c hP;have eH:(Op.equalIn 9999 I (.int .i64 b) (.int .i64 d)).run P w=.ok (b==d) w:=run_equalIn_int (P:=P) w 9998 I .i64 .i64 b d hP;have hF:(part I #[Value.int .i64 a,Value.int .i64 b] 0).run P w=.ok (.int .i64 a) w:=aG _ _ _ rfl;have dQ:(part I #[Value.int .i64 c,Value.int .i64 d] 0).run P w=.ok (.int .i64 c) w:=aG _ _ _ rfl;have b6m:(part I #[Value.int .i64 a,Value.int .i64 b] 1).run P w=.ok (.int .i64 b) w:=aG _ _ _ rfl;have b6n:(part I #[Value.int .i64 c,Value.int .i64 d] 1).run P w=.ok (.int .i64 d) w:=aG _ _ _ rfl;rw[Yh]at dH eH;simp only[Op.eqFields,if_pos PU,if_pos pT,iQ,f3,oA,g3,s5,hF,dQ,rD,dH,Sem.run_ite,D8,b6m,b6n,eH];by_cases a16:a=c<;>by_cases b1M:b=d<;>simp[a16,b1M]
section
variable{P:Program}{aV:Operand->Value}{L:aW}{R:aP}{dst:Option Tmp}{ty:TypeId}{pos:String}{after:Array Edge}{guard:Option (Nat×Bool)}{T hN:TypeId}{x y:Operand}{a b c d:Int}
def aFw(dF:Zp P T)(K:aV x=.agg #[.int .i64 a,.int .i64 b])(bB:aV y=.agg #[.int .i64 c,.int .i64 d]):cI P ⟨dst,.binOp .eql T x y hN,ty,pos,after,guard⟩ aV L R (.bool (decide (a=c) && decide (b=d))):=λ_ w _=>by
 have G:=run_eqGuard_agg (P:=P) w .eql T x y #[.int .i64 a,.int .i64 b] #[.int .i64 c,.int .i64 d] dF.guard
 simp only[execOp,K,bB,s5,G,rD,run_eql_struct,dF.eq]
 simp
def aVe(dF:Zp P T)(K:aV x=.agg #[.int .i64 a,.int .i64 b])(bB:aV y=.agg #[.int .i64 c,.int .i64 d]):cI P ⟨dst,.binOp .neq T x y hN,ty,pos,after,guard⟩ aV L R (.bool (!(decide (a=c) && decide (b=d)))):=λ_ w _=>by
 have G:=run_eqGuard_agg (P:=P) w .neq T x y #[.int .i64 a,.int .i64 b] #[.int .i64 c,.int .i64 d] dF.guard
 simp only[execOp,K,bB,s5,G,rD,run_neq_struct,dF.eq]
 simp
end
end Go.Aw
