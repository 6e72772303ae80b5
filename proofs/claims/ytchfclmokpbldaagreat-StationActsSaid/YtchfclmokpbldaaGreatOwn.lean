--By an AI agent.
import Derived.Test.YtchfclmokpbldaaGreatData
set_option linter.all false
set_option maxHeartbeats 0
namespace Go.Aw
open Go
def aAk{aV:Type}{f:aV->List Value}{aR:Nat}(hf: ∀x,(f x).length=aR): ∀(l:List aV) (i j:Nat),j<aR->(l.flatMap f)[i*aR+j]? =(l[i]?).bind λx=>(f x)[j]?
 |[],i,j,_=>by simp
 |x::l,0,j,aY=>by
  rw[EW,HU (by rw[hf];omega)]
  simp
 |x::l,i+1,j,aY=>by
  rw[EW,NM (by rw[hf,PK];omega),hf]
  rw[show(i+1)*aR+j-aR=i*aR+j by rw[PK];omega]
  rw[aAk hf l i j aY]
  simp
def L9{aV:Type}{f:aV->List Value}{aR:Nat}(hf: ∀x,(f x).length=aR): ∀(l:List aV),(l.flatMap f).length=l.length*aR
 |[]=>by simp
 |x::l=>by rw[EW,iD,hf,L9 hf l,sK,PK];omega
def aPL{aV:Type}{f:aV->List Value}{aR:Nat}(hf: ∀x,(f x).length=aR): ∀(l:List aV) (i j:Nat) (x x5:aV) (v:Value),j<aR->l[i]? =some x->(f x).set j v=f x5->(l.flatMap f).set (i*aR+j) v=(l.set i x5).flatMap f
 |[],i,j,x,x5,v,_,h,_=>by simp at h
 |y::l,0,j,x,x5,v,aY,h,hs=>by
  simp only[a8O,Qi]at h
  subst h
  rw[EW,aIa,EW,<-hs,List.set_append_left _ _ (by rw[hf];omega)]
  simp
 |y::l,i+1,j,x,x5,v,aY,h,hs=>by
  rw[EW,aH9,EW,List.set_append_right _ _ (by rw[hf,PK];omega),hf]
  rw[show(i+1)*aR+j-aR=i*aR+j by rw[PK];omega]
  rw[aPL hf l i j x x5 v aY Xu hs]
def aAl(b aR i j:Nat):pJ (some ⟨b,0,none⟩) aR i j=i*aR+j:=by simp[pJ,Tm]
section
variable{aV:Type}{f:aV->List Value}{aR b i j:Nat}{l:List aV}{x x5:aV}{v:Value}{spare:List Value}
def a9I(hf:∀x,(f x).length=aR)(K:l[i]?=some x)(hv:(f x)[j]?=some v):(l.flatMap f)[pJ (some ⟨b,0,none⟩) aR i j]?=some v:=by
 have aY:j<aR:=by have:=(List.getElem?_eq_some_iff.1 hv).1;rw[hf]at this;exact this
 rw[aAl,aAk hf l i j aY,K];exact hv
def b6M(hf:∀x,(f x).length=aR)(K:l[i]?=some x)(aY:j<aR):Nat.blt (pJ (some ⟨b,0,none⟩) aR i j) (l.flatMap f).length=true:=by rw[aAl,L9 hf];have aA:=(List.getElem?_eq_some_iff.1 K).1;have:(i+1)*aR<=l.length*aR:=a2L _ aA;rw[PK]at this;simp;omega
def Kt(hf:∀x,(f x).length=aR)(aY:j<aR)(K:l[i]?=some x)(hs:(f x).set j v=f x5):(l.flatMap f).set (pJ (some ⟨b,0,none⟩) aR i j) v=(l.set i x5).flatMap f:=by rw[aAl];exact aPL hf l i j x x5 v aY K hs
def aJT(hf:∀x,(f x).length=aR)(K:l[i]?=some x)(hv:(f x)[j]?=some v):(l.flatMap f++spare)[pJ (some ⟨b,0,none⟩) aR i j]?=some v:=by have:=a9I (b:=b) hf K hv;rw[HU (List.getElem?_eq_some_iff.1 this).1];exact this
end
def aB5{aV:Type}{f:aV->List Value}{z:List Value}{x:aV}(h:z=f x)(m:Nat):CX z m=(List.replicate m x).flatMap f:=by
 induction m with
 |zero=>rfl
 |succ m cM=>rw[CX,cM,a8w,EW,h]
structure J(aV:Type) where
 o:gZ
 l:List aV
def gZ.oM:gZ->Option Addr
 | .nil=>none
 | .own g _ _=>some ⟨g,0,none⟩
def gZ.cap:gZ->Nat
 | .nil=>0
 | .own _ cap _=>cap
def J.val{aV:Type}(p:J aV):Value:=.slice p.o.oM p.l.length p.o.cap
def J.L{aV:Type}(T:TypeId)(f:aV->List Value)(p:J aV):aP:=p.o.L T (p.l.flatMap f)
def J.ok{aV:Type}(aR:Nat)(f:aV->List Value)(p:J aV):Prop:=p.o.ok aR (p.l.flatMap f) p.l.length
abbrev J.U{aV:Type}(p:J aV):a0 aV:=⟨p.o.oM,p.o.cap,p.l⟩
abbrev J.nil{aV:Type}:J aV:=⟨.nil,[]⟩
def J.g6{aV:Type}{aR:Nat}{f:aV->List Value}:(J.nil:J aV).ok aR f:=⟨rfl,rfl⟩
def gZ.aHV{aR n:Nat}{xs:List Value}{o:gZ}(h:o.ok aR xs n):o.val n=.slice o.oM n o.cap:=by
 cases o with
 |nil=>rw[h.1];rfl
 |own=>rfl
def MH{aV:Type}(p:J aV):List Value:=[p.val]
inductive sR{aV:Type}(T:TypeId)(f:aV->List Value)(p:J aV):aP->(J aV->aP)->Prop
 |mW {B:aP}:sR T f p (p.L T f++B) (λq=>q.L T f++B)
 |xY:sR T f p (p.L T f) (λq=>q.L T f)
 |at {l:List (J aV)} {i:Nat} {B:aP} (h:l[i]?=some p):sR T f p (l.flatMap (J.L T f)++B) (λq=>(l.set i q).flatMap (J.L T f)++B)
 |cons {x:a5} {L:aP} {F:J aV->aP} (h:sR T f p L F):sR T f p (x::L) (λq=>x::F q)
 |xJ {FK L:aP} {F:J aV->aP} (h:sR T f p L F):sR T f p (FK++L) (λq=>FK++F q)
def aQ8{aV:Type}{g:aV->aP}: ∀{l:List aV} {i:Nat} {p:aV},l[i]? =some p->∃A B,l.flatMap g=A++g p++B/\∀q,(l.set i q).flatMap g=A++g q++B
 |[],i,p,h=>by simp at h
 |x::l,0,p,h=>by
  simp only[a8O,Qi]at h
  subst h
  exact⟨[],l.flatMap g,by simp,λq=>by simp⟩
 |x::l,i+1,p,h=>by
  obtain⟨A,B,N,V⟩:=aQ8 (g:=g) (l:=l) (i:=i) (p:=p) Xu
  exact⟨g x++A,B,by simp[N],λq=>by simp[V]⟩
def sR.split{aV:Type}{T:TypeId}{f:aV->List Value}{p:J aV}{L:aP}{F:J aV->aP}(h:sR T f p L F):∃A B,L=A++p.L T f++B/\∀q,F q=A++q.L T f++B:=by
 induction h with
 | @mW B=>exact⟨[],B,by simp,λq=>by simp⟩
 |xY=>exact⟨[],[],by simp,λq=>by simp⟩
 | @«at» l i B h=>obtain⟨A,b1f,N,V⟩:=aQ8 (g:=J.L T f) h;exact⟨A,b1f++B,by simp[N],λq=>by simp[V]⟩
 | @cons x L F _ cM=>obtain⟨A,B,N,V⟩:=cM;exact⟨x::A,B,by simp[N],λq=>by simp[V]⟩
 | @xJ FK L F _ cM=>obtain⟨A,B,N,V⟩:=cM;exact⟨FK++A,B,by simp[N],λq=>by simp[V]⟩
def a9N(A fQ B:aP):J4 fQ (A++fQ++B) (λz6=>A++z6++B):=by
 have h:J4 fQ (A++(fQ++B)) (λz6=>A++(z6++B)):=.xJ .mW;have dY:A++(fQ++B)=A++fQ++B:=(mQ _ _ _).symm;have eY:(λz6=>A++(z6++B))=(λz6=>A++z6++B):=by funext z6;exact(mQ _ _ _).symm
 rwa[dY,eY]at h
section
variable{P:Program}{bA:Operand->Value}{L:aP}{R:aJ}{dst:Option Tmp}{ty:TypeId}{pos:String}{after:Array Edge}{guard:Option (Nat×Bool)}(O:pP P){T:TypeId}{x y:Operand}
def j2{aV:Type}{e n Z g5 z eE fL qR nC iX}{f:aV->List Value}{p:J aV}{a:aV}{F:J aV->aP}(dN:hT O.g2 T=some ⟨.slice e,n,Z,g5,z⟩)(c1:hT O.g2 e=some ⟨eE,fL,qR,nC,iX⟩)(zM:iX.length=fL)
 (K:bA x=p.val) (hok:p.ok fL f) (vQ:sR e f p L F) (hs:Fm L R (bA y) 1 fL (f a)) (N:(f a).all (·.oneCell')=true) (MR:(p.l.length+1)*(nC+1)<=140737488355328):
 eD P ⟨dst,.call ⟨.builtin .append,#[x,y],#[T,T]⟩,ty,pos,after,guard⟩ bA L R (λv E G=>∃o:gZ,v=(⟨o,p.l++[a]⟩:J aV).val/\(⟨o,p.l++[a]⟩:J aV).ok fL f/\F ⟨o,p.l++[a]⟩=E/\R=G):=by
 obtain⟨A,B,c2,h1⟩:=vQ.split;subst c2;have yQ:(p.l.length+1)*nC<=140737488355328:=GB (a8v _ (Nat.le_succ _)) MR;have AJ:p.l.length+1<=140737488355328:=GB (a8M _ (a8R _)) MR;have Bw:bA x=p.o.val p.l.length:=by rw[K,gZ.aHV hok];rfl
 have:=a43 (dst:=dst) (ty:=ty) (pos:=pos) (after:=after) (guard:=guard) O dN c1 zM Bw hok (a9N A _ B) hs D N D yQ;intro c w cI Tl next Q hB
 refine this c w cI Tl next Q ?_
 rintro v E G w' ⟨g,cap,spare,rfl,FZ,rfl,rfl⟩ rA;have e:p.l.flatMap f++f a=(p.l++[a]).flatMap f:=by simp
 rw[e]at FZ;have hl:(p.l++[a]).length=p.l.length+1:=by simp
 exact aHF
end
def a5l{aV:Type}{f:aV->List Value}(l:List aV):(l.map f).flatten=l.flatMap f:=by rw[List.flatMap_def]
def dL.TZ{aV:Type}{c:y7}{L:aP}{R:aJ}{w:World}{T:TypeId}{f:aV->List Value}{aR:Nat}{p:J aV}{eQ:aJ}(h:dL c (p.L T f++L) R w)(hok:p.ok aR f)(hf: ∀x,(f x).length=aR)(xW:0<aR)
 (l6:∀s∈eQ,aH s R):dL c L (p.U.fI aR f eQ::R) w:=by
 obtain⟨o,l⟩:=p;cases o with
 |nil=>
  obtain⟨N,V⟩:=hok;have hl:l=[]:=Ql N;subst hl;obtain⟨⟨aC,bX,hg⟩,ho,hk⟩:=h;refine⟨⟨aC,⟨bX.nR,bX.own,bX.u7,bX.tH,λr M=>?_⟩,hg⟩,ho,hk⟩;rcases List.mem_cons.1 M with rfl|M;·refine .mk rfl (AY _) (by simp[gZ.cap]) fX (.inl rfl) (λs hs=> ?_);obtain⟨r,M,RJ⟩:=l6 s hs;exact(bX.p3 r M).sub RJ
  ·exact bX.p3 r M
 |own g cap spare=>
  obtain⟨N,V,aQ,b7⟩:=hok;dsimp only at N V aQ b7;have:=h.KV (b:=g) (cs:=l.flatMap f++spare) (T:=T) (aR:=aR) (len:=l.length) (cap:=cap) (rows:=l.map f) (eQ:=eQ) fX V (by simp only[maxLen]at aQ;omega) (by simp;intro r _;exact hf r) xW
   (by rw[a5l,<-N,List.take_left'];rfl) l6
  exact this
def dL.aR5{aV:Type}{c:y7}{L:aP}{w:World}{T:TypeId}{f:aV->List Value}{aR:Nat}{sub:aV->fG}(hf:∀x,(f x).length=aR)(xW:0<aR):∀(l:List (J aV)) {R:aJ},dL c (l.flatMap (J.L T f)++L) R w->(∀p∈l,p.ok aR f)->
 (∀p∈l,∀x∈p.l,aH (sub x) R)->∃S:aJ,(∀p∈l,aH (p.U.fI aR f (p.l.map sub)) S)/\dL c L (S++R) w
 |[],R,h,_,_=>⟨[],by simp,by simpa using h⟩
 |p::l,R,h,hok,hs=>by
  rw[EW,mQ]at h
  have N:=h.TZ (eQ:=p.l.map sub) (hok p fX) hf xW (λs uK=>by
   obtain⟨x,K,rfl⟩:=List.mem_map.1 uK
   exact hs p fX x K)
  obtain⟨S,V,aQ⟩:=dL.aR5 hf xW l N (λq hq=>hok q (by simp[hq])) (λq hq x K=>by
   obtain⟨r,M,ED⟩:=hs q (by simp[hq]) x K
   exact⟨r,by simp[M],ED⟩)
  refine⟨S++[p.U.fI aR f (p.l.map sub)],λq hq=>?_,by simpa using aQ⟩
  rcases List.mem_cons.1 hq with rfl|hq
  ·exact⟨_,by simp,.mW⟩
  ·obtain⟨r,M,ED⟩:=V q hq
   exact⟨r,by simp[M],ED⟩
def dL.aR6{aV:Type}{c:y7}{L:aP}{w:World}{T:TypeId}{f:aV->List Value}{aR:Nat}(hf:∀x,(f x).length=aR)(xW:0<aR):∀(l:List (J aV)) {R:aJ},dL c (l.flatMap (J.L T f)++L) R w->(∀p∈l,p.ok aR f)->
 ∃S:aJ,(∀p∈l,aH (p.U.fI aR f []) S)/\dL c L (S++R) w
 |[],R,h,_=>⟨[],by simp,by simpa using h⟩
 |p::l,R,h,hok=>by
  rw[EW,mQ]at h
  have N:=h.TZ (eQ:=[]) (hok p fX) hf xW (λs uK=>by cases uK)
  obtain⟨S,V,aQ⟩:=dL.aR6 hf xW l N (λq hq=>hok q (by simp[hq]))
  refine⟨S++[p.U.fI aR f []],λq hq=>?_,by simpa using aQ⟩
  rcases List.mem_cons.1 hq with rfl|hq
  ·exact⟨_,by simp,.mW⟩
  ·obtain⟨r,M,ED⟩:=V q hq
   exact⟨r,by simp[M],ED⟩
def W3{P n code t L R}{Q:gA}(h:∀c w,dL c L R w->∃E G,dL c E G w/\cH P n code t E G Q):cH P n code t L R Q:=λc a w hf hs=>by
 obtain⟨E,G,uK,hc⟩:=h c w hs
 exact hc c a w hf uK
def aN3{aV:Type}{P n code t L R}{Q:gA}{T:TypeId}{f:aV->List Value}{aR:Nat}{p:J aV}(eQ:aJ)(hok:p.ok aR f)(hf: ∀x,(f x).length=aR)(xW:0<aR)(l6: ∀s∈eQ,aH s R)
 (h:cH P n code t L (p.U.fI aR f eQ::R) Q):cH P n code t (p.L T f++L) R Q:=
 W3 λ_ _ hs=>⟨_,_,hs.TZ hok hf xW l6,h⟩
def b3k{aV:Type}{P n code t L R}{Q:gA}{T:TypeId}{f:aV->List Value}{aR:Nat}{A:aP}{l:List (J aV)}(sub:aV->fG)(hf: ∀x,(f x).length=aR)(xW:0<aR)(hok: ∀p∈l,p.ok aR f)(hs: ∀p∈l,∀x∈p.l,aH (sub x) R)
 (h:∀S:aJ,(∀p∈l,aH (p.U.fI aR f (p.l.map sub)) S)->cH P n code t (A++L) (S++R) Q):cH P n code t (A++(l.flatMap (J.L T f)++L)) R Q:=by
 refine W3 λc w cI=>?_;have hp:(A++(l.flatMap (J.L T f)++L)).Perm (l.flatMap (J.L T f)++(A++L)):=by exact a83
 obtain⟨S,N,V⟩:=dL.aR5 hf xW l (cI.DJ hp) hok hs;exact⟨_,_,V,h S N⟩
def aKl{aV:Type}{P n code t L R}{Q:gA}{T:TypeId}{f:aV->List Value}{aR:Nat}{A:aP}{l:List (J aV)}(hf: ∀x,(f x).length=aR)(xW:0<aR)(hok: ∀p∈l,p.ok aR f)
 (h:∀S:aJ,(∀p∈l,aH (p.U.fI aR f []) S)->cH P n code t (A++L) (S++R) Q):cH P n code t (A++(l.flatMap (J.L T f)++L)) R Q:=by
 refine W3 λc w cI=>?_;have hp:(A++(l.flatMap (J.L T f)++L)).Perm (l.flatMap (J.L T f)++(A++L)):=by exact a83
 obtain⟨S,N,V⟩:=dL.aR6 hf xW l (cI.DJ hp) hok;exact⟨_,_,V,h S N⟩
def vF{aV:Type}{P n code t L R}{Q:gA}{T:TypeId}{f:aV->List Value}{aR:Nat}{A:aP}{p:J aV}(eQ:aJ)(hf: ∀x,(f x).length=aR)(xW:0<aR)(hok:p.ok aR f)(hs: ∀s∈eQ,aH s R)
 (h:cH P n code t (A++L) (p.U.fI aR f eQ::R) Q):cH P n code t (A++(p.L T f++L)) R Q:=by
 refine W3 λc w cI=>?_;have hp:(A++(p.L T f++L)).Perm (p.L T f++(A++L)):=by exact a83
 exact⟨_,_,dL.TZ (cI.DJ hp) hok hf xW hs,h⟩
def Zb{P n code t L R}{Q:gA}{A:aP}{b:Nat}{cs:List Value}{T:TypeId}{aR len cap:Nat}{rows:List (List Value)}{eQ:aJ}
 (hl:rows.length=len) (hc:len<=cap) (hm:cap<9223372036854775808) (cV:∀r∈rows,r.length=aR) (hp:0<aR) (rS:cs.take (len*aR)=rows.flatten) (l6:∀s∈eQ,aH s R)
 (h:cH P n code t (A++L) (.mk aR (some ⟨b,0,none⟩) len cap rows eQ::R) Q):cH P n code t (A++(⟨b,cs,T⟩::L)) R Q:=
 W3 λ_ _ cI=>⟨_,_,dL.KV (cI.DJ a8P) hl hc hm cV hp rS l6,h⟩
def lT{aV:Type}{T:TypeId}{f:aV->List Value}:(J.nil:J aV).L T f=[]:=rfl
def mJ{P n code t L E R}{Q:gA}(h:L=E)(k:cH P n code t E R Q):cH P n code t L R Q:=h▸k
def fU{P n code t L E R}{Q:gA}(k:cH P n code t E R Q)(h:L=E:=by exact bHV):cH P n code t L R Q:=mJ (h:=h) (k:=k)
def aMr{aV:Type}{f:aV->List Value}{aR:Nat}(hf:∀x,(f x).length=aR):∀(l:List aV) (i j:Nat) (x x5:aV) (vs:List Value),j+vs.length<=aR->l[i]?=some x->(f x).take j++vs++(f x).drop (j+vs.length)=f x5->
 (l.flatMap f).take (i*aR+j)++vs++(l.flatMap f).drop (i*aR+j+vs.length)=(l.set i x5).flatMap f
 |[],i,j,x,x5,vs,_,h,_=>by simp at h
 |y::l,0,j,x,x5,vs,aY,h,hs=>by
  simp only[a8O,Qi]at h
  subst h
  have aN:=hf y
  rw[EW,aIa,EW,<-hs,Nat.zero_mul,PJ]
  rw[aX9 D,aYa D]
  simp only[mQ]
 |y::l,i+1,j,x,x5,vs,aY,h,hs=>by
  have cM:=aMr hf l i j x x5 vs aY Xu hs
  have aN:=hf y
  have dY:(i+1)*aR+j=aR+(i*aR+j):=by rw[PK];omega
  rw[EW,aH9,EW,dY]
  rw[show aR+(i*aR+j)=(f y).length+(i*aR+j) by rw[aN],List.take_length_add_append]
  rw[show(f y).length+(i*aR+j)+vs.length=(f y).length+(i*aR+j+vs.length) by omega,List.drop_length_add_append]
  rw[<-cM]
  simp only[mQ]
def J.a2t{aV:Type}{aR:Nat}{f:aV->List Value}{p:J aV}(hok:p.ok aR f){i:Nat}(aA:i<p.l.length):∃g cap spare,p.o=.own g cap spare:=by
 cases ho:p.o with
 |nil=>rw[J.ok,ho]at hok;have:=hok.1;omega
 |own g cap spare=>exact⟨g,cap,spare,rfl⟩
def sR.mem{aV:Type}{T:TypeId}{f:aV->List Value}{p:J aV}{L:aP}{F:J aV->aP}(h:sR T f p L F){g cap:Nat}{spare:List Value}(ho:p.o=.own g cap spare):(⟨g,p.l.flatMap f++spare,T⟩:a5)∈L:=by obtain⟨A,B,c2,_⟩:=h.split;rw[c2,J.L,ho];simp[gZ.L]
section
variable{P:Program}{bA:Operand->Value}{L:aP}{R:aJ}{dst:Option Tmp}{ty:TypeId}{pos:String}{after:Array Edge}{guard:Option (Nat×Bool)}(O:pP P){T:TypeId}{x y:Operand}{aV:Type}{f:aV->List Value}{p:J aV}{F:J aV->aP}
def h4{k:IntKind}{a:Int}{e n fL g5 z nC iX eE}{Z qR:List (Nat×Nat)}{i:Nat}(p:J aV)(f:aV->List Value)(dN:hT O.g2 T=some ⟨.slice e,n,Z,g5,z⟩)(c1:hT O.g2 e=some ⟨eE,fL,qR,nC,iX⟩)
 (K:bA x=p.val) (aN:bA y=.int k a) (hok:p.ok fL f) (aA:a=(i:Int)) (jH:i<p.l.length):
 cJ P ⟨dst,.indexAddr T x y,ty,pos,after,guard⟩ bA L R (.pointer (some ⟨zI p.o.oM,pJ p.o.oM fL i 0,none⟩)):=by obtain⟨g,cap,spare,ho⟩:=J.a2t hok jH;rw[ho];exact i9 O dN c1 (by rw[K,J.val,ho];rfl) aN aA jH
def aMg{c:y7}{w:World}{n5:TypeId}{aR i:Nat}{vX:aV}(hs:dL c L R w)(vQ:sR n5 f p L F)(hok:p.ok aR f)(hf:∀x,(f x).length=aR)(M:p.l[i]?=some vX){j:Nat}{v:Value}(aY:(f vX)[j]?=some v):w.cell? ⟨zI p.o.oM,pJ p.o.oM aR i j,none⟩=some v:=by obtain⟨g,cap,spare,ho⟩:=J.a2t hok (List.getElem?_eq_some_iff.1 M).1;rw[ho];have:=ZK hs (vQ.mem ho) (pJ (some ⟨g,0,none⟩) aR i j);rw[show zI (gZ.own g cap spare).oM=g from rfl,show(gZ.own g cap spare).oM=some ⟨g,0,none⟩from rfl,this];exact aJT hf M aY
def qK{n aR i j:Nat}{Z g5 z v}{hB:L5}{n5:TypeId}{vX:aV}(p:J aV)(K:bA x= .pointer (some ⟨zI p.o.oM,pJ p.o.oM aR i j,none⟩))(dN:hT O.g2 T=some ⟨hB,n,Z,g5,z⟩)(hk:hB.isAgg=false)
 (vQ:sR n5 f p L F) (hok:p.ok aR f) (hf:∀x,(f x).length=aR) (M:p.l[i]?=some vX) (aY:(f vX)[j]?=some v):cJ P ⟨dst,.load T x,ty,pos,after,guard⟩ bA L R v:=λc w cI=>by
 have:=aA7 (P:=P) (w:=w) (O.ok _ _ dN) hk (v:=v) (aMg cI vQ hok hf M aY)
 simp[execOp,K,Instr.loadAt,Instr.sureAddr,this]
def a30{n aR i j:Nat}{Z g5 z}{hB:L5}{n5:TypeId}{vX:aV}{row:List Value}(p:J aV)(K:bA x= .pointer (some ⟨zI p.o.oM,pJ p.o.oM aR i j,none⟩))(dN:hT O.g2 T=some ⟨hB,n,Z,g5,z⟩)(hk:hB.isAgg=true)
 (vQ:sR n5 f p L F) (hok:p.ok aR f) (hf:∀x,(f x).length=aR) (M:p.l[i]?=some vX) (hv:sub (f vX) j n=row) (hn:row.length=n):cJ P ⟨dst,.load T x,ty,pos,after,guard⟩ bA L R (.agg row.toArray):=λc w cI=>by
 have:=a5z (P:=P) (w:=w) (O.ok _ _ dN) hk (b:=zI p.o.oM) (o:=pJ p.o.oM aR i j) (row:=row) hn (λaGX v aY=>by
  rw[<-hv,sub,Cw]at aY
  split at aY
  ·have:=aMg cI vQ hok hf M (j:=j+aGX) (v:=v) (by simpa using aY)
   rw[<-this]
   simp[pJ,a2K]
  ·cases aY)
 simp[execOp,K,Instr.loadAt,Instr.sureAddr,this]
def aM2{n aR i j:Nat}{Z g5 z}{hB:L5}{n5:TypeId}{vX R0:aV}{vs:List Value}{val:Value}(p:J aV)(dN:hT O.g2 T=some ⟨hB,n,Z,g5,z⟩)(K:bA x= .pointer (some ⟨zI p.o.oM,pJ p.o.oM aR i j,none⟩))(aN:bA y=val)(Vj:val.cells=vs.toArray)(hn:vs.length=n)
 (vQ:sR n5 f p L F) (hok:p.ok aR f) (hf:∀x,(f x).length=aR) (M:p.l[i]?=some vX) (pV:j+vs.length<=aR) (hs:(f vX).take j++vs++(f vX).drop (j+vs.length)=f R0) (N:vs.all (·.oneCell')=true):
 eD P ⟨none,.store T x y,ty,pos,after,guard⟩ bA L R (λ_ iM G=>F ⟨p.o,p.l.set i R0⟩=iM/\R=G):=by
 intro c w cI a next Q hB
 obtain⟨g,cap,spare,ho⟩:=J.a2t hok (List.getElem?_eq_some_iff.1 M).1;obtain⟨A,B,c2,h1⟩:=vQ.split;have rU:=L9 hf p.l;have Ay:=(List.getElem?_eq_some_iff.1 M).1;have bDq:(i+1)*aR<=p.l.length*aR:=a2L _ Ay;rw[PK]at bDq;have Oz:=aMr hf p.l i j vX R0 vs pV M hs;have rS:(p.l.flatMap f++spare).take (i*aR+j)++vs++(p.l.flatMap f++spare).drop (i*aR+j+vs.length)=(p.l.set i R0).flatMap f++spare:=by rw[aX9 D,aYa D,<-Oz];simp only[mQ]
 have c4:uS g (p.l.flatMap f++spare) n5 ((p.l.set i R0).flatMap f++spare) L (F ⟨p.o,p.l.set i R0⟩):=by rw[c2,h1,J.L,J.L,ho];simp only[gZ.L,mQ,oF,m0];exact .xJ .mW
 have Bm:=aC0 (P:=P) (T:=T) (o:=i*aR+j) (vs:=vs) cI (O.ok _ _ dN) hn (by rw[rS];exact c4) (by rw[iD,rU];omega) (List.all_eq_true.1 N) (val:=val) Vj;rw[rS]at Bm;refine aNC (w':=w.setRow g _) ?_ (hB undef _ R _ ⟨rfl,rfl⟩ (cI.setRow c4));rw[ho]at K;have Bw:bA x=.pointer (some ⟨g,i*aR+j,none⟩):=by rw[K];simp[gZ.oM,zI,pJ,Tm]
 simp[execOp,Bw,aN,Instr.storeAt,Instr.sureAddr,Bm]
def jL{n aR i j:Nat}{Z g5 z}{hB:L5}{n5:TypeId}{vX:aV}{v:Value}(p:J aV)(R0:aV)(dN:hT O.g2 T=some ⟨hB,n,Z,g5,z⟩)(K:bA x= .pointer (some ⟨zI p.o.oM,pJ p.o.oM aR i j,none⟩))(aN:bA y=v)(hn:n=1)
 (vQ:sR n5 f p L F) (hok:p.ok aR f) (hf:∀x,(f x).length=aR) (M:p.l[i]?=some vX) (pV:j<aR) (hs:(f vX).set j v=f R0) (N:v.oneCell'=true):
 eD P ⟨none,.store T x y,ty,pos,after,guard⟩ bA L R (λ_ iM G=>F ⟨p.o,p.l.set i R0⟩=iM/\R=G):=by
 have hc:v.cells=#[v]:=by cases v<;>first|rfl|(simp[Value.oneCell']at N)
 refine aM2 (vs:=[v]) O p dN K aN hc (by simp[hn]) vQ hok hf M pV ?_ a21;rw[pN,aLw _ _ _ (by rw[hf];exact pV),hs]
def SV{n aR i j:Nat}{Z g5 z}{hB:L5}{n5:TypeId}{vX:aV}{vs:List Value}(p:J aV)(R0:aV)(dN:hT O.g2 T=some ⟨hB,n,Z,g5,z⟩)(K:bA x= .pointer (some ⟨zI p.o.oM,pJ p.o.oM aR i j,none⟩))(aN:bA y= .agg vs.toArray)(hn:vs.length=n)
 (vQ:sR n5 f p L F) (hok:p.ok aR f) (hf:∀x,(f x).length=aR) (M:p.l[i]?=some vX) (pV:j+vs.length<=aR) (hs:(f vX).take j++vs++(f vX).drop (j+vs.length)=f R0) (N:vs.all (·.oneCell')=true):
 eD P ⟨none,.store T x y,ty,pos,after,guard⟩ bA L R (λ_ iM G=>F ⟨p.o,p.l.set i R0⟩=iM/\R=G):=
 aM2 O p dN K aN rfl hn vQ hok hf M pV hs N
end
def J.p4{aV:Type}{f:aV->List Value}{aR i:Nat}{p:J aV}{x:aV}(hf:∀x,(f x).length=aR)(hok:p.ok aR f):(⟨p.o,p.l.set i x⟩:J aV).ok aR f:=by
 have dY:(p.l.set i x).length=p.l.length:=by simp
 have eY:((p.l.set i x).flatMap f).length=(p.l.flatMap f).length:=by rw[L9 hf,L9 hf,dY]
 rw[J.ok]at hok|-;cases ho:p.o with
 |nil=>rw[ho]at hok;have:p.l=[]:=Ql hok.1;rw[this];exact⟨rfl,rfl⟩
 |own g cap spare=>rw[ho]at hok;obtain⟨N,V,aQ,b7⟩:=hok;refine⟨by rw[eY,dY];exact N,by rw[dY];exact V,aQ,?_⟩;rw[iD,eY,<-iD];exact b7
def J.oZ{aV:Type}{f:aV->List Value}{aR:Nat}{o:gZ}{l O2:List aV}(hf:∀x,(f x).length=aR)(hok:(⟨o,l⟩:J aV).ok aR f)(h:O2.length=l.length):(⟨o,O2⟩:J aV).ok aR f:=by
 have eY:(O2.flatMap f).length=(l.flatMap f).length:=by rw[L9 hf,L9 hf,h]
 rw[J.ok]at hok|-;dsimp only at hok|-;cases o with
 |nil=>have:O2=[]:=Ql (by rw[h];exact hok.1);rw[this];exact⟨rfl,rfl⟩
 |own g cap spare=>obtain⟨N,V,aQ,b7⟩:=hok;refine⟨by rw[eY,h];exact N,by rw[h];exact V,aQ,?_⟩;rw[iD,eY,<-iD];exact b7
def J.aHy{aV:Type}{o:gZ}{l:List aV}{i:Nat}{x:aV}:(⟨o,l.set i x⟩:J aV).val=(⟨o,l⟩:J aV).val:=by simp[J.val]
def Sx{fn:Func}{P:Program}{t:Nat->Value}{L:aP}{R:aJ}(M:fn.results=#[]):∀c n a w,nU n t a->dL c L R w->(results fn a.tmps).run P w=.ok (.tuple #[]) w:=by intro c n a w _ _;rw[a0C,M];simp
def XA{aV:Type}{f:aV->List Value}{z:List Value}{b n:Nat}{T:TypeId}{x:aV}(eC:z=f x)(L:aP):⟨b,CX z n,T⟩::L=(⟨.own b n [],List.replicate n x⟩:J aV).L T f++L:=by rw[aB5 eC n];simp[J.L,gZ.L]
def Sy{aV:Type}{f:aV->List Value}{aR b n:Nat}{x:aV}(hf:∀x,(f x).length=aR)(hn:n<=maxLen):(⟨.own b n [],List.replicate n x⟩:J aV).ok aR f:=by
 refine⟨?_,by simp,hn,?_⟩;·rw[L9 hf]
 ·rw[EX,L9 hf];simp
def JL{aV:Type}(f:aV->List Value)(aR b n:Nat)(x:aV)(hf:∀x,(f x).length=aR)(hn:n<=maxLen:=by exact Qn):(⟨.own b n [],List.replicate n x⟩:J aV).ok aR f:=Sy (f:=f) (aR:=aR) (b:=b) (n:=n) (x:=x) (hf:=hf) (hn:=hn)
def Lj{aV:Type}{f:aV->List Value}{cs:List Value}{b n:Nat}{T:TypeId}(l:List aV)(rS:cs=l.flatMap f)(L:aP):⟨b,cs,T⟩::L=(⟨.own b n [],l⟩:J aV).L T f++L:=by subst rS;simp[J.L,gZ.L]
def V4{aV:Type}{f:aV->List Value}{aR b n:Nat}{l:List aV}(hf:∀x,(f x).length=aR)(hl:l.length=n)(hn:n<=maxLen):(⟨.own b n [],l⟩:J aV).ok aR f:=by
 subst hl;refine⟨?_,by simp,hn,?_⟩;·rw[L9 hf]
 ·rw[EX,L9 hf]
inductive y8:aP->aP->aP->Prop
 |nil:y8 [] [] []
 |aB {L:aP}:y8 L L []
 |tE {x:a5} {A B C:aP} (h:y8 A B C):y8 (x::A) (x::B) C
 |MM {x:a5} {A B C:aP} (h:y8 A B C):y8 (x::A) B (x::C)
 |wE {fQ A B C:aP} (h:y8 A B C):y8 (fQ++A) (fQ++B) C
 |aRK {fQ A B C:aP} (h:y8 A B C):y8 (fQ++A) B (fQ++C)
def y8.DJ{A B C:aP}(h:y8 A B C):A.Perm (B++C):=by
 induction h with
 |nil=>exact .refl _
 |aB=>rw[EX]
 |tE _ cM=>exact cM.cons _
 | @MM x A B C _ cM=>exact(cM.cons x).trans List.perm_middle.symm
 | @wE fQ A B C _ cM=>rw[mQ];exact cM.append_left _
 | @aRK fQ A B C _ cM=>refine(cM.append_left fQ).trans ?_;exact a83
def aI.Cs{P:Program}{f:FuncId}{args:Array Value}{A B L:aP}{R:aJ}{Post:oY}(Hr:y8 A B L)(h:aI P f args L R Post):aI P f args A R (λv iM G=>∃E,B++E=iM/\Post v E G):=by have hp:=Hr.DJ;refine⟨h.1,λw aC bX=>?_⟩;have qU:tS (B++L) aC R w:=⟨(hp.map _).nodup_iff.1 bX.nR,λe X=>bX.own e (hp.mem_iff.2 X),λe X=>bX.u7 e (hp.mem_iff.2 X),bX.tH,bX.p3⟩;have c2:tS L aC R w:=⟨(List.nodup_append.1 (by have:=qU.nR;rwa[wP]at this)).2.1,λe X=>qU.own e (mA _ X),λe X=>qU.u7 e (mA _ X),qU.tH,qU.p3⟩;refine(h.2 w aC c2).mono λe w' ⟨v,E,G,X,Bh,cI⟩=>⟨v,B++E,G,X,⟨E,rfl,Bh⟩,?_⟩;have V:=dL.frame qU cI;exact aV2
def aI.Hz{P:Program}{f:FuncId}{args:Array Value}{A B L:aP}{R S:aJ}{Post:Value->aP->Prop}(Hr:y8 A B L)
 (dW:∀w,∀aC:Nat->Prop,tS (B++L) aC R w->∀s∈S,tW w (λb=>aC b\/∃e∈B,e.b=b) s)
 (h:aI P f args L (S++R) (λv E G=>Post v E/\S++R=G)):aI P f args A R (λv iM G=>∃E,B++E=iM/\Post v E/\R=G):=by
 refine⟨h.1,λw aC bX=>?_⟩;have hp:=Hr.DJ;have qU:tS (B++L) aC R w:=⟨(hp.map _).nodup_iff.1 bX.nR,λe X=>bX.own e (hp.mem_iff.2 X),λe X=>bX.u7 e (hp.mem_iff.2 X),bX.tH,bX.p3⟩;have u5:=qU.nR;rw[wP,Wv]at u5;have aFu:∀e∈L,¬∃vM∈B,vM.b=e.b:=λe X ⟨vM,wG,hb⟩=>u5.2.2 vM.b (List.mem_map.2 ⟨vM,wG,rfl⟩) e.b (List.mem_map.2 ⟨e,X,rfl⟩) hb;have c2:tS L (λb=>aC b\/∃e∈B,e.b=b) (S++R) w:=by
  refine⟨u5.2.1,λe X=>qU.own e (mA _ X),λe X hg=>?_,λb hb=>?_,λr M=>?_⟩;·
   rcases hg with hg|hg;·exact qU.u7 e (mA _ X) hg
   ·exact aFu e X hg
  ·
   rcases hb with hb|⟨e,X,rfl⟩;·exact qU.tH b hb
   ·exact qU.lt (sI _ X)
  ·
   rcases List.mem_append.1 M with M|M;·exact dW w aC qU r M
   ·exact(qU.p3 r M).mono (λ_ h=>.inl h) (λ_ _=>rfl)
 refine(h.2 w _ c2).mono ?_;rintro e w' ⟨v,E,G,rfl,⟨Bh,rfl⟩,cI⟩;refine⟨v,B++E,R,rfl,⟨E,rfl,Bh,rfl⟩,?_⟩;obtain⟨⟨H1,Uq,jM⟩,ho,hk⟩:=cI
 -- what the lent blocks hold has not changed
 have BO:∀e∈B,w'.heap[e.b]?=w.heap[e.b]?:=λe X=>hk.block e.b (qU.lt (sI _ X)) (λ⟨vM,wG,hb⟩=>aFu vM wG ⟨e,X,hb.symm⟩);have bA8:∀vM∈E,∀e∈B,vM.b≠e.b:=λvM wG e X hb=>by
  rcases ho vM wG with N|N;·obtain⟨eY,HG,AJ⟩:=N;exact aFu eY HG ⟨e,X,by rw[AJ,hb]⟩
  ·rw[hb]at N;have:=qU.lt (sI L X);simp only at N;omega
 have bBg:∀b,aC b->w'.heap[b]?=w.heap[b]?:=λb hb=>hk.block b (qU.tH b hb) (λ⟨e,X,Nk⟩=>qU.u7 e (mA _ X) (Nk▸hb));refine⟨⟨aC,⟨?_,λe X=>?_,λe X hg=>?_,λb hb=>a2M (qU.tH b hb) hk.size,λr M=>(qU.p3 r M).mono (λ_ h=>h) bBg⟩,λb hb=>.inl hb⟩,λe X=>?_,⟨hk.os,hk.tape,hk.output,hk.size,λb hb hn=>hk.block b hb (λ⟨e,X,Nk⟩=>hn ⟨e,hp.mem_iff.2 (mA _ X),Nk⟩),hk.KV⟩⟩;·rw[wP,Wv];refine⟨u5.1,Uq.nR,λx K y aN UT=>?_⟩;obtain⟨e,X,rfl⟩:=List.mem_map.1 K;obtain⟨vM,wG,rfl⟩:=List.mem_map.1 aN;exact bA8 vM wG e X UT.symm
 ·
  rcases List.mem_append.1 X with X|X;·rw[BO e X];exact qU.own e (sI _ X)
  ·exact Uq.own e X
 ·
  rcases List.mem_append.1 X with X|X;·exact qU.u7 e (sI _ X) hg
  ·
   rcases ho e X with⟨eY,HG,AJ⟩|N;·exact qU.u7 eY (mA _ HG) (by rw[AJ];exact hg)
   ·have:=qU.tH _ hg;simp only at N;omega
 ·
  rcases List.mem_append.1 X with X|X;·exact .inl ⟨e,hp.mem_iff.2 (sI _ X),rfl⟩
  ·
   rcases ho e X with⟨eY,HG,AJ⟩|N;·exact .inl ⟨eY,hp.mem_iff.2 (mA _ HG),AJ⟩
   ·exact .inr N
def b9q{aV:Type}{f:aV->List Value}{aR:Nat}{T:TypeId}{p:J aV}{L:aP}{aC:Nat->Prop}{R:aJ}{w:World}{eQ:aJ}(bX:tS L aC R w){H1:Nat->Prop}(jN: ∀e∈p.L T f,e∈L/\H1 e.b)(hok:p.ok aR f)(hf: ∀x,(f x).length=aR)(xW:0<aR)
 (l6:∀s∈eQ,tW w H1 s):tW w H1 (p.U.fI aR f eQ):=by
 cases ho:p.o with
 |nil=>
  rw[J.ok,ho]at hok;have hl:p.l=[]:=Ql hok.1;refine .mk fX ?_ ?_ (by dsimp only;rw[hl];simp) (.inl (by dsimp only;rw[hl];rfl)) l6;·dsimp only;rw[hl,ho];exact AY _
  ·dsimp only;rw[ho];simp[gZ.cap]
 |own g cap spare=>
  have FZ:=hok;rw[J.ok,ho]at hok;obtain⟨N,V,aQ,b7⟩:=hok;obtain⟨hm,hg⟩:=jN ⟨g,p.l.flatMap f++spare,T⟩ (by rw[J.L,ho];simp[gZ.L]);refine .mk fX ?_ ?_ (by intro r M;obtain⟨x,_,rfl⟩:=List.mem_map.1 M;exact hf x) (.inr ⟨g,0,by dsimp only;rw[ho];rfl,hg,λi j aA aY=>?_⟩) l6;·dsimp only;rw[ho];exact V
  ·dsimp only;rw[ho];simp only[maxLen]at aQ;simp only[gZ.cap];omega
  ·
   dsimp only at aA;have hb:=bX.own _ hm;simp only[VQ.Vr]at hb;(have dY:w.cell? ⟨g,0+i*aR+j,none⟩=(p.l.flatMap f++spare)[i*aR+j]?:=by simp[World.cell?,hb]);rw[dY];obtain⟨x,K⟩:=IA aA;(have hl:(p.l.flatMap f)[i*aR+j]?=(f x)[j]?:=by rw[aAk hf p.l i j aY,K];rfl);(have bCW:j<(f x).length:=by rw[hf];exact aY);rw[HU,hl,pF,K];·rfl
   ·rw[ET bCW]at hl;exact(List.getElem?_eq_some_iff.1 hl).1
def CG(x:Int):(aL x).length=1:=rfl
def sN(fQ B:aP):Prop:=∀e∈fQ,e∈B
def aL7{fQ B:aP}:sN fQ (fQ++B):=λ_ h=>sI _ h
def b7Y{fQ FK B:aP}(h:sN fQ B):sN fQ (FK++B):=λe X=>mA _ (h e X)
def b6z{fQ B:aP}{z:a5}(h:sN fQ B):sN fQ (z::B):=λe X=>PL _ (h e X)
def HA{aV:Type}{f:aV->List Value}{aR:Nat}{T:TypeId}{p:J aV}{B L:aP}{aC:Nat->Prop}{R:aJ}{w:World}{eQ:aJ}(bX:tS (B++L) aC R w)(BO:sN (p.L T f) B)(hok:p.ok aR f)(hf:∀x,(f x).length=aR)(xW:0<aR)(l6:∀s∈eQ,aH s R):
 tW w (λb=>aC b\/∃e∈B,e.b=b) (p.U.fI aR f eQ):=
 b9q bX (λe X=>⟨sI _ (BO e X),.inr ⟨e,BO e X,rfl⟩⟩) hok hf xW (λs hs=>by
  obtain⟨r,M,hk⟩:=l6 s hs
  exact((bX.p3 r M).sub hk).mono (λ_ h=>.inl h) (λ_ _=>rfl))
def aI.bGp{P:Program}{f:FuncId}{args:Array Value}{L L4:aP}{R:aJ}{Post:oY}(hp:L.Perm L4)(h:aI P f args L R Post):aI P f args L4 R Post:=by
 refine⟨h.1,λw aC bX=>?_⟩;have qU:tS L aC R w:=⟨(hp.map _).nodup_iff.2 bX.nR,λe X=>bX.own e (hp.mem_iff.1 X),λe X=>bX.u7 e (hp.mem_iff.1 X),bX.tH,bX.p3⟩;refine(h.2 w aC qU).mono ?_;rintro e w' ⟨v,E,G,rfl,Bh,cI⟩;refine⟨v,E,G,rfl,Bh,?_⟩;obtain⟨⟨H1,Uq,jM⟩,ho,hk⟩:=cI;have conv:∀b,zP L b↔zP L4 b:=λb=>⟨λ⟨e,X,hb⟩=>⟨e,hp.mem_iff.1 X,hb⟩,λ⟨e,X,hb⟩=>⟨e,hp.mem_iff.2 X,hb⟩⟩
 exact⟨⟨H1,Uq,λb hb=>(jM b hb).imp id (Or.imp id (conv b).1)⟩,λe X=>(ho e X).imp (conv _).1 id,⟨hk.os,hk.tape,hk.output,hk.size,λb hb hn=>hk.block b hb (λh=>hn ((conv b).1 h)),hk.KV⟩⟩
def b22{fQ:aP}{a b:a5}:(a::b::(fQ++[])).Perm (fQ++(a::b::[])):=by simpa using(YM (l₁:=[a,b]) (l₂:=fQ))
def aA8{aV:Type}{b n:Nat}{x:aV}:(⟨.own b n [],List.replicate n x⟩:J aV).val=.slice (some ⟨b,0,none⟩) n n:=by simp[J.val,gZ.oM,gZ.cap]
def v4{aV:Type}{b n:Nat}{l:List aV}(h:l.length=n):Value.slice (some ⟨b,0,none⟩) n n=(⟨.own b n [],l⟩:J aV).val:=by simp[J.val,gZ.oM,gZ.cap,h]
def a5J{lZ:Type}(ws:List Nat)(k0:Nat->Value)(hd:dV lZ)(Q:gA):gA
 | .normal,t,L,R=>∃g,lD ws k0 t/\DR t (hd.uP g)/\(hd.L g).Sublist L/\∀r∈hd.R g,aH r R
 |e,t,L,R=>Q e t L R
def a4t{lZ:Type}{ws:List Nat}{k0 t:Nat->Value}{L:aP}{R:aJ}{hd:dV lZ}{Q:gA}(h:Q .ret t L R):a5J ws k0 hd Q .ret t L R:=h
def VV{lZ:Type}{ws:List Nat}{k0 t:Nat->Value}{L:aP}{R:aJ}{hd:dV lZ}{Q:gA}(g:lZ)(ho:lD ws k0 t)(hs:DR t (hd.uP g))(c2:(hd.L g).Sublist L)(bD:∀r∈hd.R g,aH r R):a5J ws k0 hd Q .normal t L R:=⟨g,ho,hs,c2,bD⟩
def v2{lZ:Type}{P n x y t L R}{Q:gA}(ws:List Nat)(hd:dV lZ)(h:cH P n x t L R (a5J ws t hd Q))(k:∀g bZ,cH P n y (B5 (AH ws t bZ) (hd.uP g)) (hd.L g) (hd.R g) Q):cH P n x t L R (e9 P n y Q):=by
 intro c a w hf hs;refine wp_mono (h c a w hf hs) ?_;rintro e a w ⟨q9,t',E,G,hq,AN,uK⟩;cases e with
 |normal=>
  obtain⟨g,ho,RK,c2,bD⟩:=hq;have e:B5 (AH ws t t') (hd.uP g)=t':=by rw[Yo ho,Rh RK]
  refine⟨trivial,t',E,G,?_,AN,uK⟩;have:=k g t';rw[e]at this;exact uV c2 bD this
 |_=>exact⟨q9,t',E,G,hq,AN,uK⟩
def add_zero(a:Addr):a.add 0=a:=by simp[Addr.add]
def b2y(a:Option Addr)(h m s:Nat):sliced a 0 h m s=.slice a h m:=by
 unfold sliced;split;·rfl
 ·
  cases a with
  |none=>rfl
  |some a=>simp[add_zero]
def a0w{P:Program}{bA:Operand->Value}{L:aP}{R:aJ}{dst:Option Tmp}{ty:TypeId}{pos:String}{after:Array Edge}{guard:Option (Nat×Bool)}(O:pP P){T:TypeId}{x y:Operand}{k:IntKind}{h:Int}{n len cap:Nat}{j6:Option Addr}{e sC Z g5 z eE fL qR nC iX}
 (dN:hT O.g2 T=some ⟨.slice e,sC,Z,g5,z⟩) (c1:hT O.g2 e=some ⟨eE,fL,qR,nC,iX⟩) (K:bA x=.slice j6 len cap) (aN:bA y=.int k h) (bX:h=(n:Int)) (hn:n<=cap):
 cJ P ⟨dst,.slice T x none (some y) none,ty,pos,after,guard⟩ bA L R (.slice j6 n cap):=λ_ w _=>by
 have c4:=QX (O.ok _ _ dN) rfl
 have X:P.elem T=e:=by simp[Program.elem,c4]
 have RL:P.underlying T=some (.slice (P.elem T)):=by rw[X];exact c4
 have hs:=run_sizeOf (O.ok _ _ c1) w
 simp only at hs
 subst bX
 have N:=run_slice_h (P:=P) w T j6 len cap RL k (n:Int) D D
 rw[X,hs,wO,vY,b2y]at N
 simp[execOp,K,aN,run_sliceAt_slice w T _ _ _ _ RL,N]
def aN2{w:World}{aC:Nat->Prop}{aR len cap k:Nat}{a:Option Addr}{rows:List (List Value)}{eQ:aJ}(h:tW w aC (.mk aR a len cap rows eQ))(hk:k<=len):tW w aC (.mk aR a k cap (rows.take k) eQ):=by
 cases h with
 |mk hl hc hm cV M hs=>
  refine .mk B6 D hm (λr M=>cV r (Qc M)) ?_ hs;rcases M with bQ|⟨b,off,ha,hg,MH⟩;·exact .inl (by rw[bQ];simp)
  ·refine .inr ⟨b,off,ha,hg,λi j aA aY=> ?_⟩;rw[MH i j D aY,Cw,if_pos aA]
def b6D{P n code t L R}{Q:gA}{aR len cap:Nat}{a:Option Addr}{rows:List (List Value)}{eQ:aJ}(k:Nat)(bD:aH (.mk aR a len cap rows eQ) R)(hk:k<=len)(h:cH P n code t L (.mk aR a k cap (rows.take k) eQ::R) Q):cH P n code t L R Q:=
 aAy (λw aC bX=>by obtain⟨r,M,hs⟩:=bD;exact aN2 ((bX r M).sub hs) hk) h
def a0t{aV:Type}{P n code t L R}{Q:gA}{aR:Nat}{f:aV->List Value}{eQ:aJ}{y:a0 aV}(m:Nat)(bD:aH (y.fI aR f eQ) R)(h:cH P n code t L ((⟨y.a,y.cap,y.l.take m⟩:a0 aV).fI aR f eQ::R) Q):cH P n code t L R Q:=by
 have N:=b6D (Q:=Q) (t:=t) (L:=L) (P:=P) (n:=n) (code:=code) (y.l.take m).length bD (by rw[Cx];omega);refine N ?_;have e:(y.l.map f).take (y.l.take m).length=(y.l.take m).map f:=by
  rw[Cx,<-List.map_take];congr 1;rcases Nat.le_total m y.l.length with h|h;·rw[Nat.min_eq_left h]
  ·rw[Nat.min_eq_right h,HV h,HV (g4 _)]
 rw[e];exact h
def J2{P f args L R}{Post:oY}{aR len cap:Nat}{a:Option Addr}{rows:List (List Value)}{eQ:aJ}(Gt:∀(xs:Array Value) (w:World),(callFunc f xs).run P w=.ok (.enter f xs) w)(bD:aH (.mk aR a len cap rows eQ) R)(h:len<=cap/\cap<9223372036854775808->aI P f args L R Post):aI P f args L R Post:=by refine⟨Gt,λw aC bX=>?_⟩;obtain⟨r,M,l6⟩:=bD;exact(h ((bX.p3 r M).sub l6).aRU).2 w aC bX
def b53{P n all ops t L E R G}{Q:gA}(c2:E.Sublist L)(bD:∀r∈G,aH r R)(h:c6 P n all ops t E G Q):c6 P n all ops t L R Q:=
 λc a w hf hs=>h c a w hf (hs.vB c2 bD)
def b9n{P n all t k0 L E R G ws LK v}(N:h9 t LK=.bool v)(V:lD ws k0 t)(c2:E.Sublist L)(bD:∀r∈G,aH r R):c6 P n all [] t L R (e8 ws k0 LK v E G):=
 b53 c2 bD (eI (b6C N V))
def aLG{w:World}{aC:Nat->Prop}{aR:Nat}:tW w aC (.mk aR none 0 0 [] []):=.mk rfl (g4 _) bH fX (.inl rfl) fX
def Sz{P n code t L R}{Q:gA}(aR:Nat)(h:cH P n code t L (.mk aR none 0 0 [] []::R) Q):cH P n code t L R Q:=aAy (λ_ _ _=>aLG) h
structure a4K(P:Program)(T:TypeId):Prop where
 eq:∀(a b c d:Int) (w:World),(Op.equalIn 10000 T (.agg #[.int .i64 a,.int .i64 b]) (.agg #[.int .i64 c,.int .i64 d])).run P w=.ok (decide (a=c) && decide (b=d)) w
 guard:P.eqGuardType P.depth T=false
def b2x{P:Program}{T I:TypeId}(N:P.underlying T=some (.struct (P.fieldsOf T)))(V:P.stoodInHeld T=false)(aQ:P.eqGuardType P.depth T=false)(b7:(P.fieldsOf T).toList.map (fun f=>(f.name== "_",f.type,f.offset))=[(false,I,0),(false,I,1)])
 (dR:P.underlying I=some (.int .i64)):a4K P T:=by
 refine⟨λa b c d w=>?_,aQ⟩;rw[run_equalIn_agg w 9999 T _ _ N V];generalize (P.fieldsOf T).toList=uE at b7;obtain⟨f,g,rfl⟩:∃f g,uE=[f,g]:=by
  have hl:=congrArg List.length b7;simp only[uQ]at hl;cases uE with
  |nil=>cases hl
  |cons f uE=>cases uE with
   |nil=>cases hl
   |cons g uE=>cases uE with
    |nil=>exact⟨f,g,rfl⟩
    |cons _ _=>cases hl
 simp only[y3,Cy,a8J,Prod.mk.injEq,and_true]at b7;obtain⟨⟨iA,iN,a0X⟩,u1,q7,KW⟩:=b7;have M9:f.name≠ "_" :=by simpa using iA
 have u7:g.name≠ "_" :=by simpa using u1
 have I8:(isAgg I).run P w=.ok false w:=by simp[isAgg,run_underlying dR]
 have hp:∀(cs:Array Value) (off:Nat) (v:Value),cs[off]?=some v->(part I cs off).run P w=.ok v w:=λcs off v h=>by simp only[part,y5,I8,wO];simp[h]
 have dY:(Op.equalIn 9999 I (.int .i64 a) (.int .i64 c)).run P w=.ok (a==c) w:=run_equalIn_int (P:=P) w 9998 I .i64 .i64 a c dR;have eY:(Op.equalIn 9999 I (.int .i64 b) (.int .i64 d)).run P w=.ok (b==d) w:=run_equalIn_int (P:=P) w 9998 I .i64 .i64 b d dR;have gC:(part I #[Value.int .i64 a,Value.int .i64 b] 0).run P w=.ok (.int .i64 a) w:=hp _ _ _ rfl;have dJ:(part I #[Value.int .i64 c,Value.int .i64 d] 0).run P w=.ok (.int .i64 c) w:=hp _ _ _ rfl;have bGn:(part I #[Value.int .i64 a,Value.int .i64 b] 1).run P w=.ok (.int .i64 b) w:=hp _ _ _ rfl;have bGo:(part I #[Value.int .i64 c,Value.int .i64 d] 1).run P w=.ok (.int .i64 d) w:=hp _ _ _ rfl;rw[a4f]at dY eY;simp only[Op.eqFields,if_pos M9,if_pos u7,iN,a0X,q7,KW,y5,gC,dJ,wO,dY,Sem.run_ite,NL,bGn,bGo,eY];by_cases a6P:a=c<;>by_cases bBW:b=d<;>simp[a6P,bBW]
section
variable{P:Program}{bA:Operand->Value}{L:aP}{R:aJ}{dst:Option Tmp}{ty:TypeId}{pos:String}{after:Array Edge}{guard:Option (Nat×Bool)}{T jD:TypeId}{x y:Operand}{a b c d:Int}
def a5X(dN:a4K P T)(K:bA x=.agg #[.int .i64 a,.int .i64 b])(aN:bA y=.agg #[.int .i64 c,.int .i64 d]):cJ P ⟨dst,.binOp .eql T x y jD,ty,pos,after,guard⟩ bA L R (.bool (decide (a=c) && decide (b=d))):=λ_ w _=>by
 have N:=run_eqGuard_agg (P:=P) w .eql T x y #[.int .i64 a,.int .i64 b] #[.int .i64 c,.int .i64 d] dN.guard
 simp only[execOp,K,aN,y5,N,wO,run_eql_struct,dN.eq]
 simp
def aBQ(dN:a4K P T)(K:bA x=.agg #[.int .i64 a,.int .i64 b])(aN:bA y=.agg #[.int .i64 c,.int .i64 d]):cJ P ⟨dst,.binOp .neq T x y jD,ty,pos,after,guard⟩ bA L R (.bool (!(decide (a=c) && decide (b=d)))):=λ_ w _=>by
 have N:=run_eqGuard_agg (P:=P) w .neq T x y #[.int .i64 a,.int .i64 b] #[.int .i64 c,.int .i64 d] dN.guard
 simp only[execOp,K,aN,y5,N,wO,run_neq_struct,dN.eq]
 simp
end
end Go.Aw
