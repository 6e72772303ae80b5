-- By an AI agent; no person has read it.
import Derived.Test.YtchfclmokpbldaaGreatData
set_option linter.all false
set_option maxHeartbeats 4000000
namespace Go.Aw
open Go
def a44{a7:Type}{f:a7->List Value}{aN:Nat}(aF: ∀x,(f x).length=aN): ∀(l:List a7) (i j:Nat),j<aN->(l.flatMap f)[i*aN+j]? =(l[i]?).bind λx=>(f x)[j]?
 |[],i,j,_=>by simp
 |x::l,0,j,a6=>by
  rw[CF,XU (by rw[aF];omega)]
  simp
 |x::l,i+1,j,a6=>by
  rw[CF,Nv (by rw[aF,MC];omega),aF]
  rw[show(i+1)*aN+j-aN=i*aN+j by rw[MC];omega]
  rw[a44 aF l i j a6]
  simp
def JG{a7:Type}{f:a7->List Value}{aN:Nat}(aF: ∀x,(f x).length=aN): ∀(l:List a7),(l.flatMap f).length=l.length*aN
 |[]=>by simp
 |x::l=>by rw[CF,l9,aF,JG aF l,wD,MC];omega
def aEH{a7:Type}{f:a7->List Value}{aN:Nat}(aF: ∀x,(f x).length=aN): ∀(l:List a7) (i j:Nat) (x wY:a7) (v:Value),j<aN->l[i]? =some x->(f x).set j v=f wY->(l.flatMap f).set (i*aN+j) v=(l.set i wY).flatMap f
 |[],i,j,x,wY,v,_,h,_=>by simp at h
 |y::l,0,j,x,wY,v,a6,h,aH=>by
  simp only[aCH,Np]at h
  subst h
  rw[CF,aCw,CF,<-aH,List.set_append_left _ _ (by rw[aF];omega)]
  simp
 |y::l,i+1,j,x,wY,v,a6,h,aH=>by
  rw[CF,List.set_cons_succ,CF,List.set_append_right _ _ (by rw[aF,MC];omega),aF]
  rw[show(i+1)*aN+j-aN=i*aN+j by rw[MC];omega]
  rw[aEH aF l i j x wY v a6 Oi aH]
def a7y(b aN i j:Nat):n6 (some ⟨b,0,none⟩) aN i j=i*aN+j:=by simp[n6,Ky]
section
variable{a7:Type}{f:a7->List Value}{aN b i j:Nat}{l:List a7}{x wY:a7}{v:Value}{spare:List Value}
def a46(aF:∀x,(f x).length=aN)(K:l[i]?=some x)(cY:(f x)[j]?=some v):(l.flatMap f)[n6 (some ⟨b,0,none⟩) aN i j]?=some v:=by
 have a6:j<aN:=by have:=(List.getElem?_eq_some_iff.1 cY).1;rw[aF]at this;exact this
 rw[a7y,a44 aF l i j a6,K];exact cY
def aWa(aF:∀x,(f x).length=aN)(K:l[i]?=some x)(a6:j<aN):Nat.blt (n6 (some ⟨b,0,none⟩) aN i j) (l.flatMap f).length=true:=by rw[a7y,JG aF];have aE:=(List.getElem?_eq_some_iff.1 K).1;have:(i+1)*aN<=l.length*aN:=Wg _ aE;rw[MC]at this;simp;omega
def De(aF:∀x,(f x).length=aN)(a6:j<aN)(K:l[i]?=some x)(aH:(f x).set j v=f wY):(l.flatMap f).set (n6 (some ⟨b,0,none⟩) aN i j) v=(l.set i wY).flatMap f:=by rw[a7y];exact aEH aF l i j x wY v a6 K aH
def aJo(aF:∀x,(f x).length=aN)(K:l[i]?=some x)(cY:(f x)[j]?=some v):(l.flatMap f++spare)[n6 (some ⟨b,0,none⟩) aN i j]?=some v:=by have:=a46 (b:=b) aF K cY;rw[XU (List.getElem?_eq_some_iff.1 this).1];exact this
end
def a59{a7:Type}{f:a7->List Value}{z:List Value}{x:a7}(h:z=f x)(m:Nat):z3 z m=(List.replicate m x).flatMap f:=by
 induction m with
 |zero=>rfl
 |succ m c6=>rw[z3,c6,a3G,CF,h]
structure J(a7:Type) where
 o:g6
 l:List a7
def g6.pS:g6->Option Addr
 | .nil=>none
 | .own g _ _=>some ⟨g,0,none⟩
def g6.cap:g6->Nat
 | .nil=>0
 | .own _ cap _=>cap
def J.val{a7:Type}(p:J a7):Value:=.slice p.o.pS p.l.length p.o.cap
def J.L{a7:Type}(T:TypeId)(f:a7->List Value)(p:J a7):aR:=p.o.L T (p.l.flatMap f)
def J.ok{a7:Type}(aN:Nat)(f:a7->List Value)(p:J a7):Prop:=p.o.ok aN (p.l.flatMap f) p.l.length
abbrev J.V{a7:Type}(p:J a7):a4 a7:=⟨p.o.pS,p.o.cap,p.l⟩
abbrev J.nil{a7:Type}:J a7:=⟨.nil,[]⟩
def J.iJ{a7:Type}{aN:Nat}{f:a7->List Value}:(J.nil:J a7).ok aN f:=⟨rfl,rfl⟩
def g6.aQi{aN n:Nat}{xs:List Value}{o:g6}(h:o.ok aN xs n):o.val n=.slice o.pS n o.cap:=by
 cases o with
 |nil=>rw[h.1];rfl
 |own=>rfl
def JF{a7:Type}(p:J a7):List Value:=[p.val]
inductive sA{a7:Type}(T:TypeId)(f:a7->List Value)(p:J a7):aR->(J a7->aR)->Prop
 |lT {B:aR}:sA T f p (p.L T f++B) (λq=>q.L T f++B)
 |A2:sA T f p (p.L T f) (λq=>q.L T f)
 |at {l:List (J a7)} {i:Nat} {B:aR} (h:l[i]?=some p):sA T f p (l.flatMap (J.L T f)++B) (λq=>(l.set i q).flatMap (J.L T f)++B)
 |cons {x:bN} {L:aR} {F:J a7->aR} (h:sA T f p L F):sA T f p (x::L) (λq=>x::F q)
 |s7 {CV L:aR} {F:J a7->aR} (h:sA T f p L F):sA T f p (CV++L) (λq=>CV++F q)
def aID{a7:Type}{g:a7->aR}: ∀{l:List a7} {i:Nat} {p:a7},l[i]? =some p->∃A B,l.flatMap g=A++g p++B/\∀q,(l.set i q).flatMap g=A++g q++B
 |[],i,p,h=>by simp at h
 |x::l,0,p,h=>by
  simp only[aCH,Np]at h
  subst h
  exact⟨[],l.flatMap g,by simp,λq=>by simp⟩
 |x::l,i+1,p,h=>by
  obtain⟨A,B,O,X⟩:=aID (g:=g) (l:=l) (i:=i) (p:=p) Oi
  exact⟨g x++A,B,by simp[O],λq=>by simp[X]⟩
def sA.split{a7:Type}{T:TypeId}{f:a7->List Value}{p:J a7}{L:aR}{F:J a7->aR}(h:sA T f p L F):∃A B,L=A++p.L T f++B/\∀q,F q=A++q.L T f++B:=by
 induction h with
 | @lT B=>exact⟨[],B,by simp,λq=>by simp⟩
 |A2=>exact⟨[],[],by simp,λq=>by simp⟩
 | @«at» l i B h=>obtain⟨A,aTr,O,X⟩:=aID (g:=J.L T f) h;exact⟨A,aTr++B,by simp[O],λq=>by simp[X]⟩
 | @cons x L F _ c6=>obtain⟨A,B,O,X⟩:=c6;exact⟨x::A,B,by simp[O],λq=>by simp[X]⟩
 | @s7 CV L F _ c6=>obtain⟨A,B,O,X⟩:=c6;exact⟨CV++A,B,by simp[O],λq=>by simp[X]⟩
def aD5(A gC B:aR):HE gC (A++gC++B) (λx3=>A++x3++B):=by
 have h:HE gC (A++(gC++B)) (λx3=>A++(x3++B)):=.s7 .lT;have eV:A++(gC++B)=A++gC++B:=(oB _ _ _).symm;have fN:(λx3=>A++(x3++B))=(λx3=>A++x3++B):=by funext x3;exact(oB _ _ _).symm
 rwa[eV,fN]at h
section
variable{P:Program}{bF:Operand->Value}{L:aR}{R:aO}{dst:Option Tmp}{ty:TypeId}{pos:String}{after:Array Edge}{guard:Option (Nat×Bool)}(N:oE P){T:TypeId}{x y:Operand}
def pO{a7:Type}{e n aA g0 z fI fV rB nB iX}{f:a7->List Value}{p:J a7}{a:a7}{F:J a7->aR}(dW:hW N.g1 T=some ⟨.slice e,n,aA,g0,z⟩)(c5:hW N.g1 e=some ⟨fI,fV,rB,nB,iX⟩)(AU:iX.length=fV)
 (K:bF x=p.val) (bH:p.ok fV f) (xG:sA e f p L F) (aH:Jm L R (bF y) 1 fV (f a)) (O:(f a).all (·.oneCell')=true) (QJ:(p.l.length+1)*(nB+1)<=140737488355328):
 eC P ⟨dst,.call ⟨.builtin .append,#[x,y],#[T,T]⟩,ty,pos,after,guard⟩ bF L R (λv E G=>∃o:g6,v=(⟨o,p.l++[a]⟩:J a7).val/\(⟨o,p.l++[a]⟩:J a7).ok fV f/\F ⟨o,p.l++[a]⟩=E/\R=G):=by
 obtain⟨A,B,dI,kN⟩:=xG.split;subst dI;have EL:(p.l.length+1)*nB<=140737488355328:=G0 (aCq _ (Nat.le_succ _)) QJ;have y8:p.l.length+1<=140737488355328:=G0 (aCG _ (Nat.succ_pos _)) QJ;have TV:bF x=p.o.val p.l.length:=by rw[K,g6.aQi bH];rfl
 have:=a4Q (dst:=dst) (ty:=ty) (pos:=pos) (after:=after) (guard:=guard) N dW c5 AU TV bH (aD5 A _ B) aH D O D EL;intro c w cT a1B next Q iB
 refine this c w cT a1B next Q ?_
 rintro v E G w' ⟨g,cap,spare,rfl,GI,rfl,rfl⟩ qF;have e:p.l.flatMap f++f a=(p.l++[a]).flatMap f:=by simp
 rw[e]at GI;have aX:(p.l++[a]).length=p.l.length+1:=by simp
 exact aOD
end
def Qr{a7:Type}{f:a7->List Value}(l:List a7):(l.map f).flatten=l.flatMap f:=by rw[List.flatMap_def]
def dQ.ZO{a7:Type}{c:w3}{L:aR}{R:aO}{w:World}{T:TypeId}{f:a7->List Value}{aN:Nat}{p:J a7}{eU:aO}(h:dQ c (p.L T f++L) R w)(bH:p.ok aN f)(aF: ∀x,(f x).length=aN)(yB:0<aN)
 (lU:∀s∈eU,aL s R):dQ c L (p.V.gN aN f eU::R) w:=by
 obtain⟨o,l⟩:=p;cases o with
 |nil=>
  obtain⟨O,X⟩:=bH;have aX:l=[]:=Hx O;subst aX;obtain⟨⟨Z,b4,b7⟩,dG,aG⟩:=h;refine⟨⟨Z,⟨b4.nM,b4.own,b4.tZ,b4.sM,λr M=>?_⟩,b7⟩,dG,aG⟩;rcases List.mem_cons.1 M with rfl|M;·refine .mk rfl (EZ _) (by simp[g6.cap]) g2 (.inl rfl) (λs aH=> ?_);obtain⟨r,M,TT⟩:=lU s aH;exact(b4.o8 r M).sub TT
  ·exact b4.o8 r M
 |own g cap spare=>
  obtain⟨O,X,aU,cK⟩:=bH;dsimp only at O X aU cK;have:=h.JY (b:=g) (cs:=l.flatMap f++spare) (T:=T) (aN:=aN) (len:=l.length) (cap:=cap) (rows:=l.map f) (eU:=eU) g2 X (by simp only[maxLen]at aU;omega) (by simp;intro r _;exact aF r) yB
   (by rw[Qr,<-O,List.take_left'];rfl) lU
  exact this
def dQ.aLF{a7:Type}{c:w3}{L:aR}{w:World}{T:TypeId}{f:a7->List Value}{aN:Nat}{sub:a7->fJ}(aF:∀x,(f x).length=aN)(yB:0<aN):∀(l:List (J a7)) {R:aO},dQ c (l.flatMap (J.L T f)++L) R w->(∀p∈l,p.ok aN f)->
 (∀p∈l,∀x∈p.l,aL (sub x) R)->∃S:aO,(∀p∈l,aL (p.V.gN aN f (p.l.map sub)) S)/\dQ c L (S++R) w
 |[],R,h,_,_=>⟨[],by simp,by simpa using h⟩
 |p::l,R,h,bH,aH=>by
  rw[CF,oB]at h
  have O:=h.ZO (eU:=p.l.map sub) (bH p g2) aF yB (λs r1=>by
   obtain⟨x,K,rfl⟩:=List.mem_map.1 r1
   exact aH p g2 x K)
  obtain⟨S,X,aU⟩:=dQ.aLF aF yB l O (λq cJ=>bH q (by simp[cJ])) (λq cJ x K=>by
   obtain⟨r,M,ES⟩:=aH q (by simp[cJ]) x K
   exact⟨r,by simp[M],ES⟩)
  refine⟨S++[p.V.gN aN f (p.l.map sub)],λq cJ=>?_,by simpa using aU⟩
  rcases List.mem_cons.1 cJ with rfl|cJ
  ·exact⟨_,by simp,.lT⟩
  ·obtain⟨r,M,ES⟩:=X q cJ
   exact⟨r,by simp[M],ES⟩
def dQ.aLG{a7:Type}{c:w3}{L:aR}{w:World}{T:TypeId}{f:a7->List Value}{aN:Nat}(aF:∀x,(f x).length=aN)(yB:0<aN):∀(l:List (J a7)) {R:aO},dQ c (l.flatMap (J.L T f)++L) R w->(∀p∈l,p.ok aN f)->
 ∃S:aO,(∀p∈l,aL (p.V.gN aN f []) S)/\dQ c L (S++R) w
 |[],R,h,_=>⟨[],by simp,by simpa using h⟩
 |p::l,R,h,bH=>by
  rw[CF,oB]at h
  have O:=h.ZO (eU:=[]) (bH p g2) aF yB (λs r1=>by cases r1)
  obtain⟨S,X,aU⟩:=dQ.aLG aF yB l O (λq cJ=>bH q (by simp[cJ]))
  refine⟨S++[p.V.gN aN f []],λq cJ=>?_,by simpa using aU⟩
  rcases List.mem_cons.1 cJ with rfl|cJ
  ·exact⟨_,by simp,.lT⟩
  ·obtain⟨r,M,ES⟩:=X q cJ
   exact⟨r,by simp[M],ES⟩
def R5{P n code t L R}{Q:gF}(h:∀c w,dQ c L R w->∃E G,dQ c E G w/\cQ P n code t E G Q):cQ P n code t L R Q:=λc a w aF aH=>by
 obtain⟨E,G,r1,cG⟩:=h c w aH
 exact cG c a w aF r1
def aVU{a7:Type}{P n code t L R}{Q:gF}{T:TypeId}{f:a7->List Value}{aN:Nat}{p:J a7}(eU:aO)(bH:p.ok aN f)(aF: ∀x,(f x).length=aN)(yB:0<aN)(lU: ∀s∈eU,aL s R)
 (h:cQ P n code t L (p.V.gN aN f eU::R) Q):cQ P n code t (p.L T f++L) R Q:=
 R5 λ_ _ aH=>⟨_,_,aH.ZO bH aF yB lU,h⟩
def aZf{a7:Type}{P n code t L R}{Q:gF}{T:TypeId}{f:a7->List Value}{aN:Nat}{A:aR}{l:List (J a7)}(sub:a7->fJ)(aF: ∀x,(f x).length=aN)(yB:0<aN)(bH: ∀p∈l,p.ok aN f)(aH: ∀p∈l,∀x∈p.l,aL (sub x) R)
 (h:∀S:aO,(∀p∈l,aL (p.V.gN aN f (p.l.map sub)) S)->cQ P n code t (A++L) (S++R) Q):cQ P n code t (A++(l.flatMap (J.L T f)++L)) R Q:=by
 refine R5 λc w cT=>?_;have aP:(A++(l.flatMap (J.L T f)++L)).Perm (l.flatMap (J.L T f)++(A++L)):=by exact a4h
 obtain⟨S,O,X⟩:=dQ.aLF aF yB l (cT.CA aP) bH aH;exact⟨_,_,X,h S O⟩
def aHB{a7:Type}{P n code t L R}{Q:gF}{T:TypeId}{f:a7->List Value}{aN:Nat}{A:aR}{l:List (J a7)}(aF: ∀x,(f x).length=aN)(yB:0<aN)(bH: ∀p∈l,p.ok aN f)
 (h:∀S:aO,(∀p∈l,aL (p.V.gN aN f []) S)->cQ P n code t (A++L) (S++R) Q):cQ P n code t (A++(l.flatMap (J.L T f)++L)) R Q:=by
 refine R5 λc w cT=>?_;have aP:(A++(l.flatMap (J.L T f)++L)).Perm (l.flatMap (J.L T f)++(A++L)):=by exact a4h
 obtain⟨S,O,X⟩:=dQ.aLG aF yB l (cT.CA aP) bH;exact⟨_,_,X,h S O⟩
def E7{a7:Type}{P n code t L R}{Q:gF}{T:TypeId}{f:a7->List Value}{aN:Nat}{A:aR}{p:J a7}(eU:aO)(aF: ∀x,(f x).length=aN)(yB:0<aN)(bH:p.ok aN f)(aH: ∀s∈eU,aL s R)
 (h:cQ P n code t (A++L) (p.V.gN aN f eU::R) Q):cQ P n code t (A++(p.L T f++L)) R Q:=by
 refine R5 λc w cT=>?_;have aP:(A++(p.L T f++L)).Perm (p.L T f++(A++L)):=by exact a4h
 exact⟨_,_,dQ.ZO (cT.CA aP) bH aF yB aH,h⟩
def Pd{P n code t L R}{Q:gF}{A:aR}{b:Nat}{cs:List Value}{T:TypeId}{aN len cap:Nat}{rows:List (List Value)}{eU:aO}
 (aX:rows.length=len) (cG:len<=cap) (a3:cap<9223372036854775808) (dH:∀r∈rows,r.length=aN) (aP:0<aN) (rY:cs.take (len*aN)=rows.flatten) (lU:∀s∈eU,aL s R)
 (h:cQ P n code t (A++L) (.mk aN (some ⟨b,0,none⟩) len cap rows eU::R) Q):cQ P n code t (A++(⟨b,cs,T⟩::L)) R Q:=
 R5 λ_ _ cT=>⟨_,_,dQ.JY (cT.CA a3A) aX cG a3 dH aP rY lU,h⟩
def mE{a7:Type}{T:TypeId}{f:a7->List Value}:(J.nil:J a7).L T f=[]:=rfl
def eM{P n code t L E R}{Q:gF}(h:L=E)(k:cQ P n code t E R Q):cQ P n code t L R Q:=h▸k
def aFj{a7:Type}{f:a7->List Value}{aN:Nat}(aF:∀x,(f x).length=aN):∀(l:List a7) (i j:Nat) (x wY:a7) (vs:List Value),j+vs.length<=aN->l[i]?=some x->(f x).take j++vs++(f x).drop (j+vs.length)=f wY->
 (l.flatMap f).take (i*aN+j)++vs++(l.flatMap f).drop (i*aN+j+vs.length)=(l.set i wY).flatMap f
 |[],i,j,x,wY,vs,_,h,_=>by simp at h
 |y::l,0,j,x,wY,vs,a6,h,aH=>by
  simp only[aCH,Np]at h
  subst h
  have aS:=aF y
  rw[CF,aCw,CF,<-aH,Nat.zero_mul,MD]
  rw[aQl D,aQm D]
  simp only[oB]
 |y::l,i+1,j,x,wY,vs,a6,h,aH=>by
  have c6:=aFj aF l i j x wY vs a6 Oi aH
  have aS:=aF y
  have eV:(i+1)*aN+j=aN+(i*aN+j):=by rw[MC];omega
  rw[CF,List.set_cons_succ,CF,eV]
  rw[show aN+(i*aN+j)=(f y).length+(i*aN+j) by rw[aS],List.take_length_add_append]
  rw[show(f y).length+(i*aN+j)+vs.length=(f y).length+(i*aN+j+vs.length) by omega,List.drop_length_add_append]
  rw[<-c6]
  simp only[oB]
def J.a2Z{a7:Type}{aN:Nat}{f:a7->List Value}{p:J a7}(bH:p.ok aN f){i:Nat}(aE:i<p.l.length):∃g cap spare,p.o=.own g cap spare:=by
 cases dG:p.o with
 |nil=>rw[J.ok,dG]at bH;have:=bH.1;omega
 |own g cap spare=>exact⟨g,cap,spare,rfl⟩
def sA.mem{a7:Type}{T:TypeId}{f:a7->List Value}{p:J a7}{L:aR}{F:J a7->aR}(h:sA T f p L F){g cap:Nat}{spare:List Value}(dG:p.o=.own g cap spare):(⟨g,p.l.flatMap f++spare,T⟩:bN)∈L:=by obtain⟨A,B,dI,_⟩:=h.split;rw[dI,J.L,dG];simp[g6.L]
section
variable{P:Program}{bF:Operand->Value}{L:aR}{R:aO}{dst:Option Tmp}{ty:TypeId}{pos:String}{after:Array Edge}{guard:Option (Nat×Bool)}(N:oE P){T:TypeId}{x y:Operand}{a7:Type}{f:a7->List Value}{p:J a7}{F:J a7->aR}
def jA{k:IntKind}{a:Int}{e n fV g0 z nB iX fI}{aA rB:List (Nat×Nat)}{i:Nat}(p:J a7)(f:a7->List Value)(dW:hW N.g1 T=some ⟨.slice e,n,aA,g0,z⟩)(c5:hW N.g1 e=some ⟨fI,fV,rB,nB,iX⟩)
 (K:bF x=p.val) (aS:bF y=.int k a) (bH:p.ok fV f) (aE:a=(i:Int)) (i3:i<p.l.length):
 cP P ⟨dst,.indexAddr T x y,ty,pos,after,guard⟩ bF L R (.pointer (some ⟨w9 p.o.pS,n6 p.o.pS fV i 0,none⟩)):=by obtain⟨g,cap,spare,dG⟩:=J.a2Z bH i3;rw[dG];exact i5 N dW c5 (by rw[K,J.val,dG];rfl) aS aE i3
def aEG{c:w3}{w:World}{oD:TypeId}{aN i:Nat}{uE:a7}(aH:dQ c L R w)(xG:sA oD f p L F)(bH:p.ok aN f)(aF:∀x,(f x).length=aN)(M:p.l[i]?=some uE){j:Nat}{v:Value}(a6:(f uE)[j]?=some v):w.cell? ⟨w9 p.o.pS,n6 p.o.pS aN i j,none⟩=some v:=by obtain⟨g,cap,spare,dG⟩:=J.a2Z bH (List.getElem?_eq_some_iff.1 M).1;rw[dG];have:=VD aH (xG.mem dG) (n6 (some ⟨g,0,none⟩) aN i j);rw[show w9 (g6.own g cap spare).pS=g from rfl,show(g6.own g cap spare).pS=some ⟨g,0,none⟩from rfl,this];exact aJo aF M a6
def tK{n aN i j:Nat}{aA g0 z v}{iB:JC}{oD:TypeId}{uE:a7}(p:J a7)(K:bF x= .pointer (some ⟨w9 p.o.pS,n6 p.o.pS aN i j,none⟩))(dW:hW N.g1 T=some ⟨iB,n,aA,g0,z⟩)(aG:iB.isAgg=false)
 (xG:sA oD f p L F) (bH:p.ok aN f) (aF:∀x,(f x).length=aN) (M:p.l[i]?=some uE) (a6:(f uE)[j]?=some v):cP P ⟨dst,.load T x,ty,pos,after,guard⟩ bF L R v:=λc w cT=>by
 have:=a5t (P:=P) (w:=w) (N.ok _ _ dW) aG (v:=v) (aEG cT xG bH aF M a6)
 simp[execOp,K,Instr.loadAt,Instr.sureAddr,this]
def a57{n aN i j:Nat}{aA g0 z}{iB:JC}{oD:TypeId}{uE:a7}{row:List Value}(p:J a7)(K:bF x= .pointer (some ⟨w9 p.o.pS,n6 p.o.pS aN i j,none⟩))(dW:hW N.g1 T=some ⟨iB,n,aA,g0,z⟩)(aG:iB.isAgg=true)
 (xG:sA oD f p L F) (bH:p.ok aN f) (aF:∀x,(f x).length=aN) (M:p.l[i]?=some uE) (cY:sub (f uE) j n=row) (b1:row.length=n):cP P ⟨dst,.load T x,ty,pos,after,guard⟩ bF L R (.agg row.toArray):=λc w cT=>by
 have:=Zr (P:=P) (w:=w) (N.ok _ _ dW) aG (b:=w9 p.o.pS) (o:=n6 p.o.pS aN i j) (row:=row) b1 (λaBr v a6=>by
  rw[<-cY,sub,XX]at a6
  split at a6
  ·have:=aEG cT xG bH aF M (j:=j+aBr) (v:=v) (by simpa using a6)
   rw[<-this]
   simp[n6,We]
  ·cases a6)
 simp[execOp,K,Instr.loadAt,Instr.sureAddr,this]
def aF1{n aN i j:Nat}{aA g0 z}{iB:JC}{oD:TypeId}{uE OT:a7}{vs:List Value}{val:Value}(p:J a7)(dW:hW N.g1 T=some ⟨iB,n,aA,g0,z⟩)(K:bF x= .pointer (some ⟨w9 p.o.pS,n6 p.o.pS aN i j,none⟩))(aS:bF y=val)(Ml:val.cells=vs.toArray)(b1:vs.length=n)
 (xG:sA oD f p L F) (bH:p.ok aN f) (aF:∀x,(f x).length=aN) (M:p.l[i]?=some uE) (qT:j+vs.length<=aN) (aH:(f uE).take j++vs++(f uE).drop (j+vs.length)=f OT) (O:vs.all (·.oneCell')=true):
 eC P ⟨none,.store T x y,ty,pos,after,guard⟩ bF L R (λ_ i6 G=>F ⟨p.o,p.l.set i OT⟩=i6/\R=G):=by
 intro c w cT a next Q iB
 obtain⟨g,cap,spare,dG⟩:=J.a2Z bH (List.getElem?_eq_some_iff.1 M).1;obtain⟨A,B,dI,kN⟩:=xG.split;have vN:=JG aF p.l;have WO:=(List.getElem?_eq_some_iff.1 M).1;have b4e:(i+1)*aN<=p.l.length*aN:=Wg _ WO;rw[MC]at b4e;have Gv:=aFj aF p.l i j uE OT vs qT M aH;have rY:(p.l.flatMap f++spare).take (i*aN+j)++vs++(p.l.flatMap f++spare).drop (i*aN+j+vs.length)=(p.l.set i OT).flatMap f++spare:=by rw[aQl D,aQm D,<-Gv];simp only[oB]
 have dL:s1 g (p.l.flatMap f++spare) oD ((p.l.set i OT).flatMap f++spare) L (F ⟨p.o,p.l.set i OT⟩):=by rw[dI,kN,J.L,J.L,dG];simp only[g6.L,oB,pK,nN];exact .s7 .lT
 have WZ:=a6C (P:=P) (T:=T) (o:=i*aN+j) (vs:=vs) cT (N.ok _ _ dW) b1 (by rw[rY];exact dL) (by rw[l9,vN];omega) (List.all_eq_true.1 O) (val:=val) Ml;rw[rY]at WZ;refine aHn (w':=w.setRow g _) ?_ (iB undef _ R _ ⟨rfl,rfl⟩ (cT.setRow dL));rw[dG]at K;have TV:bF x=.pointer (some ⟨g,i*aN+j,none⟩):=by rw[K];simp[g6.pS,w9,n6,Ky]
 simp[execOp,TV,aS,Instr.storeAt,Instr.sureAddr,WZ]
def j5{n aN i j:Nat}{aA g0 z}{iB:JC}{oD:TypeId}{uE:a7}{v:Value}(p:J a7)(OT:a7)(dW:hW N.g1 T=some ⟨iB,n,aA,g0,z⟩)(K:bF x= .pointer (some ⟨w9 p.o.pS,n6 p.o.pS aN i j,none⟩))(aS:bF y=v)(b1:n=1)
 (xG:sA oD f p L F) (bH:p.ok aN f) (aF:∀x,(f x).length=aN) (M:p.l[i]?=some uE) (qT:j<aN) (aH:(f uE).set j v=f OT) (O:v.oneCell'=true):
 eC P ⟨none,.store T x y,ty,pos,after,guard⟩ bF L R (λ_ i6 G=>F ⟨p.o,p.l.set i OT⟩=i6/\R=G):=by
 have cG:v.cells=#[v]:=by cases v<;>first|rfl|(simp[Value.oneCell']at O)
 refine aF1 (vs:=[v]) N p dW K aS cG (by simp[b1]) xG bH aF M qT ?_ Xu;rw[OW,aJW _ _ _ (by rw[aF];exact qT),aH]
def R2{n aN i j:Nat}{aA g0 z}{iB:JC}{oD:TypeId}{uE:a7}{vs:List Value}(p:J a7)(OT:a7)(dW:hW N.g1 T=some ⟨iB,n,aA,g0,z⟩)(K:bF x= .pointer (some ⟨w9 p.o.pS,n6 p.o.pS aN i j,none⟩))(aS:bF y= .agg vs.toArray)(b1:vs.length=n)
 (xG:sA oD f p L F) (bH:p.ok aN f) (aF:∀x,(f x).length=aN) (M:p.l[i]?=some uE) (qT:j+vs.length<=aN) (aH:(f uE).take j++vs++(f uE).drop (j+vs.length)=f OT) (O:vs.all (·.oneCell')=true):
 eC P ⟨none,.store T x y,ty,pos,after,guard⟩ bF L R (λ_ i6 G=>F ⟨p.o,p.l.set i OT⟩=i6/\R=G):=
 aF1 N p dW K aS rfl b1 xG bH aF M qT aH O
end
def J.qX{a7:Type}{f:a7->List Value}{aN i:Nat}{p:J a7}{x:a7}(aF:∀x,(f x).length=aN)(bH:p.ok aN f):(⟨p.o,p.l.set i x⟩:J a7).ok aN f:=by
 have eV:(p.l.set i x).length=p.l.length:=by simp
 have fN:((p.l.set i x).flatMap f).length=(p.l.flatMap f).length:=by rw[JG aF,JG aF,eV]
 rw[J.ok]at bH|-;cases dG:p.o with
 |nil=>rw[dG]at bH;have:p.l=[]:=Hx bH.1;rw[this];exact⟨rfl,rfl⟩
 |own g cap spare=>rw[dG]at bH;obtain⟨O,X,aU,cK⟩:=bH;refine⟨by rw[fN,eV];exact O,by rw[eV];exact X,aU,?_⟩;rw[l9,fN,<-l9];exact cK
def J.o6{a7:Type}{f:a7->List Value}{aN:Nat}{o:g6}{l TZ:List a7}(aF:∀x,(f x).length=aN)(bH:(⟨o,l⟩:J a7).ok aN f)(h:TZ.length=l.length):(⟨o,TZ⟩:J a7).ok aN f:=by
 have fN:(TZ.flatMap f).length=(l.flatMap f).length:=by rw[JG aF,JG aF,h]
 rw[J.ok]at bH|-;dsimp only at bH|-;cases o with
 |nil=>have:TZ=[]:=Hx (by rw[h];exact bH.1);rw[this];exact⟨rfl,rfl⟩
 |own g cap spare=>obtain⟨O,X,aU,cK⟩:=bH;refine⟨by rw[fN,h];exact O,by rw[h];exact X,aU,?_⟩;rw[l9,fN,<-l9];exact cK
def J.b62{a7:Type}{o:g6}{l:List a7}{i:Nat}{x:a7}:(⟨o,l.set i x⟩:J a7).val=(⟨o,l⟩:J a7).val:=by simp[J.val]
def Pp{fn:Func}{P:Program}{t:Nat->Value}{L:aR}{R:aO}(M:fn.results=#[]):∀c n a w,mS n t a->dQ c L R w->(results fn a.tmps).run P w=.ok (.tuple #[]) w:=by intro c n a w _ _;rw[Rg,M];simp
def ZE{a7:Type}{f:a7->List Value}{z:List Value}{b n:Nat}{T:TypeId}{x:a7}(eW:z=f x)(L:aR):⟨b,z3 z n,T⟩::L=(⟨.own b n [],List.replicate n x⟩:J a7).L T f++L:=by rw[a59 eW n];simp[J.L,g6.L]
def ED{a7:Type}{f:a7->List Value}{aN b n:Nat}{x:a7}(aF:∀x,(f x).length=aN)(b1:n<=maxLen):(⟨.own b n [],List.replicate n x⟩:J a7).ok aN f:=by
 refine⟨?_,by simp,b1,?_⟩;·rw[JG aF]
 ·rw[GZ,JG aF];simp
def aFL{a7:Type}{f:a7->List Value}{cs:List Value}{b n:Nat}{T:TypeId}(l:List a7)(rY:cs=l.flatMap f)(L:aR):⟨b,cs,T⟩::L=(⟨.own b n [],l⟩:J a7).L T f++L:=by subst rY;simp[J.L,g6.L]
def a1y{a7:Type}{f:a7->List Value}{aN b n:Nat}{l:List a7}(aF:∀x,(f x).length=aN)(aX:l.length=n)(b1:n<=maxLen):(⟨.own b n [],l⟩:J a7).ok aN f:=by
 subst aX;refine⟨?_,by simp,b1,?_⟩;·rw[JG aF]
 ·rw[GZ,JG aF]
inductive zZ:aR->aR->aR->Prop
 |nil:zZ [] [] []
 |aD {L:aR}:zZ L L []
 |a1J {x:bN} {A B C:aR} (h:zZ A B C):zZ (x::A) (x::B) C
 |a7Z {x:bN} {A B C:aR} (h:zZ A B C):zZ (x::A) B (x::C)
 |b1a {gC A B C:aR} (h:zZ A B C):zZ (gC++A) (gC++B) C
 |b1b {gC A B C:aR} (h:zZ A B C):zZ (gC++A) B (gC++C)
def zZ.CA{A B C:aR}(h:zZ A B C):A.Perm (B++C):=by
 induction h with
 |nil=>exact .refl _
 |aD=>rw[GZ]
 |a1J _ c6=>exact c6.cons _
 | @a7Z x A B C _ c6=>exact(c6.cons x).trans List.perm_middle.symm
 | @b1a gC A B C _ c6=>rw[oB];exact c6.append_left _
 | @b1b gC A B C _ c6=>refine(c6.append_left gC).trans ?_;exact a4h
def aM.aOv{P:Program}{f:FuncId}{args:Array Value}{A B L:aR}{R:aO}{Post:oK}(aA0:zZ A B L)(h:aM P f args L R Post):aM P f args A R (λv i6 G=>∃E,B++E=i6/\Post v E G):=by have aP:=aA0.CA;refine⟨h.1,λw Z b4=>?_⟩;have qE:sZ (B++L) Z R w:=⟨(aP.map _).nodup_iff.1 b4.nM,λe W=>b4.own e (aP.mem_iff.2 W),λe W=>b4.tZ e (aP.mem_iff.2 W),b4.sM,b4.o8⟩;have dI:sZ L Z R w:=⟨(List.nodup_append.1 (by have:=qE.nM;rwa[u1]at this)).2.1,λe W=>qE.own e (lZ _ W),λe W=>qE.tZ e (lZ _ W),qE.sM,qE.o8⟩;refine(h.2 w Z dI).mono λe w' ⟨v,E,G,W,Gn,cT⟩=>⟨v,B++E,G,W,⟨E,rfl,Gn⟩,?_⟩;have X:=dQ.frame qE cT;exact aPh
def aM.Mn{P:Program}{f:FuncId}{args:Array Value}{A B L:aR}{R S:aO}{Post:Value->aR->Prop}(aA0:zZ A B L)
 (eL:∀w,∀Z:Nat->Prop,sZ (B++L) Z R w->∀s∈S,sB w (λb=>Z b\/∃e∈B,e.b=b) s)
 (h:aM P f args L (S++R) (λv E G=>Post v E/\S++R=G)):aM P f args A R (λv i6 G=>∃E,B++E=i6/\Post v E/\R=G):=by
 refine⟨h.1,λw Z b4=>?_⟩;have aP:=aA0.CA;have qE:sZ (B++L) Z R w:=⟨(aP.map _).nodup_iff.1 b4.nM,λe W=>b4.own e (aP.mem_iff.2 W),λe W=>b4.tZ e (aP.mem_iff.2 W),b4.sM,b4.o8⟩;have tW:=qE.nM;rw[u1,Nl]at tW;have a96:∀e∈L,¬∃uQ∈B,uQ.b=e.b:=λe W ⟨uQ,uU,a5⟩=>tW.2.2 uQ.b (List.mem_map.2 ⟨uQ,uU,rfl⟩) e.b (List.mem_map.2 ⟨e,W,rfl⟩) a5;have dI:sZ L (λb=>Z b\/∃e∈B,e.b=b) (S++R) w:=by
  refine⟨tW.2.1,λe W=>qE.own e (lZ _ W),λe W b7=>?_,λb a5=>?_,λr M=>?_⟩;·
   rcases b7 with b7|b7;·exact qE.tZ e (lZ _ W) b7
   ·exact a96 e W b7
  ·
   rcases a5 with a5|⟨e,W,rfl⟩;·exact qE.sM b a5
   ·exact qE.lt (r7 _ W)
  ·
   rcases List.mem_append.1 M with M|M;·exact eL w Z qE r M
   ·exact(qE.o8 r M).mono (λ_ h=>.inl h) (λ_ _=>rfl)
 refine(h.2 w _ dI).mono ?_;rintro e w' ⟨v,E,G,rfl,⟨Gn,rfl⟩,cT⟩;refine⟨v,B++E,R,rfl,⟨E,rfl,Gn,rfl⟩,?_⟩;obtain⟨⟨I4,a2d,jL⟩,dG,aG⟩:=cT
 -- what the lent blocks hold has not changed
 have BV:∀e∈B,w'.heap[e.b]?=w.heap[e.b]?:=λe W=>aG.block e.b (qE.lt (r7 _ W)) (λ⟨uQ,uU,a5⟩=>a96 uQ uU ⟨e,W,a5.symm⟩);have b1Z:∀uQ∈E,∀e∈B,uQ.b≠e.b:=λuQ uU e W a5=>by
  rcases dG uQ uU with O|O;·obtain⟨fN,EO,y8⟩:=O;exact a96 fN EO ⟨e,W,by rw[y8,a5]⟩
  ·rw[a5]at O;have:=qE.lt (r7 L W);simp only at O;omega
 have b17:∀b,Z b->w'.heap[b]?=w.heap[b]?:=λb a5=>aG.block b (qE.sM b a5) (λ⟨e,W,Fo⟩=>qE.tZ e (lZ _ W) (Fo▸a5));refine⟨⟨Z,⟨?_,λe W=>?_,λe W b7=>?_,λb a5=>Wi (qE.sM b a5) aG.size,λr M=>(qE.o8 r M).mono (λ_ h=>h) b17⟩,λb a5=>.inl a5⟩,λe W=>?_,⟨aG.os,aG.tape,aG.output,aG.size,λb a5 b1=>aG.block b a5 (λ⟨e,W,Fo⟩=>b1 ⟨e,aP.mem_iff.2 (lZ _ W),Fo⟩),aG.JY⟩⟩;·rw[u1,Nl];refine⟨tW.1,a2d.nM,λx K y aS Q0=>?_⟩;obtain⟨e,W,rfl⟩:=List.mem_map.1 K;obtain⟨uQ,uU,rfl⟩:=List.mem_map.1 aS;exact b1Z uQ uU e W Q0.symm
 ·
  rcases List.mem_append.1 W with W|W;·rw[BV e W];exact qE.own e (r7 _ W)
  ·exact a2d.own e W
 ·
  rcases List.mem_append.1 W with W|W;·exact qE.tZ e (r7 _ W) b7
  ·
   rcases dG e W with⟨fN,EO,y8⟩|O;·exact qE.tZ fN (lZ _ EO) (by rw[y8];exact b7)
   ·have:=qE.sM _ b7;simp only at O;omega
 ·
  rcases List.mem_append.1 W with W|W;·exact .inl ⟨e,aP.mem_iff.2 (r7 _ W),rfl⟩
  ·
   rcases dG e W with⟨fN,EO,y8⟩|O;·exact .inl ⟨fN,aP.mem_iff.2 (lZ _ EO),y8⟩
   ·exact .inr O
def aXs{a7:Type}{f:a7->List Value}{aN:Nat}{T:TypeId}{p:J a7}{L:aR}{Z:Nat->Prop}{R:aO}{w:World}{eU:aO}(b4:sZ L Z R w){I4:Nat->Prop}(kG: ∀e∈p.L T f,e∈L/\I4 e.b)(bH:p.ok aN f)(aF: ∀x,(f x).length=aN)(yB:0<aN)
 (lU:∀s∈eU,sB w I4 s):sB w I4 (p.V.gN aN f eU):=by
 cases dG:p.o with
 |nil=>
  rw[J.ok,dG]at bH;have aX:p.l=[]:=Hx bH.1;refine .mk g2 ?_ ?_ (by dsimp only;rw[aX];simp) (.inl (by dsimp only;rw[aX];rfl)) lU;·dsimp only;rw[aX,dG];exact EZ _
  ·dsimp only;rw[dG];simp[g6.cap]
 |own g cap spare=>
  have GI:=bH;rw[J.ok,dG]at bH;obtain⟨O,X,aU,cK⟩:=bH;obtain⟨a3,b7⟩:=kG ⟨g,p.l.flatMap f++spare,T⟩ (by rw[J.L,dG];simp[g6.L]);refine .mk g2 ?_ ?_ (by intro r M;obtain⟨x,_,rfl⟩:=List.mem_map.1 M;exact aF x) (.inr ⟨g,0,by dsimp only;rw[dG];rfl,b7,λi j aE a6=>?_⟩) lU;·dsimp only;rw[dG];exact X
  ·dsimp only;rw[dG];simp only[maxLen]at aU;simp only[g6.cap];omega
  ·
   dsimp only at aE;have a5:=b4.own _ a3;simp only[RK.Mr]at a5;(have eV:w.cell? ⟨g,0+i*aN+j,none⟩=(p.l.flatMap f++spare)[i*aN+j]?:=by simp[World.cell?,a5]);rw[eV];obtain⟨x,K⟩:=jW aE;(have aX:(p.l.flatMap f)[i*aN+j]?=(f x)[j]?:=by rw[a44 aF p.l i j a6,K];rfl);(have b3R:j<(f x).length:=by rw[aF];exact a6);rw[XU,aX,pA,K];·rfl
   ·rw[DN b3R]at aX;exact(List.getElem?_eq_some_iff.1 aX).1
def HW(x:Int):(a1 x).length=1:=rfl
def xT(gC B:aR):Prop:=∀e∈gC,e∈B
def aJ7{gC B:aR}:xT gC (gC++B):=λ_ h=>r7 _ h
def aUF{gC CV B:aR}(h:xT gC B):xT gC (CV++B):=λe W=>lZ _ (h e W)
def aY1{gC B:aR}{z:bN}(h:xT gC B):xT gC (z::B):=λe W=>OV _ (h e W)
def VF{a7:Type}{f:a7->List Value}{aN:Nat}{T:TypeId}{p:J a7}{B L:aR}{Z:Nat->Prop}{R:aO}{w:World}{eU:aO}(b4:sZ (B++L) Z R w)(BV:xT (p.L T f) B)(bH:p.ok aN f)(aF:∀x,(f x).length=aN)(yB:0<aN)(lU:∀s∈eU,aL s R):
 sB w (λb=>Z b\/∃e∈B,e.b=b) (p.V.gN aN f eU):=
 aXs b4 (λe W=>⟨r7 _ (BV e W),.inr ⟨e,BV e W,rfl⟩⟩) bH aF yB (λs aH=>by
  obtain⟨r,M,aG⟩:=lU s aH
  exact((b4.o8 r M).sub aG).mono (λ_ h=>.inl h) (λ_ _=>rfl))
def aJM{a7:Type}{b n:Nat}{x:a7}:(⟨.own b n [],List.replicate n x⟩:J a7).val=.slice (some ⟨b,0,none⟩) n n:=by simp[J.val,g6.pS,g6.cap]
def w6{a7:Type}{b n:Nat}{l:List a7}(h:l.length=n):Value.slice (some ⟨b,0,none⟩) n n=(⟨.own b n [],l⟩:J a7).val:=by simp[J.val,g6.pS,g6.cap,h]
def a0L{lO:Type}(ws:List Nat)(kZ:Nat->Value)(bM:fB lO)(Q:gF):gF
 | .normal,t,L,R=>∃g,kT ws kZ t/\CX t (bM.tF g)/\(bM.L g).Sublist L/\∀r∈bM.R g,aL r R
 |e,t,L,R=>Q e t L R
def a5S{lO:Type}{ws:List Nat}{kZ t:Nat->Value}{L:aR}{R:aO}{bM:fB lO}{Q:gF}(h:Q .ret t L R):a0L ws kZ bM Q .ret t L R:=h
def Df{lO:Type}{ws:List Nat}{kZ t:Nat->Value}{L:aR}{R:aO}{bM:fB lO}{Q:gF}(g:lO)(dG:kT ws kZ t)(aH:CX t (bM.tF g))(dI:(bM.L g).Sublist L)(bO:∀r∈bM.R g,aL r R):a0L ws kZ bM Q .normal t L R:=⟨g,dG,aH,dI,bO⟩
def F3{lO:Type}{P n x y t L R}{Q:gF}(ws:List Nat)(bM:fB lO)(h:cQ P n x t L R (a0L ws t bM Q))(k:∀g cH,cQ P n y (zQ (x7 ws t cH) (bM.tF g)) (bM.L g) (bM.R g) Q):cQ P n x t L R (e5 P n y Q):=by
 intro c a w aF aH;refine wp_mono (h c a w aF aH) ?_;rintro e a w ⟨r0,t',E,G,cJ,xF,r1⟩;cases e with
 |normal=>
  obtain⟨g,dG,Am,dI,bO⟩:=cJ;have e:zQ (x7 ws t t') (bM.tF g)=t':=by rw[Pq dG,Is Am]
  refine⟨trivial,t',E,G,?_,xF,r1⟩;have:=k g t';rw[e]at this;exact tO dI bO this
 |_=>exact⟨r0,t',E,G,cJ,xF,r1⟩
def add_zero(a:Addr):a.add 0=a:=by simp[Addr.add]
def aVn(a:Option Addr)(h m s:Nat):sliced a 0 h m s=.slice a h m:=by
 unfold sliced;split;·rfl
 ·
  cases a with
  |none=>rfl
  |some a=>simp[add_zero]
def a6V{P:Program}{bF:Operand->Value}{L:aR}{R:aO}{dst:Option Tmp}{ty:TypeId}{pos:String}{after:Array Edge}{guard:Option (Nat×Bool)}(N:oE P){T:TypeId}{x y:Operand}{k:IntKind}{h:Int}{n len cap:Nat}{jQ:Option Addr}{e r3 aA g0 z fI fV rB nB iX}
 (dW:hW N.g1 T=some ⟨.slice e,r3,aA,g0,z⟩) (c5:hW N.g1 e=some ⟨fI,fV,rB,nB,iX⟩) (K:bF x=.slice jQ len cap) (aS:bF y=.int k h) (b4:h=(n:Int)) (b1:n<=cap):
 cP P ⟨dst,.slice T x none (some y) none,ty,pos,after,guard⟩ bF L R (.slice jQ n cap):=λ_ w _=>by
 have dL:=M1 (N.ok _ _ dW) rfl
 have W:P.elem T=e:=by simp[Program.elem,dL]
 have N9:P.underlying T=some (.slice (P.elem T)):=by rw[W];exact dL
 have aH:=run_sizeOf (N.ok _ _ c5) w
 simp only at aH
 subst b4
 have O:=run_slice_h (P:=P) w T jQ len cap N9 k (n:Int) D D
 rw[W,aH,u2,xP,aVn]at O
 simp[execOp,K,aS,run_sliceAt_slice w T _ _ _ _ N9,O]
def aDt{w:World}{Z:Nat->Prop}{aN len cap k:Nat}{a:Option Addr}{rows:List (List Value)}{eU:aO}(h:sB w Z (.mk aN a len cap rows eU))(aG:k<=len):sB w Z (.mk aN a k cap (rows.take k) eU):=by
 cases h with
 |mk aX cG a3 dH M aH=>
  refine .mk DQ D a3 (λr M=>dH r (Wf M)) ?_ aH;rcases M with b2|⟨b,off,bT,b7,JF⟩;·exact .inl (by rw[b2];simp)
  ·refine .inr ⟨b,off,bT,b7,λi j aE a6=> ?_⟩;rw[JF i j D a6,XX,if_pos aE]
def b0W{P n code t L R}{Q:gF}{aN len cap:Nat}{a:Option Addr}{rows:List (List Value)}{eU:aO}(k:Nat)(bO:aL (.mk aN a len cap rows eU) R)(aG:k<=len)(h:cQ P n code t L (.mk aN a k cap (rows.take k) eU::R) Q):cQ P n code t L R Q:=
 a6M (λw Z b4=>by obtain⟨r,M,aH⟩:=bO;exact aDt ((b4 r M).sub aH) aG) h
def aFf{a7:Type}{P n code t L R}{Q:gF}{aN:Nat}{f:a7->List Value}{eU:aO}{y:a4 a7}(m:Nat)(bO:aL (y.gN aN f eU) R)(h:cQ P n code t L ((⟨y.a,y.cap,y.l.take m⟩:a4 a7).gN aN f eU::R) Q):cQ P n code t L R Q:=by
 have O:=b0W (Q:=Q) (t:=t) (L:=L) (P:=P) (n:=n) (code:=code) (y.l.take m).length bO (by rw[Hu];omega);refine O ?_;have e:(y.l.map f).take (y.l.take m).length=(y.l.take m).map f:=by
  rw[Hu,<-List.map_take];congr 1;rcases Nat.le_total m y.l.length with h|h;·rw[Nat.min_eq_left h]
  ·rw[Nat.min_eq_right h,DK h,DK (iK _)]
 rw[e];exact h
def G9{P f args L R}{Post:oK}{aN len cap:Nat}{a:Option Addr}{rows:List (List Value)}{eU:aO}(Tc:∀(xs:Array Value) (w:World),(callFunc f xs).run P w=.ok (.enter f xs) w)(bO:aL (.mk aN a len cap rows eU) R)(h:len<=cap/\cap<9223372036854775808->aM P f args L R Post):aM P f args L R Post:=by refine⟨Tc,λw Z b4=>?_⟩;obtain⟨r,M,lU⟩:=bO;exact(h ((b4.o8 r M).sub lU).aLv).2 w Z b4
def aTR{P n all ops t L E R G}{Q:gF}(dI:E.Sublist L)(bO:∀r∈G,aL r R)(h:dF P n all ops t E G Q):dF P n all ops t L R Q:=
 λc a w aF aH=>h c a w aF (aH.tI dI bO)
def aW1{P n all t kZ L E R G ws IU v}(O:iT t IU=.bool v)(X:kT ws kZ t)(dI:E.Sublist L)(bO:∀r∈G,aL r R):dF P n all [] t L R (e4 ws kZ IU v E G):=
 aTR dI bO (eZ (b0S O X))
def aDU{w:World}{Z:Nat->Prop}{aN:Nat}:sB w Z (.mk aN none 0 0 [] []):=.mk rfl (iK _) aW g2 (.inl rfl) g2
def Qu{P n code t L R}{Q:gF}(aN:Nat)(h:cQ P n code t L (.mk aN none 0 0 [] []::R) Q):cQ P n code t L R Q:=a6M (λ_ _ _=>aDU) h
structure Zo(P:Program)(T:TypeId):Prop where
 eq:∀(a b c d:Int) (w:World),(Op.equalIn 10000 T (.agg #[.int .i64 a,.int .i64 b]) (.agg #[.int .i64 c,.int .i64 d])).run P w=.ok (decide (a=c) && decide (b=d)) w
 guard:P.eqGuardType P.depth T=false
def aYT{P:Program}{T I:TypeId}(O:P.underlying T=some (.struct (P.fieldsOf T)))(X:P.stoodInHeld T=false)(aU:P.eqGuardType P.depth T=false)(cK:(P.fieldsOf T).toList.map (fun f=>(f.name== "_",f.type,f.offset))=[(false,I,0),(false,I,1)])
 (eT:P.underlying I=some (.int .i64)):Zo P T:=by
 refine⟨λa b c d w=>?_,aU⟩;rw[run_equalIn_agg w 9999 T _ _ O X];generalize (P.fieldsOf T).toList=sL at cK;obtain⟨f,g,rfl⟩:∃f g,sL=[f,g]:=by
  have aX:=congrArg List.length cK;simp only[sV]at aX;cases sL with
  |nil=>cases aX
  |cons f sL=>cases sL with
   |nil=>cases aX
   |cons g sL=>cases sL with
    |nil=>exact⟨f,g,rfl⟩
    |cons _ _=>cases aX
 simp only[wZ,XV,a3w,Prod.mk.injEq,and_true]at cK;obtain⟨⟨jY,iE,Sl⟩,LP,y7,Sn⟩:=cK;have KE:f.name≠ "_" :=by simpa using jY
 have tZ:g.name≠ "_" :=by simpa using LP
 have GA:(isAgg I).run P w=.ok false w:=by simp[isAgg,run_underlying eT]
 have aP:∀(cs:Array Value) (off:Nat) (v:Value),cs[off]?=some v->(part I cs off).run P w=.ok v w:=λcs off v h=>by simp only[part,w0,GA,u2];simp[h]
 have eV:(Op.equalIn 9999 I (.int .i64 a) (.int .i64 c)).run P w=.ok (a==c) w:=run_equalIn_int (P:=P) w 9998 I .i64 .i64 a c eT;have fN:(Op.equalIn 9999 I (.int .i64 b) (.int .i64 d)).run P w=.ok (b==d) w:=run_equalIn_int (P:=P) w 9998 I .i64 .i64 b d eT;have gI:(part I #[Value.int .i64 a,Value.int .i64 b] 0).run P w=.ok (.int .i64 a) w:=aP _ _ _ rfl;have eF:(part I #[Value.int .i64 c,Value.int .i64 d] 0).run P w=.ok (.int .i64 c) w:=aP _ _ _ rfl;have b6N:(part I #[Value.int .i64 a,Value.int .i64 b] 1).run P w=.ok (.int .i64 b) w:=aP _ _ _ rfl;have b6O:(part I #[Value.int .i64 c,Value.int .i64 d] 1).run P w=.ok (.int .i64 d) w:=aP _ _ _ rfl;rw[Za]at eV fN;simp only[Op.eqFields,if_pos KE,if_pos tZ,iE,Sl,y7,Sn,w0,gI,eF,u2,eV,Sem.run_ite,KQ,b6N,b6O,fN];by_cases a13:a=c<;>by_cases b2O:b=d<;>simp[a13,b2O]
section
variable{P:Program}{bF:Operand->Value}{L:aR}{R:aO}{dst:Option Tmp}{ty:TypeId}{pos:String}{after:Array Edge}{guard:Option (Nat×Bool)}{T iZ:TypeId}{x y:Operand}{a b c d:Int}
def a01(dW:Zo P T)(K:bF x=.agg #[.int .i64 a,.int .i64 b])(aS:bF y=.agg #[.int .i64 c,.int .i64 d]):cP P ⟨dst,.binOp .eql T x y iZ,ty,pos,after,guard⟩ bF L R (.bool (decide (a=c) && decide (b=d))):=λ_ w _=>by
 have O:=run_eqGuard_agg (P:=P) w .eql T x y #[.int .i64 a,.int .i64 b] #[.int .i64 c,.int .i64 d] dW.guard
 simp only[execOp,K,aS,w0,O,u2,run_eql_struct,dW.eq]
 simp
def aFl(dW:Zo P T)(K:bF x=.agg #[.int .i64 a,.int .i64 b])(aS:bF y=.agg #[.int .i64 c,.int .i64 d]):cP P ⟨dst,.binOp .neq T x y iZ,ty,pos,after,guard⟩ bF L R (.bool (!(decide (a=c) && decide (b=d)))):=λ_ w _=>by
 have O:=run_eqGuard_agg (P:=P) w .neq T x y #[.int .i64 a,.int .i64 b] #[.int .i64 c,.int .i64 d] dW.guard
 simp only[execOp,K,aS,w0,O,u2,run_neq_struct,dW.eq]
 simp
end
end Go.Aw
