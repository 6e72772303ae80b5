/-
  Merged texts. By an AI agent.
-/
import Derived.Test.YtchfclmokpbldaaGreatDraws
import Derived.ProofKit
import Derived.OpenShut
import Derived.ShutString
import Derived.ChangeOld
import Derived.Below
import Derived.Test.YtchfclmokpbldaaGreatChecks
import Derived.Test.YtchfclmokpbldaaGreatFans
import Derived.Test.YtchfclmokpbldaaGreatOwn
set_option linter.all false
set_option maxHeartbeats 4000000
set_option maxRecDepth 20000
namespace Go.Proofs.YtchfclmokpbldaaGreat
open Go.Aw Go Go.Proofs.Tryz
section
open Go.ChangeShapes Go.WideShapes Go.ChangeAt Go.RowKit
def aXH:ownKnob prog.godebug=none:=by kernel_rfl
def aUk:laidOutB prog=true:=by kernel_rfl
abbrev Jg(jI:World):Nat->Prop:=λb=>b<jI.heap.size
def aUO{jI:World}{R:aO}(h:∀r∈R,sB jI (Jg jI) r):sZ [] (Jg jI) R jI:=
 ⟨XQ,(λe W=>by cases W),(λe W=>by cases W),(λ_ h=>h),h⟩
def aXJ{jI yV:World}{Z:Nat->Prop}{E:aR}{G:aO}(h:dQ ⟨jI,zF [],Z⟩ E G yV):Below jI.heap.size jI yV:=
 ⟨h.GM.os,h.GM.tape,h.GM.output,h.GM.size,λk aG=>h.GM.block k aG (λ⟨e,W,_⟩=>by cases W)⟩
def aWi{n:Int}(h:(Lit.int .u8 n).wf=true):0<=n/\n<=255:=by simp only[Lit.wf,nH,decide_eq_true_eq]at h;exact h
def aZl{jI:World}{a:Addr}{v:Value}(h:jI.cell? a=some v):a.block<jI.heap.size:=by
 rcases hF a.block jI.heap.size with c4|c4;·exact c4
 ·unfold World.cell? at h;rw[IV c4]at h;simp at h
def a5I(P:Program)(w:World)(t:TypeId)(cs:List Value):Prop:=∃(H:Type) (enc:TypeId×Value->H) (hY:Nat) (x:DataW H×List MemPlace),DataW.trod enc P w 0 (λ_=>true) true hY t cs=some x
def YL(P:Program)(t:TypeId){a7:Type}(f:a7->List Value)(eU:a7->aO)(ok:a7->Prop):Prop:=
 ∀(w:World) (cs:List Value),a5I P w t cs->∃a:a7,cs=f a/\ok a/\∀s∈eU a,sB w (Jg w) s
def aZU{P:Program}{t:TypeId}{k:IntKind}(fH:P.underlying t=some (.int k)):YL P t (λn=>[.int k n]) (λ_=>[]) (λn=>(Lit.int k n).wf=true):=by rintro w cs ⟨H,enc,hY,x,K⟩;obtain⟨n,rfl,_,dH⟩:=DataW.trod_int fH K;exact⟨n,rfl,dH,λ_ h=>by cases h⟩
def b0Z{P:Program}{t e:TypeId}{aN:Nat}{a7:Type}{f:a7->List Value}{eU:a7->aO}{ok:a7->Prop}(fH:P.underlying t=some (.slice e))(cG:P.cellsOf e=aN)(dH:0<aN)(aF:∀a,(f a).length=aN)(W:YL P e f eU ok):
 YL P t (λx:a4 a7=>[x.val]) (λx=>[x.gN aN f (x.l.flatMap eU)]) (λx=>∀a∈x.l,ok a):=by
 rintro w cs ⟨H,enc,hY,x,K⟩;rcases DataW.trod_slice fH K with⟨rfl,_⟩|⟨a,len,cap,elems,aD,n,_,rfl,_,_,aX,a3,vN,b3m,_,_⟩;·exact⟨⟨none,0,[]⟩,rfl,(λ_ h=>by cases h),λs aH=>by rw[List.mem_singleton.1 aH];exact aDU⟩
 ·
  have each:∀k,k<=len->∃l:List a7,l.length=k/\(∀(i:Nat) (y:a7),l[i]?=some y->w.cells? 0 (a.add (i*aN)) aN=some (f y))/\(∀y∈l,ok y)/\∀s∈l.flatMap eU,sB w (Jg w) s:=by
   intro k;induction k with
   |zero=>exact λ_=>⟨[],rfl,(λi y h=>by simp at h),(λ_ h=>by cases h),λ_ h=>by simp at h⟩
   |succ k c6=>
    intro aG;obtain⟨l,O,X,aU,cK⟩:=c6 D;have a5:=b3m k D;rw[DN D,cG,Wd]at a5;obtain⟨cs,rY,aS⟩:=a5;obtain⟨y,rfl,bH,lU⟩:=W w cs ⟨H,enc,n,_,aS⟩;refine⟨l++[y],by simp[O],λi z aE=>?_,λz eW=>?_,λs aH=>?_⟩;·
     rcases hF i l.length with i3|a9I;·rw[XU i3]at aE;exact X i z aE
     ·rw[Nv a9I]at aE;obtain⟨fY,i7⟩:=List.getElem?_eq_some_iff.1 aE;simp at fY;(obtain rfl:i=k:=by omega);simp at i7;rw[<-i7];exact rY
    ·
     rcases List.mem_append.1 eW with h|h;·exact aU z h
     ·rw[List.mem_singleton.1 h];exact bH
    ·
     rw[aCr]at aH;rcases List.mem_append.1 aH with h|h;·exact cK s h
     ·exact lU s Oi
  obtain⟨l,O,X,aU,cK⟩:=each len (iK _);refine⟨⟨some a,cap,l⟩,by rw[<-O],aU,λs aH=>?_⟩;rw[List.mem_singleton.1 aH];refine .mk g2 (by rw[O];exact aX) (by simp only[maxLen]at a3;show cap<_;omega) (λr M=>by obtain⟨y,_,rfl⟩:=List.mem_map.1 M;exact aF y) ?_ cK;rcases a3H len with b2|b2;·
   left;cases l with
   |nil=>rfl
   |cons y l=>simp at O;omega
  ·right;(have cell:∀(i j:Nat) (y:a7),l[i]?=some y->j<aN->w.cell? ((a.add (i*aN)).add j)=(f y)[j]?:=λi j y aE a6=>by obtain⟨_,nL,NW⟩:=World.cells?_some (X i y aE);exact NW j D);obtain⟨RE,Vb⟩:=jW (l:=l) (k:=0) D;obtain⟨Wa,a2w⟩:=jW (l:=f RE) (k:=0) (by rw[aF];omega);have aQ:=cell 0 0 RE Vb dH;rw[a2w]at aQ;obtain⟨b,off,spot⟩:=a;(have b5w:spot=none:=by simpa[Addr.add]using World.cell?_spot aQ);subst b5w;refine⟨b,off,rfl,aZl (a:=⟨b,off,none⟩) (v:=Wa) (by simpa[Addr.add]using aQ),λi j aE a6=>?_⟩;obtain⟨y,aS⟩:=jW (l:=l) (k:=i) aE;have:=cell i j y aS a6;rw[YX,YX]at this;rw[this,pA,aS];rfl
def YL.conv{P:Program}{t:TypeId}{a7:Type}{f:a7->List Value}{eU aOx:a7->aO}{ok L1:a7->Prop}(h:YL P t f eU ok)(aH:∀a,aOx a=eU a)(dG:∀a,ok a->L1 a):YL P t f aOx L1:=λw cs M=>by
 obtain⟨a,O,X,aU⟩:=h w cs M
 exact⟨a,O,dG a X,by rw[aH a];exact aU⟩
def aYZ{a7:Type}(l:List a7):l.flatMap (λ_=>([]:aO))=[]:=by induction l<;>simp_all
def aXp:YL prog 5 (λn:Int=>[.int .u8 n]) (λ_=>[]) (λn=>(Lit.int .u8 n).wf=true):=aZU underlying5
def aVa:YL prog 22 (λx:a4 Int=>[x.val]) (λx=>[gX x]) (λx=>∀n∈x.l,(Lit.int .u8 n).wf=true):=
 (b0Z (aN:=1) underlying22 bI aW bD aXp).conv (λx=>by rw[aYZ];rfl) (λ_ h=>h)
end
def jJ(b:Bool):List Value:=[.bool b]
def BP(b:Bool):(jJ b).length=1:=rfl
abbrev a5P(x:a4 Bool):fJ:=x.gN 1 jJ []
def FK(m:h4)(u v:Nat):Prop:=∃r∈m.aJ.l,r.eJ=false/\((r.cR=(u:Int)/\r.to=(v:Int))\/(r.cR=(v:Int)/\r.to=(u:Int)))
inductive sY(m:h4)(u:Nat):Nat->Prop
 |refl:sY m u u
 |tail {v w:Nat} (h:sY m u v) (k:FK m v w):sY m u w
def FK.symm{m:h4}{u v:Nat}(h:FK m u v):FK m v u:=by
 obtain⟨r,M,cG,O|O⟩:=h;·exact⟨r,M,cG,.inr O⟩
 ·exact⟨r,M,cG,.inl O⟩
def sY.trans{m:h4}{u v w:Nat}(h:sY m u v)(k:sY m v w):sY m u w:=by
 induction k with
 |refl=>exact h
 |tail _ s c6=>exact c6.tail s
def sY.symm{m:h4}{u v:Nat}(h:sY m u v):sY m v u:=by
 induction h with
 |refl=>exact .refl
 |tail _ s c6=>exact(sY.refl.tail s.symm).trans c6
def sY.eJ{m:h4}{P:Nat->Prop}(kX:∀u v,P u->FK m u v->P v){u v:Nat}(h:sY m u v)(dL:P u):P v:=by
 induction h with
 |refl=>exact dL
 |tail _ s c6=>exact kX _ _ c6 s
def FK.lt{m:h4}(a3:MV m){u v:Nat}(h:FK m u v):u<m.places.l.length/\v<m.places.l.length:=by obtain⟨r,M,_,O⟩:=h;obtain⟨i,aE⟩:=List.mem_iff_getElem?.1 M;have mJ:=a3.cV i r aE;have X:=mJ.cR;have aU:=mJ.to;rcases O with O|O<;>omega
structure X9(m:h4)(seen l:List Bool):Prop where
 len:l.length=seen.length
 KD:∀i:Nat,i<seen.length->(l.getD i false=true↔∃j:Nat,j<seen.length/\seen.getD j false=true/\sY m j i)
def X9.Bp{m:h4}{seen l TZ:List Bool}(h:X9 m seen l)(c4:X9 m seen TZ):l=TZ:=by have eV:=h.len;have fN:=c4.len;refine List.ext_getElem D λi O X=>?_;have k7:=h.KD i D;have lJ:=c4.KD i D;rw[<-lJ]at k7;have LP:=bJ (l:=l) (k:=i) false O;have y7:=bJ (l:=TZ) (k:=i) false X;rw[DN O]at LP;rw[DN X]at y7;rw[yF LP,yF y7];cases e:l.getD i false<;>cases uQ:TZ.getD i false<;>simp_all
def M4(m:h4):List Bool:=m.places.l.map yX.tG
abbrev lB(m:h4)(l:List Bool):Prop:=X9 m (M4 m) l
structure RM(m:h4)(seen l:List Bool):Prop where
 len:l.length=seen.length
 sub:∀i:Nat,seen.getD i false=true->l.getD i false=true
 a1I:∀i:Nat,l.getD i false=true->∃j:Nat,j<seen.length/\seen.getD j false=true/\sY m j i
def Rn{l:List Bool}{k i:Nat}{v:Bool}(aG:k<l.length):(l.set k v).getD i false=if i=k then v else l.getD i false:=by exact aCa
def b0t{l:List Bool}{i:Nat}(h:l.getD i false=true):i<l.length:=by
 rcases hF i l.length with c4|c4;·exact c4
 ·rw[m8,uF c4]at h;cases h
def RM.XB{m:h4}{seen:List Bool}:RM m seen seen:=⟨rfl,λ_ h=>h,λi h=>⟨i,b0t h,h,.refl⟩⟩
def RM.next{m:h4}{seen l:List Bool}(h:RM m seen l){u v:Nat}(aH:FK m u v)(dL:u<l.length)(cY:v<l.length)(jF:l.getD u false≠l.getD v false):RM m seen ((l.set u true).set v true):=by
 have eV:∀i,((l.set u true).set v true).getD i false=if i=v then true else if i=u then true else l.getD i false:=λi=>by rw[Rn (by simpa using cY),Rn dL]
 refine⟨by simp[h.len],λi aE=>?_,λi aE=>?_⟩;·
  rw[eV];split;·rfl
  ·
   split;·rfl
   ·exact h.sub i aE
 ·
  rw[eV]at aE;have b1r:∃j:Nat,j<seen.length/\seen.getD j false=true/\sY m j u/\sY m j v:=by
   cases e:l.getD u false with
   |true=>obtain⟨j,xJ,wB,DF⟩:=h.a1I u e;exact⟨j,xJ,wB,DF,DF.tail aH⟩
   |false=>
    have fN:l.getD v false=true:=by
     cases n5:l.getD v false with
     |true=>rfl
     |false=>rw[e,n5]at jF;exact absurd rfl jF
    obtain⟨j,xJ,wB,DF⟩:=h.a1I v fN;exact⟨j,xJ,wB,DF.tail aH.symm,DF⟩
  obtain⟨j,xJ,wB,DF,As⟩:=b1r;by_cases aMv:i=v;·rw[aMv];exact⟨j,xJ,wB,As⟩
  ·
   rw[if_neg aMv]at aE;by_cases aMu:i=u;·rw[aMu];exact⟨j,xJ,wB,DF⟩
   ·rw[if_neg aMu]at aE;exact h.a1I i aE
def RM.done{m:h4}{seen l:List Bool}(h:RM m seen l)(M:∀r∈m.aJ.l,r.eJ=false->l.getD r.cR.toNat false=l.getD r.to.toNat false):X9 m seen l:=by
 refine⟨h.len,λi aE=>⟨h.a1I i,λ⟨j,xJ,wB,DF⟩=>?_⟩⟩;refine sY.eJ (P:=λx=>l.getD x false=true) (λu v dL aH=>?_) DF (h.sub j wB);obtain⟨r,N8,cG,O|O⟩:=aH;·have:=M r N8 cG;rw[O.1,O.2,xP,xP]at this;rw[<-this];exact dL
 ·have:=M r N8 cG;rw[O.1,O.2,xP,xP]at this;rw[this];exact dL
def HG(l:List Bool):Nat:=l.countP (λb=>!b)
def aHJ{l:List Bool}{i:Nat}(aE:i<l.length)(h:l.getD i false=false):HG (l.set i true)+1=HG l:=by
 unfold HG;have b7:l[i]=false:=by have:=bJ (l:=l) (k:=i) false aE;rw[DN aE,h]at this;exact yF this
 rw[List.countP_set aE,b7];have:0<List.countP (λb=>!b) l:=List.countP_pos_iff.2 ⟨l[i],aCA aE,by rw[b7];rfl⟩;simp;omega
def aIz{l:List Bool}{i:Nat}(aE:i<l.length):HG (l.set i true)<=HG l:=by
 unfold HG;rw[List.countP_set aE];cases b7:l[i]with
 |true=>simp
 |false=>simp
def aYa{l:List Bool}{u v:Nat}(dL:u<l.length)(cY:v<l.length)(jF:l.getD u false≠l.getD v false):HG ((l.set u true).set v true)<HG l:=by
 cases e:l.getD u false with
 |false=>have O:=aHJ dL e;have X:=aIz (l:=l.set u true) (i:=v) (by simpa using cY);omega
 |true=>
  have fN:l.getD v false=false:=by
   cases n5:l.getD v false with
   |false=>rfl
   |true=>rw[e,n5]at jF;exact absurd rfl jF
  have b5I:v≠u:=λh=>by rw[h,e]at fN;cases fN
  have O:=aIz (l:=l) (i:=u) dL;have X:=aHJ (l:=l.set u true) (i:=v) (by simpa using cY) (by rw[Rn dL,if_neg b5I];exact fN);omega
structure aYO where
 cV:Int
 cR:Int
 to:Int
 deriving DecidableEq,Inhabited
section
variable{m:h4}{l:List aYO}{w:Int}{seen dD:List Bool}
end
end Go.Proofs.YtchfclmokpbldaaGreat
/-
  Fits: FlowS, FlowM, FitsF, Copy, Mades, Wide, in one text. By an AI agent; no person has read it.
-/
namespace Go.Proofs.YtchfclmokpbldaaGreat
open Go.Aw Go Go.Proofs.Tryz
structure aV3(f:Int->bC)(p z:Int):Prop where
 tT:-1048577<=z/\z<=1048576
 le:∀x,-1048577<x->x<=z->(f x).bW<=p
 gt:∀x,z<x->x<=1048576->p<(f x).bW
structure aTw(f:Int->bC)(p z:Int):Prop where
 tT:-1048576<=z/\z<=1048577
 lt:∀x,-1048576<=x->x<z->(f x).bU<p
 ge:∀x,z<=x->x<1048577->p<=(f x).bU
def a6q{a:b3}{s:cS}(bT:p3 a){r:Int}(M:0<=r/\r<a.aC.aJ.l.length)(p:Int):aV3 (mN a s r) p (rN (mN a s r) p):=by obtain⟨k7,lJ,m4,vG⟩:=a4E (hU:=p) (aXR (s:=s) bT M) _ (-1048577) 1048576 rfl D D D;exact⟨⟨k7,lJ⟩,m4,vG⟩
def a6c{a:b3}{s:cS}(bT:p3 a){r:Int}(M:0<=r/\r<a.aC.aJ.l.length)(p:Int):aTw (mN a s r) p (rO (mN a s r) p):=by obtain⟨k7,lJ,m4,vG⟩:=a5F (hU:=p) (b0n (s:=s) bT M) _ (-1048576) 1048577 rfl D D D;exact⟨⟨k7,lJ⟩,m4,vG⟩
def aWr{a:b3}{s:cS}(bT:p3 a){r:Int}(M:0<=r/\r<a.aC.aJ.l.length){p L2:Int}(aP:p<=L2):rN (mN a s r) p<=rN (mN a s r) L2:=by
 have O:=a6q (s:=s) bT M p;have X:=a6q (s:=s) bT M L2;generalize rN (mN a s r) p=l at*;generalize rN (mN a s r) L2=h at*;rcases IY h l with i3|IF;·have gL:=O.tT;have eH:=X.tT;have g9:=X.gt l i3 D;have fI:=O.le l D (pJ _);omega
 ·exact IF
def b0X{a:b3}{s:cS}(bT:p3 a){r:Int}(M:0<=r/\r<a.aC.aJ.l.length){p L2:Int}(aP:p<=L2):rO (mN a s r) p<=rO (mN a s r) L2:=by
 have O:=a6c (s:=s) bT M p;have X:=a6c (s:=s) bT M L2;generalize rO (mN a s r) p=l at*;generalize rO (mN a s r) L2=h at*;rcases IY h l with i3|IF;·have gL:=O.tT;have eH:=X.tT;have g9:=O.lt h D i3;have fI:=X.ge h (pJ _) D;omega
 ·exact IF
end Go.Proofs.YtchfclmokpbldaaGreat
namespace Go.Aw
open Go
def aKD{P:Program}(w:World)(t ty e:TypeId)(i:TypeInfo)(fH:P.underlying t=some (.slice e))(aE:P.info? e=some i)(jQ:Option Addr)(c:Nat):
 (Builtin.append_ #[t,t] ty #[.slice none 0 0,.slice jQ 0 c]).run P w=.ok (.slice none 0 0) w:=by
 cases jQ with
 |none=>simp[Builtin.append_,run_underlying fH,sizeOf,typeInfo,aE,Builtin.lenOf,run_firstCells_none,Builtin.firstCells]
 |some a=>have aF:=run_firstCells_some (P:=P) w i.size 0 a 0 c [] g2 g2;simp[Builtin.append_,run_underlying fH,sizeOf,typeInfo,aE,Builtin.lenOf,aF]
section
variable{P:Program}{bF:Operand->Value}{L:aR}{R:aO}{dst:Option Tmp}{ty:TypeId}{pos:String}{after:Array Edge}{guard:Option (Nat×Bool)}(N:oE P){T:TypeId}{x y:Operand}
def aYW{iZ:TypeId}{a b:Bool}{r3 jY gL k6}(dW:hW N.g1 T=some ⟨.bool,r3,jY,gL,k6⟩)(K:bF x=.bool a)(aS:bF y=.bool b):cP P ⟨dst,.binOp .neq T x y iZ,ty,pos,after,guard⟩ bF L R (.bool (decide (¬a=b))):=λ_ _ _=>by
 have a5:=λw=>run_equal_bool (P:=P) w T a b (aYz (N.ok _ _ dW) rfl)
 simp[execOp,K,aS,eqGuard,binOp,a5]
 cases a<;>cases b<;>rfl
def r9{a7:Type}{e n aA g0 z fI fV rB nB iX}{f:a7->List Value}{xs:a4 a7}{eU:aO}(dW:hW N.g1 T=some ⟨.slice e,n,aA,g0,z⟩)(c5:hW N.g1 e=some ⟨fI,fV,rB,nB,iX⟩)(AU:iX.length=fV)(b2:0<fV)
 (K:bF x=.slice none 0 0) (aS:bF y=xs.val) (bO:aL (xs.gN fV f eU) R) (O:∀a,(f a).all (·.oneCell')=true) (QJ:xs.l.length*(nB+1)<=140737488355328):
 eC P ⟨dst,.call ⟨.builtin .append,#[x,y],#[T,T]⟩,ty,pos,after,guard⟩ bF L R (λv E G=>∃o:g6,v=(⟨o,xs.l⟩:J a7).val/\(⟨o,xs.l⟩:J a7).ok fV f/\(⟨o,xs.l⟩:J a7).L e f++L=E/\R=G):=by
 intro c w cT a next Q iB
 obtain⟨jQ,cap,l⟩:=xs;cases l with
 |nil=>
  have dL:=M1 (N.ok _ _ dW) rfl;obtain⟨iW,u,oT,Q2,Ve,XA,Mm⟩:=JI (N.ok _ _ c5);have eV:execOp bF ⟨dst,.call ⟨.builtin .append,#[x,y],#[T,T]⟩,ty,pos,after,guard⟩=(do pure (.value (<-Builtin.append_ #[T,T] ty #[bF x,bF y]))):=by exact a3g
  have M:=aKD w T ty e iW dL Q2 jQ cap;refine P2 (w':=w) (v:=.slice none 0 0) ?_ (iB _ _ _ w ⟨.nil,rfl,⟨rfl,rfl⟩,rfl,rfl⟩ cT);rw[eV,K,aS];simp only[a4.val,UH,w0,M,u2,KQ]
 |cons OR l=>
  have dH:∀r∈(OR::l).map f,r.length=fV:=by
   have qF:=cT;obtain⟨⟨Z,b4,_⟩,_,_⟩:=qF;obtain⟨r,M,lU⟩:=bO;have EQ:=(b4.o8 r M).sub lU;cases EQ with
   |mk _ _ _ dH _ _=>exact dH
  have v9:((OR::l).map f).flatten=(OR::l).flatMap f:=Qr _;have gA:((OR::l).map f).flatten.length=(OR::l).length*fV:=by
   have:∀rows:List (List Value),(∀r∈rows,r.length=fV)->rows.flatten.length=rows.length*fV:=by
    intro rows;induction rows with
    |nil=>intro _;simp
    |cons r rows c6=>intro h;rw[aCx,l9,c6 λr M=>h r (by simp[M]),h r g2,wD,MC];omega
   rw[this _ dH,sV]
  have aH:=aF5 (L:=L) bO b2 (λc w cT=>by
   obtain⟨⟨Z,b4,_⟩,_,_⟩:=cT;obtain⟨r,M,lU⟩:=bO;have EQ:=(b4.o8 r M).sub lU;cases EQ with
   |mk _ _ _ _ a3 _=>
    rcases a3 with h|⟨b,off,bT,_⟩;·simp at h
    ·exact⟨b,off,bT⟩) gA ⟨c,w,cT⟩
  have EL:(OR::l).length*nB<=140737488355328:=G0 (aCq _ (Nat.le_succ _)) QJ;have y8:(OR::l).length<=140737488355328:=G0 (aCG _ (Nat.succ_pos _)) QJ;have TT:Jm L R (bF y) (OR::l).length fV ((OR::l).map f).flatten:=by rw[aS];exact aH
  have qS:(((OR::l).map f).flatten).all (·.oneCell')=true:=by rw[List.all_eq_true];intro v cY;obtain⟨r,M,cY⟩:=List.mem_flatten.1 cY;obtain⟨a,_,rfl⟩:=List.mem_map.1 M;exact List.all_eq_true.1 (O a) v cY
  have:=a4Q (dst:=dst) (ty:=ty) (pos:=pos) (after:=after) (guard:=guard) (s:=.nil) (xs:=[]) (len:=0) (L:=L) (f:=λx3=>x3++L) N dW c5 AU K ⟨rfl,rfl⟩ HE.lT TT g2 qS D (by rw[MD];exact EL);refine this c w cT a next Q ?_
  rintro v E G w' ⟨g,Sc,spare,rfl,GI,rfl,rfl⟩ qF;rw[nN,v9,MD]at GI;refine iB _ _ _ w' ⟨.own g Sc spare,?_,GI,?_,rfl⟩ qF;·rw[MD];rfl
  ·rw[nN,v9];rfl
end
def kT.b6j{ws:List Nat}{kZ t:Nat->Value}{d:Nat}{v:Value}(bM:xX d ws=true)(h:kT ws kZ t):kT ws (Aw.kR kZ d v) t:=λk aG=>by
 rw[h k aG]
 exact((kT.kR bM (kT.refl (ws:=ws) (t:=kZ))) k aG).symm
def aM.cast{P:Program}{f:FuncId}{args aLr:Array Value}{L:aR}{R:aO}{Post:oK}(h:aM P f args L R Post)(e:args=aLr):aM P f aLr L R Post:=e▸h
def Iy{P:Program}{bF:Operand->Value}{L:aR}{R:aO}{dst:Option Tmp}{ty:TypeId}{pos:String}{after:Array Edge}{guard:Option (Nat×Bool)}{a7Y:Operand}{xs:List Operand}{qY:Array TypeId}{f:FuncId}{cap:Array Value}{args:List Value}{Post:oK}
 (cG:bF a7Y=.func (.func f) #[] cap) (bT:xs.map bF++cap.toList=args) (h:aM P f args.toArray L R Post):eC P ⟨dst,.call ⟨.value a7Y,xs.toArray,qY⟩,ty,pos,after,guard⟩ bF L R Post:=by
 intro x w aH a next Q k
 have a9e:#[]++xs.toArray.map bF++cap=args.toArray:=by rw[<-bT];simp
 have WZ:(execOp bF ⟨dst,.call ⟨.value a7Y,xs.toArray,qY⟩,ty,pos,after,guard⟩).run P w=.ok (.enter f args.toArray) w:=by have O:=h.1 args.toArray w;simp only[execOp,resolve,cG,Deferred.ofValue];simp only[Array.empty_append]at a9e;simp only[invoke,w0,KQ,u2,Array.empty_append,a9e];exact O
 exact aOG
def Yf{P:Program}{bF:Operand->Value}{L:aR}{R:aO}{dst:Option Tmp}{ty:TypeId}{pos:String}{after:Array Edge}{guard:Option (Nat×Bool)}{fn:Fn}{cs:List Operand}{vs:List Value}(cY:cs.map bF=vs):
 cP P ⟨dst,.makeFunc fn #[] cs.toArray,ty,pos,after,guard⟩ bF L R (.func fn #[] vs.toArray):=λ_ w _=>by
 subst cY
 simp[execOp,Instr.makeFunc]
section
variable{P:Program}{n:Nat}{all:Array Oper}{op:Op}{ty:TypeId}{pos:String}{after:Array Edge}{aD:List Oper}{t:Nat->Value}{L:aR}{R:aO}{Q:gF}{d:Tmp}{v:Value}{g:Option (Nat×Bool)}
def a5R{ops:List Oper}{E:aR}(h:L=E)(k:dF P n all ops t E R Q):dF P n all ops t L R Q:=h▸k
def kB(cY:cP P ⟨some d,op,ty,pos,after,g⟩ (iT t) L R v)(dH:oY all t g=true)(bM:Nat.blt d n=true)(h:dF P n all aD (kR t d v) L R Q):dF P n all (⟨some d,op,ty,pos,after,g⟩::aD) t L R Q:=aE6 cY dH bM h
def US{Post:oK}(b7:eC P ⟨some d,op,ty,pos,after,g⟩ (iT t) L R Post)(dH:oY all t g=true)(bM:Nat.blt d n=true)(h:∀v E G,Post v E G->dF P n all aD (kR t d v) E G Q):dF P n all (⟨some d,op,ty,pos,after,g⟩::aD) t L R Q:=a1c b7 dH bM h
def It{f:FuncId}{xs:List Operand}{qY:Array TypeId}{args:List Value}{Post:oK}(bT:xs.map (iT t)=args)(h:aM P f args.toArray L R Post)(dH:oY all t g=true)(bM:Nat.blt d n=true)
 (k:∀v E G,Post v E G->dF P n all aD (kR t d v) E G Q):dF P n all (⟨some d,.call ⟨.value (.func f),xs.toArray,qY⟩,ty,pos,after,g⟩::aD) t L R Q:=
 US (Rk a34 rfl h) dH bM k
def RU(dH:oY all t g=false)(bM:Nat.blt d n=true)(h:dF P n all aD (kR t d undef) L R Q):dF P n all (⟨some d,op,ty,pos,after,g⟩::aD) t L R Q:=aY3 dH bM h
end
end Go.Aw
namespace Go.Proofs.YtchfclmokpbldaaGreat
open Go.Aw Go Go.Proofs.Tryz
set_option maxRecDepth 20000
attribute [local irreducible] cQ dF dV aM cP eC e5 e1 e2 e6 eX e4 J.L
end Go.Proofs.YtchfclmokpbldaaGreat
namespace Go.Proofs.YtchfclmokpbldaaGreat
open Go.Aw Go Go.Proofs.Tryz
end Go.Proofs.YtchfclmokpbldaaGreat
