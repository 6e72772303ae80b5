/-
  Merged texts. By an AI agent.
-/
import Derived.Test.YtdiajbdaadlfhaaGreatDoorDraws
import Derived.ProofKit
import Derived.OpenShut
import Derived.ShutString
import Derived.ChangeOld
import Derived.Below
import Derived.Test.YtdiajbdaadlfhaaGreatDoorChecks
import Derived.Test.YtdiajbdaadlfhaaGreatDoorFans
import Derived.Test.YtdiajbdaadlfhaaGreatDoorOwn
set_option linter.all false
set_option maxHeartbeats 4000000
set_option maxRecDepth 20000
namespace Go.Proofs.YtdiajbdaadlfhaaGreatDoor
open Go.Aw Go Go.Proofs.Tryz
section
open Go.ChangeShapes Go.WideShapes Go.ChangeAt Go.RowKit
def aZP:ownKnob prog.godebug=none:=by kernel_rfl
def aVH:laidOutB prog=true:=by kernel_rfl
abbrev Zi(iE:World):Nat->Prop:=λb=>b<iE.heap.size
def aWr{n:Int}(h:(Lit.int .u8 n).wf=true):0<=n/\n<=255:=by simp only[Lit.wf,lY,decide_eq_true_eq]at h;exact h
def aRO{iE:World}{a:Addr}{v:Value}(h:iE.cell? a=some v):a.block<iE.heap.size:=by
 rcases gX a.block iE.heap.size with cD|cD;·exact cD
 ·unfold World.cell? at h;rw[NL cD]at h;simp at h
def a5Q(P:Program)(w:World)(t:TypeId)(cs:List Value):Prop:=∃(H:Type) (enc:TypeId×Value->H) (hK:Nat) (x:DataW H×List MemPlace),DataW.trod enc P w 0 (λ_=>true) true hK t cs=some x
def YS(P:Program)(t:TypeId){aY:Type}(f:aY->List Value)(eE:aY->aP)(ok:aY->Prop):Prop:=
 ∀(w:World) (cs:List Value),a5Q P w t cs->∃a:aY,cs=f a/\ok a/\∀s∈eE a,p2 w (Zi w) s
def aRq{P:Program}{t:TypeId}{k:IntKind}(gJ:P.underlying t=some (.int k)):YS P t (λn=>[.int k n]) (λ_=>[]) (λn=>(Lit.int k n).wf=true):=by rintro w cs ⟨H,enc,hK,x,K⟩;obtain⟨n,rfl,_,cE⟩:=DataW.trod_int gJ K;exact⟨n,rfl,cE,λ_ h=>by cases h⟩
def aWc{P:Program}{t e:TypeId}{aI:Nat}{aY:Type}{f:aY->List Value}{eE:aY->aP}{ok:aY->Prop}(gJ:P.underlying t=some (.slice e))(bU:P.cellsOf e=aI)(cE:0<aI)(aH:∀a,(f a).length=aI)(V:YS P e f eE ok):
 YS P t (λx:bP aY=>[x.val]) (λx=>[x.eJ aI f (x.l.flatMap eE)]) (λx=>∀a∈x.l,ok a):=by
 rintro w cs ⟨H,enc,hK,x,K⟩;rcases DataW.trod_slice gJ K with⟨rfl,_⟩|⟨a,len,cap,elems,aC,n,_,rfl,_,_,aZ,a1,sU,b2s,_,_⟩;·exact⟨⟨none,0,[]⟩,rfl,(λ_ h=>by cases h),λs aF=>by rw[List.mem_singleton.1 aF];exact aJN⟩
 ·
  have each:∀k,k<=len->∃l:List aY,l.length=k/\(∀(i:Nat) (y:aY),l[i]?=some y->w.cells? 0 (a.add (i*aI)) aI=some (f y))/\(∀y∈l,ok y)/\∀s∈l.flatMap eE,p2 w (Zi w) s:=by
   intro k;induction k with
   |zero=>exact λ_=>⟨[],rfl,(λi y h=>by simp at h),(λ_ h=>by cases h),λ_ h=>by simp at h⟩
   |succ k cA=>
    intro Y;obtain⟨l,G,U,aO,bW⟩:=cA D;have aT:=b2s k D;rw[w4 D,bU,We]at aT;obtain⟨cs,nU,bB⟩:=aT;obtain⟨y,rfl,bM,mA⟩:=V w cs ⟨H,enc,n,_,bB⟩;refine⟨l++[y],by simp[G],λi z aB=>?_,λz dI=>?_,λs aF=>?_⟩;·
     rcases gX i l.length with jT|To;·rw[K4 jT]at aB;exact U i z aB
     ·rw[XQ To]at aB;obtain⟨dV,gY⟩:=List.getElem?_eq_some_iff.1 aB;simp at dV;(obtain rfl:i=k:=by omega);simp at gY;rw[<-gY];exact nU
    ·
     rcases List.mem_append.1 dI with h|h;·exact aO z h
     ·rw[List.mem_singleton.1 h];exact bM
    ·
     rw[Wk]at aF;rcases List.mem_append.1 aF with h|h;·exact bW s h
     ·exact mA s Bg
  obtain⟨l,G,U,aO,bW⟩:=each len (gS _);refine⟨⟨some a,cap,l⟩,by rw[<-G],aO,λs aF=>?_⟩;rw[List.mem_singleton.1 aF];refine .mk eY (by rw[G];exact aZ) (by simp only[maxLen]at a1;show cap<_;omega) (λr O=>by obtain⟨y,_,rfl⟩:=List.mem_map.1 O;exact aH y) ?_ bW;rcases a3H len with bV|bV;·
   left;cases l with
   |nil=>rfl
   |cons y l=>simp at G;omega
  ·right;(have cell:∀(i j:Nat) (y:aY),l[i]?=some y->j<aI->w.cell? ((a.add (i*aI)).add j)=(f y)[j]?:=λi j y aB a6=>by obtain⟨_,j1,vN⟩:=World.cells?_some (U i y aB);exact vN j D);obtain⟨a3E,b5i⟩:=lQ (l:=l) (k:=0) D;obtain⟨v0,aAJ⟩:=lQ (l:=f a3E) (k:=0) (by rw[aH];omega);have bI:=cell 0 0 a3E b5i cE;rw[aAJ]at bI;obtain⟨b,off,spot⟩:=a;(have b4P:spot=none:=by simpa[Addr.add]using World.cell?_spot bI);subst b4P;refine⟨b,off,rfl,aRO (a:=⟨b,off,none⟩) (v:=v0) (by simpa[Addr.add]using bI),λi j aB a6=>?_⟩;obtain⟨y,bB⟩:=lQ (l:=l) (k:=i) aB;have:=cell i j y bB a6;rw[UH,UH]at this;rw[this,pW,bB];rfl
def YS.conv{P:Program}{t:TypeId}{aY:Type}{f:aY->List Value}{eE aOl:aY->aP}{ok KQ:aY->Prop}(h:YS P t f eE ok)(aF:∀a,aOl a=eE a)(cM:∀a,ok a->KQ a):YS P t f aOl KQ:=λw cs O=>by
 obtain⟨a,G,U,aO⟩:=h w cs O
 exact⟨a,G,cM a U,by rw[aF a];exact aO⟩
def aW6{aY:Type}(l:List aY):l.flatMap (λ_=>([]:aP))=[]:=by induction l<;>simp_all
def aWj:YS prog 5 (λn:Int=>[.int .u8 n]) (λ_=>[]) (λn=>(Lit.int .u8 n).wf=true):=aRq underlying5
def aXk:YS prog 22 (λx:bP Int=>[x.val]) (λx=>[k3 x]) (λx=>∀n∈x.l,(Lit.int .u8 n).wf=true):=
 (aWc (aI:=1) underlying22 aQ aX bH aWj).conv (λx=>by rw[aW6];rfl) (λ_ h=>h)
end
def l1(b:Bool):List Value:=[.bool b]
def HX(b:Bool):(l1 b).length=1:=rfl
abbrev a6j(x:bP Bool):eT:=x.eJ 1 l1 []
def H1(m:eC)(u v:Nat):Prop:=∃r∈m.Z.l,r.dZ=false/\((r.bK=(u:Int)/\r.to=(v:Int))\/(r.bK=(v:Int)/\r.to=(u:Int)))
inductive uC(m:eC)(u:Nat):Nat->Prop
 |refl:uC m u u
 |tail {v w:Nat} (h:uC m u v) (k:H1 m v w):uC m u w
def H1.symm{m:eC}{u v:Nat}(h:H1 m u v):H1 m v u:=by
 obtain⟨r,O,bU,G|G⟩:=h;·exact⟨r,O,bU,.inr G⟩
 ·exact⟨r,O,bU,.inl G⟩
def uC.trans{m:eC}{u v w:Nat}(h:uC m u v)(k:uC m v w):uC m u w:=by
 induction k with
 |refl=>exact h
 |tail _ s cA=>exact cA.tail s
def uC.symm{m:eC}{u v:Nat}(h:uC m u v):uC m v u:=by
 induction h with
 |refl=>exact .refl
 |tail _ s cA=>exact(uC.refl.tail s.symm).trans cA
def uC.dZ{m:eC}{P:Nat->Prop}(kR:∀u v,P u->H1 m u v->P v){u v:Nat}(h:uC m u v)(cZ:P u):P v:=by
 induction h with
 |refl=>exact cZ
 |tail _ s cA=>exact kR _ _ cA s
def H1.lt{m:eC}(a1:UI m){u v:Nat}(h:H1 m u v):u<m.places.l.length/\v<m.places.l.length:=by obtain⟨r,O,_,G⟩:=h;obtain⟨i,aB⟩:=List.mem_iff_getElem?.1 O;have mI:=a1.aS i r aB;have U:=mI.bK;have aO:=mI.to;rcases G with G|G<;>omega
structure Ya(m:eC)(seen l:List Bool):Prop where
 len:l.length=seen.length
 qC:∀i:Nat,i<seen.length->(l.getD i false=true↔∃j:Nat,j<seen.length/\seen.getD j false=true/\uC m j i)
def Ya.XM{m:eC}{seen l DV:List Bool}(h:Ya m seen l)(cD:Ya m seen DV):l=DV:=by have dH:=h.len;have eH:=cD.len;refine List.ext_getElem D λi G U=>?_;have hO:=h.qC i D;have a2:=cD.qC i D;rw[<-a2]at hO;have g1:=bR (l:=l) (k:=i) false G;have oA:=bR (l:=DV) (k:=i) false U;rw[w4 G]at g1;rw[w4 U]at oA;rw[uA g1,uA oA];cases e:l.getD i false<;>cases r7:DV.getD i false<;>simp_all
def JX(m:eC):List Bool:=m.places.l.map gL.m7
abbrev mU(m:eC)(l:List Bool):Prop:=Ya m (JX m) l
def Rv{l:List Bool}{k i:Nat}{v:Bool}(Y:k<l.length):(l.set k v).getD i false=if i=k then v else l.getD i false:=by exact aBJ
def aWv{l:List Bool}{i:Nat}(h:l.getD i false=true):i<l.length:=by
 rcases gX i l.length with cD|cD;·exact cD
 ·rw[lN,u1 cD]at h;cases h
def QK(l:List Bool):Nat:=l.countP (λb=>!b)
def aUn{l:List Bool}{i:Nat}(aB:i<l.length)(h:l.getD i false=false):QK (l.set i true)+1=QK l:=by
 unfold QK;have bE:l[i]=false:=by have:=bR (l:=l) (k:=i) false aB;rw[w4 aB,h]at this;exact uA this
 rw[List.countP_set aB,bE];have:0<List.countP (λb=>!b) l:=List.countP_pos_iff.2 ⟨l[i],Wn aB,by rw[bE];rfl⟩;simp;omega
end Go.Proofs.YtdiajbdaadlfhaaGreatDoor
/-
  Fits: FlowS, FlowM, FitsF, Copy, Mades, Wide, in one text. By an AI agent; no person has read it.
-/
namespace Go.Proofs.YtdiajbdaadlfhaaGreatDoor
open Go.Aw Go Go.Proofs.Tryz
structure aGN(f:Int->bG)(p z:Int):Prop where
 B2:-1048577<=z/\z<=1048576
 le:∀x,-1048577<x->x<=z->(f x).bN<=p
 gt:∀x,z<x->x<=1048576->p<(f x).bN
structure aDg(f:Int->bG)(p z:Int):Prop where
 B2:-1048576<=z/\z<=1048577
 lt:∀x,-1048576<=x->x<z->(f x).bJ<p
 ge:∀x,z<=x->x<1048577->p<=(f x).bJ
def Yo{a:bT}{s:cG}(bX:sG a){r:Int}(O:0<=r/\r<a.aE.Z.l.length)(p:Int):aGN (kA a s r) p (u9 (kA a s r) p):=by obtain⟨hO,a2,a3,a4⟩:=a7I (fX:=p) (aXQ (s:=s) bX O) _ (-1048577) 1048576 rfl D D D;exact⟨⟨hO,a2⟩,a3,a4⟩
def a0g{a:bT}{s:cG}(bX:sG a){r:Int}(O:0<=r/\r<a.aE.Z.l.length)(p:Int):aDg (kA a s r) p (u6 (kA a s r) p):=by obtain⟨hO,a2,a3,a4⟩:=a54 (fX:=p) (aYt (s:=s) bX O) _ (-1048576) 1048577 rfl D D D;exact⟨⟨hO,a2⟩,a3,a4⟩
def aUm{a:bT}{s:cG}(bX:sG a){r:Int}(O:0<=r/\r<a.aE.Z.l.length){p HO:Int}(aG:p<=HO):u9 (kA a s r) p<=u9 (kA a s r) HO:=by
 have G:=Yo (s:=s) bX O p;have U:=Yo (s:=s) bX O HO;generalize u9 (kA a s r) p=l at*;generalize u9 (kA a s r) HO=h at*;rcases HT h l with jT|yI;·have fT:=G.B2;have eN:=U.B2;have g8:=U.gt l jT D;have eK:=G.le l D (oH _);omega
 ·exact yI
def aZk{a:bT}{s:cG}(bX:sG a){r:Int}(O:0<=r/\r<a.aE.Z.l.length){p HO:Int}(aG:p<=HO):u6 (kA a s r) p<=u6 (kA a s r) HO:=by
 have G:=a0g (s:=s) bX O p;have U:=a0g (s:=s) bX O HO;generalize u6 (kA a s r) p=l at*;generalize u6 (kA a s r) HO=h at*;rcases HT h l with jT|yI;·have fT:=G.B2;have eN:=U.B2;have g8:=G.lt h D jT;have eK:=U.ge h (oH _) D;omega
 ·exact yI
end Go.Proofs.YtdiajbdaadlfhaaGreatDoor
namespace Go.Aw
open Go
def aJL{P:Program}(w:World)(t ty e:TypeId)(i:TypeInfo)(gJ:P.underlying t=some (.slice e))(aB:P.info? e=some i)(gH:Option Addr)(c:Nat):
 (Builtin.append_ #[t,t] ty #[.slice none 0 0,.slice gH 0 c]).run P w=.ok (.slice none 0 0) w:=by
 cases gH with
 |none=>simp[Builtin.append_,run_underlying gJ,sizeOf,typeInfo,aB,Builtin.lenOf,run_firstCells_none,Builtin.firstCells]
 |some a=>have aH:=run_firstCells_some (P:=P) w i.size 0 a 0 c [] eY eY;simp[Builtin.append_,run_underlying gJ,sizeOf,typeInfo,aB,Builtin.lenOf,aH]
section
variable{P:Program}{aV:Operand->Value}{L:aW}{R:aP}{dst:Option Tmp}{ty:TypeId}{pos:String}{after:Array Edge}{guard:Option (Nat×Bool)}(M:nN P){T:TypeId}{x y:Operand}
def aU7{hN:TypeId}{a b:Bool}{oR h5 fT nK}(dF:g5 M.gD T=some ⟨.bool,oR,h5,fT,nK⟩)(K:aV x=.bool a)(bB:aV y=.bool b):cI P ⟨dst,.binOp .eql T x y hN,ty,pos,after,guard⟩ aV L R (.bool (decide (a=b))):=λ_ _ _=>by
 have aT:=λw=>run_equal_bool (P:=P) w T a b (aXG (M.ok _ _ dF) rfl)
 simp[execOp,K,bB,eqGuard,binOp,aT]
 cases a<;>cases b<;>rfl
def rH{aY:Type}{e n fl bt z eK gC pJ mX z2}{f:aY->List Value}{xs:bP aY}{eE:aP}(dF:g5 M.gD T=some ⟨.slice e,n,fl,bt,z⟩)(c6:g5 M.gD e=some ⟨eK,gC,pJ,mX,z2⟩)(A1:z2.length=gC)(bV:0<gC)
 (K:aV x=.slice none 0 0) (bB:aV y=xs.val) (b8:aN (xs.eJ gC f eE) R) (G:∀a,(f a).all (·.oneCell')=true) (MQ:xs.l.length*(mX+1)<=140737488355328):
 dR P ⟨dst,.call ⟨.builtin .append,#[x,y],#[T,T]⟩,ty,pos,after,guard⟩ aV L R (λv E R'=>∃o:gT,v=(⟨o,xs.l⟩:J aY).val/\(⟨o,xs.l⟩:J aY).ok gC f/\(⟨o,xs.l⟩:J aY).L e f++L=E/\R=R'):=by
 intro c w cW a next Q gK
 obtain⟨gH,cap,l⟩:=xs;cases l with
 |nil=>
  have cZ:=LL (M.ok _ _ dF) rfl;obtain⟨hZ,u,l0,FX,i2,i3,i4⟩:=E0 (M.ok _ _ c6);have dH:execOp aV ⟨dst,.call ⟨.builtin .append,#[x,y],#[T,T]⟩,ty,pos,after,guard⟩=(do pure (.value (<-Builtin.append_ #[T,T] ty #[aV x,aV y]))):=by exact Vx
  have O:=aJL w T ty e hZ cZ FX gH cap;refine EZ (w':=w) (v:=.slice none 0 0) ?_ (gK _ _ _ w ⟨.nil,rfl,⟨rfl,rfl⟩,rfl,rfl⟩ cW);rw[dH,K,bB];simp only[bP.val,v1,s5,O,rD,D8]
 |cons NH l=>
  have cE:∀r∈(NH::l).map f,r.length=gC:=by
   have pL:=cW;obtain⟨⟨aD,bF,_⟩,_,_⟩:=pL;obtain⟨r,O,mA⟩:=b8;have HF:=(bF.nH r O).sub mA;cases HF with
   |mk _ _ _ cE _ _=>exact cE
  have FM:((NH::l).map f).flatten=(NH::l).flatMap f:=Qo _;have iF:((NH::l).map f).flatten.length=(NH::l).length*gC:=by
   have:∀rows:List (List Value),(∀r∈rows,r.length=gC)->rows.flatten.length=rows.length*gC:=by
    intro rows;induction rows with
    |nil=>intro _;simp
    |cons r rows cA=>intro h;rw[aB9,hL,cA λr O=>h r sF,h r eY,kL,K2];omega
   rw[this _ cE,pU]
  have aF:=aGz (L:=L) b8 bV (λc w cW=>by
   obtain⟨⟨aD,bF,_⟩,_,_⟩:=cW;obtain⟨r,O,mA⟩:=b8;have HF:=(bF.nH r O).sub mA;cases HF with
   |mk _ _ _ _ a1 _=>
    rcases a1 with h|⟨b,off,bX,_⟩;·simp at h
    ·exact⟨b,off,bX⟩) iF ⟨c,w,cW⟩
  have mQ:(NH::l).length*mX<=140737488355328:=HU (aB2 _ (Nat.le_succ _)) MQ;have DO:(NH::l).length<=140737488355328:=HU (aBW _ (Nat.succ_pos _)) MQ;have M2:Ij L R (aV y) (NH::l).length gC ((NH::l).map f).flatten:=by rw[bB];exact aF
  have pS:(((NH::l).map f).flatten).all (·.oneCell')=true:=by rw[List.all_eq_true];intro v cS;obtain⟨r,O,cS⟩:=List.mem_flatten.1 cS;obtain⟨a,_,rfl⟩:=List.mem_map.1 O;exact List.all_eq_true.1 (G a) v cS
  have:=a74 (dst:=dst) (ty:=ty) (pos:=pos) (after:=after) (guard:=guard) (s:=.nil) (xs:=[]) (len:=0) (L:=L) (f:=λxH=>xH++L) M dF c6 A1 K ⟨rfl,rfl⟩ GI.lK M2 eY pS D (by rw[K7];exact mQ);refine this c w cW a next Q ?_
  rintro v E R' w' ⟨g,Se,spare,rfl,xU,rfl,rfl⟩ pL;rw[nJ,FM,K7]at xU;refine gK _ _ _ w' ⟨.own g Se spare,?_,xU,?_,rfl⟩ pL;·rw[K7];rfl
  ·rw[nJ,FM];rfl
end
def kH.b5O{ws:List Nat}{t0 t:Nat->Value}{d:Nat}{v:Value}(a7:xA d ws=true)(h:kH ws t0 t):kH ws (Aw.kD t0 d v) t:=λk Y=>by
 rw[h k Y]
 exact((kH.kD a7 (kH.refl (ws:=ws) (t:=t0))) k Y).symm
def aM.cast{P:Program}{f:FuncId}{args aKr:Array Value}{L:aW}{R:aP}{Post:n8}(h:aM P f args L R Post)(e:args=aKr):aM P f aKr L R Post:=e▸h
def He{P:Program}{aV:Operand->Value}{L:aW}{R:aP}{dst:Option Tmp}{ty:TypeId}{pos:String}{after:Array Edge}{guard:Option (Nat×Bool)}{a8g:Operand}{xs:List Operand}{n6:Array TypeId}{f:FuncId}{cap:Array Value}{args:List Value}{Post:n8}
 (bU:aV a8g=.func (.func f) #[] cap) (bX:xs.map aV++cap.toList=args) (h:aM P f args.toArray L R Post):dR P ⟨dst,.call ⟨.value a8g,xs.toArray,n6⟩,ty,pos,after,guard⟩ aV L R Post:=by
 intro x w aF a next Q k
 have a9m:#[]++xs.toArray.map aV++cap=args.toArray:=by rw[<-bX];simp
 have WQ:(execOp aV ⟨dst,.call ⟨.value a8g,xs.toArray,n6⟩,ty,pos,after,guard⟩).run P w=.ok (.enter f args.toArray) w:=by have G:=h.1 args.toArray w;simp only[execOp,resolve,bU,Deferred.ofValue];simp only[aB6]at a9m;simp only[invoke,s5,D8,rD,aB6,a9m];exact G
 exact aOB
def a02{P:Program}{aV:Operand->Value}{L:aW}{R:aP}{dst:Option Tmp}{ty:TypeId}{pos:String}{after:Array Edge}{guard:Option (Nat×Bool)}{fn:Fn}{cs:List Operand}{vs:List Value}(cS:cs.map aV=vs):
 cI P ⟨dst,.makeFunc fn #[] cs.toArray,ty,pos,after,guard⟩ aV L R (.func fn #[] vs.toArray):=λ_ w _=>by
 subst cS
 simp[execOp,Instr.makeFunc]
section
variable{P:Program}{n:Nat}{all:Array Oper}{op:Op}{ty:TypeId}{pos:String}{after:Array Edge}{aC:List Oper}{t:Nat->Value}{L:aW}{R:aP}{Q:fR}{d:Tmp}{v:Value}{g:Option (Nat×Bool)}
def a6p{ops:List Oper}{E:aW}(h:L=E)(k:dG P n all ops t E R Q):dG P n all ops t L R Q:=h▸k
def x9(cS:cI P ⟨some d,op,ty,pos,after,g⟩ (iL t) L R v)(cE:n9 all t g=true)(a7:Nat.blt d n=true)(h:dG P n all aC (kD t d v) L R Q):dG P n all (⟨some d,op,ty,pos,after,g⟩::aC) t L R Q:=aEZ cS cE a7 h
def VI{Post:n8}(bE:dR P ⟨some d,op,ty,pos,after,g⟩ (iL t) L R Post)(cE:n9 all t g=true)(a7:Nat.blt d n=true)(h:∀v E R',Post v E R'->dG P n all aC (kD t d v) E R' Q):dG P n all (⟨some d,op,ty,pos,after,g⟩::aC) t L R Q:=a1v bE cE a7 h
def a41{f:FuncId}{xs:List Operand}{n6:Array TypeId}{args:List Value}{Post:n8}(bX:xs.map (iL t)=args)(h:aM P f args.toArray L R Post)(cE:n9 all t g=true)(a7:Nat.blt d n=true)
 (k:∀v E R',Post v E R'->dG P n all aC (kD t d v) E R' Q):dG P n all (⟨some d,.call ⟨.value (.func f),xs.toArray,n6⟩,ty,pos,after,g⟩::aC) t L R Q:=
 VI (Qx a4e rfl h) cE a7 k
def Bt(cE:n9 all t g=false)(a7:Nat.blt d n=true)(h:dG P n all aC (kD t d undef) L R Q):dG P n all (⟨some d,op,ty,pos,after,g⟩::aC) t L R Q:=aTW cE a7 h
end
end Go.Aw
namespace Go.Proofs.YtdiajbdaadlfhaaGreatDoor
open Go.Aw Go Go.Proofs.Tryz
set_option maxRecDepth 20000
attribute [local irreducible] cO dG dP aM cI dR fA e2 e5 fB eQ e9 J.L
def aWf{P n code t R}{Q:fR}{A:aW}{m:AD}{VM:bQ}{fT eN e4:Nat}{a5V hN a5W:TypeId}(a1:m.YR)(Tb:Q3 m.a m.t m.x)(aH: ∀f∈m.bD.l,aN f.eJ R)(a7: ∀d∈m.a8.l,aN d.eJ R)
 (h:∀a s x R',Q3 a s x->qF a R'->u3 s R'->a5U x R'->(∀r∈R,aN r R')->cO P n code t (⟨e4,x.cells,a5W⟩::⟨eN,s.cells,hN⟩::⟨fT,a.cells,a5V⟩::(A++(VM::[]))) R' Q):
 cO P n code t (⟨e4,m.x.cells,a5W⟩::⟨eN,m.t.cells,hN⟩::⟨fT,m.a.cells,a5V⟩::(A++m.L VM)) R Q:=
 aVB (A:=⟨e4,m.x.cells,a5W⟩::⟨eN,m.t.cells,hN⟩::⟨fT,m.a.cells,a5V⟩::A) a1 aH a7 λR' G U aO bW=>h m.a m.t m.x R' Tb G U aO bW
end Go.Proofs.YtdiajbdaadlfhaaGreatDoor
namespace Go.Proofs.YtdiajbdaadlfhaaGreatDoor
open Go.Aw Go Go.Proofs.Tryz
end Go.Proofs.YtdiajbdaadlfhaaGreatDoor
