/-
  Merged texts. By an AI agent.
-/
import Derived.Test.YtchfclmokpbldaaGreatFits
import Derived.Test.YtchfclmokpbldaaGreatSiteD
import Derived.Test.YtchfclmokpbldaaGreatTelW
import Derived.Test.YtchfclmokpbldaaGreatFeedY
set_option linter.all false
set_option maxHeartbeats 4000000
set_option maxRecDepth 20000
variable{A B:Prop}
namespace Go.Proofs.YtchfclmokpbldaaGreat
open Go.Aw Go Go.Proofs.Tryz
end Go.Proofs.YtchfclmokpbldaaGreat
/-
  What an append to a full read-only slice gives. By an AI agent; no person has read it.
-/
namespace Go.Aw
open Go
section
variable{P:Program}{bF:Operand->Value}{L:aR}{R:aO}{dst:Option Tmp}{ty:TypeId}{pos:String}{after:Array Edge}{guard:Option (Nat×Bool)}(N:oE P){T:TypeId}{x y:Operand}
def aEA{n:Nat}: ∀{rows:List (List Value)},(∀r∈rows,r.length=n)->rows.flatten.length=rows.length*n
 |[],_=>by simp
 |r::rows,h=>by rw[aCx,l9,aEA λr M=>h r (by simp[M]),h r g2,wD,MC];omega
end
end Go.Aw
namespace Go.Proofs.YtchfclmokpbldaaGreat
open Go.Aw Go Go.Proofs.Tryz
def aXG{P:Program}{bF:Operand->Value}{L:aR}{R:aO}{dst:Option Tmp}{ty:TypeId}{pos:String}{after:Array Edge}{guard:Option (Nat×Bool)}(N:oE P){T:TypeId}{x y:Operand}{k:IntKind}{len cap m:Nat}{h:Int}{jQ:Option Addr}{e r3 aA g0 z fI fV rB nB iX}
 (dW:hW N.g1 T=some ⟨.slice e,r3,aA,g0,z⟩) (c5:hW N.g1 e=some ⟨fI,fV,rB,nB,iX⟩) (K:bF x=.slice jQ len cap) (aS:bF y=.int k h) (b4:h=(m:Int)) (O:1<=m) (b1:m<=len):
 cP P ⟨dst,.slice T x (some y) none none,ty,pos,after,guard⟩ bF L R (.slice (if cap=m then jQ else jQ.map (·.add (m*fV))) (len-m) (cap-m)):=λ_ w _=>by
 have dL:=M1 (N.ok _ _ dW) rfl
 have W:P.elem T=e:=by simp[Program.elem,dL]
 have N9:P.underlying T=some (.slice (P.elem T)):=by rw[W];exact dL
 have aH:=Go.Aw.run_sizeOf (N.ok _ _ c5) w
 simp only at aH
 subst b4
 have O:=run_slice_l (P:=P) w T jQ len cap N9 k (m:Int) D D
 rw[W,aH,u2,xP]at O
 simp[execOp,K,aS,run_sliceAt_slice w T _ _ _ _ N9,O,sliced]
def aGL{w:World}{Z:Nat->Prop}{aN len cap m:Nat}{a:Option Addr}{rows:List (List Value)}{eU:aO}(h:sB w Z (.mk aN a len cap rows eU))(O:1<=m)(aG:m<=len)(aP:0<aN):sB w Z (.mk aN (if cap=m then a else a.map (·.add (m*aN))) (len-m) (cap-m) (rows.drop m) eU):=by
 cases h with
 |mk aX cG a3 dH M aH=>
  refine .mk DQ D D (λr M=>dH r (Cb M)) ?_ aH;rcases hF m len with X|X;·
   rcases M with b2|⟨b,off,bT,b7,JF⟩;·exact .inl (by rw[b2];simp)
   ·have b9R:0<m*aN:=Nat.mul_pos O aP;refine .inr ⟨b,off+m*aN,by rw[if_neg D,bT,Bw,Addr.add,if_neg D],b7,λi j aE a6=>?_⟩;have:=JF (i+m) j D a6;(have e:off+m*aN+i*aN+j=off+(i+m)*aN+j:=by rw[Ia];omega);rw[List.getElem?_drop,Nat.add_comm m i,<-this,e]
  ·exact .inl (a3C D)
abbrev m9{a7:Type}(y:a4 a7)(m aN:Nat):a4 a7:=⟨if y.cap=m then y.a else y.a.map (·.add (m*aN)),y.cap-m,y.l.drop m⟩
abbrev FH{a7:Type}(y:a4 a7)(m:Nat):a4 a7:=⟨y.a,y.cap,y.l.take m⟩
def VE{a7:Type}{P n code t L R}{Q:gF}{aN m:Nat}{f:a7->List Value}{eU:aO}{y:a4 a7}(bO:aL (y.gN aN f eU) R)(O:1<=m)(aG:m<=y.l.length)(aP:0<aN)(h:cQ P n code t L ((m9 y m aN).gN aN f eU::R) Q):cQ P n code t L R Q:=by
 refine a6M (s:=(m9 y m aN).gN aN f eU) (λw Z b4=>?_) h;obtain⟨r,M,aH⟩:=bO;have X:=aGL ((b4 r M).sub aH) O aG aP;have eV:y.l.length-m=(y.l.drop m).length:=by rw[DL]
 have fN:(y.l.map f).drop m=(y.l.drop m).map f:=by rw[List.map_drop]
 rw[eV,fN]at X;exact X
section
variable{P:Program}{bF:Operand->Value}{L:aR}{R:aO}{dst:Option Tmp}{ty:TypeId}{pos:String}{after:Array Edge}{guard:Option (Nat×Bool)}(N:oE P){T:TypeId}{x y:Operand}
def aYX{a7:Type}{f:a7->List Value}{xs:a4 a7}{fV:Nat}{eU:aO}(bO:aL (xs.gN fV f eU) R)(b2:0<fV)(TW:0<xs.l.length){c:w3}{w:World}(cT:dQ c L R w):Jm L R xs.val xs.l.length fV (xs.l.flatMap f):=by
 obtain⟨jQ,cap,l⟩:=xs;dsimp only at bO TW|-;have dH:∀r∈l.map f,r.length=fV:=by
  have qF:=cT;obtain⟨⟨Z,b4,_⟩,_,_⟩:=qF;obtain⟨r,M,lU⟩:=bO;have EQ:=(b4.o8 r M).sub lU;cases EQ with
  |mk _ _ _ dH _ _=>exact dH
 have v9:(l.map f).flatten=l.flatMap f:=Qr _;have gA:(l.map f).flatten.length=l.length*fV:=by rw[aEA dH,sV]
 have aNe:=aF5 (L:=L) bO b2 (λc w cT=>by
  obtain⟨⟨Z,b4,_⟩,_,_⟩:=cT;obtain⟨r,M,lU⟩:=bO;have EQ:=(b4.o8 r M).sub lU;cases EQ with
  |mk _ _ _ _ a3 _=>
   rcases a3 with h|⟨b,off,bT,_⟩;·have c4:=congrArg List.length h;simp at c4;rw[c4]at TW;simp at TW
   ·exact⟨b,off,bT⟩) gA ⟨c,w,cT⟩
 rw[v9]at aNe;exact aNe
def Ir{a7:Type}{e n aA g0 z fI fV rB nB iX}{f:a7->List Value}(p:J a7)(xs:a4 a7){eU:aO}{F:J a7->aR}(dW:hW N.g1 T=some ⟨.slice e,n,aA,g0,z⟩)(c5:hW N.g1 e=some ⟨fI,fV,rB,nB,iX⟩)(AU:iX.length=fV)(b2:0<fV)
 (K:bF x=p.val) (aS:bF y=xs.val) (bH:p.ok fV f) (bO:aL (xs.gN fV f eU) R) (xG:sA e f p L F) (O:∀x,(f x).all (·.oneCell')=true) (QJ:(p.l.length+xs.l.length)*(nB+1)<=140737488355328):
 eC P ⟨dst,.call ⟨.builtin .append,#[x,y],#[T,T]⟩,ty,pos,after,guard⟩ bF L R (λv E G=>∃o:g6,v=(⟨o,p.l++xs.l⟩:J a7).val/\(⟨o,p.l++xs.l⟩:J a7).ok fV f/\F ⟨o,p.l++xs.l⟩=E/\R=G):=by
 obtain⟨A,B,dI,kN⟩:=xG.split;intro c w cT a1B next Q iB
 have EL:(p.l.length+xs.l.length)*nB<=140737488355328:=G0 (aCq _ (Nat.le_succ _)) QJ;have y8:p.l.length+xs.l.length<=140737488355328:=G0 (aCG _ (Nat.succ_pos _)) QJ;have TV:bF x=p.o.val p.l.length:=by rw[K,g6.aQi bH];rfl
 rcases a3H xs.l.length with eW|eW;·
  have Ad:xs.l=[]:=Hx eW;have Va:bF y=.slice xs.a 0 xs.cap:=by rw[aS,a4.val,eW]
  have a2t:F p=L:=by rw[kN,dI]
  cases dG:p.o with
  |nil=>
   have dL:=M1 (N.ok _ _ dW) rfl;obtain⟨iW,u,oT,Q2,Ve,XA,Mm⟩:=JI (N.ok _ _ c5);(have eV:execOp bF ⟨dst,.call ⟨.builtin .append,#[x,y],#[T,T]⟩,ty,pos,after,guard⟩=(do pure (.value (<-Builtin.append_ #[T,T] ty #[bF x,bF y]))):=by exact a3g);have M:=aKD w T ty e iW dL Q2 xs.a xs.cap;(have eI:p.l=[]:=by have GI:=bH;rw[J.ok,dG]at GI;exact Hx GI.1);(have QZ:bF x=.slice none 0 0:=by rw[K,J.val,dG,eI];rfl);refine P2 (w':=w) (v:=.slice none 0 0) ?_ (iB _ _ _ w ⟨.nil,by rw[Ad,eI];rfl,by rw[Ad,eI];exact⟨rfl,rfl⟩,?_,rfl⟩ cT);·rw[eV,QZ,Va];simp only[w0,M,u2,KQ]
   ·rw[<-a2t,Ad,GZ,<-dG]
  |own g cap spare=>(have J2:p.l.length<=cap:=by have GI:=bH;rw[J.ok,dG]at GI;exact GI.2.1);(have Ha:bF x=.slice (some ⟨g,0,none⟩) p.l.length cap:=by rw[K,J.val,dG];rfl);(refine b0J (L:=L) (R:=R) (dst:=dst) (ty:=ty) (pos:=pos) (after:=after) (guard:=guard) N dW c5 Ha Va J2 c w cT a1B next Q ?_);rintro v E G w' ⟨rfl,rfl,rfl⟩ qF;rw[Ad,GZ]at iB;exact iB _ _ _ w' ⟨p.o,by rw[J.val,dG];rfl,bH,a2t,rfl⟩ qF
 ·
  have Am:=aYX (L:=L) bO b2 eW cT;rw[<-aS]at Am;subst dI;refine a4Q (dst:=dst) (ty:=ty) (pos:=pos) (after:=after) (guard:=guard) N dW c5 AU TV bH (aD5 A _ B) Am eW (aEq O _) D EL c w cT a1B next Q ?_
  rintro v E G w' ⟨g,cap,spare,rfl,GI,rfl,rfl⟩ qF;have e:p.l.flatMap f++xs.l.flatMap f=(p.l++xs.l).flatMap f:=by simp
  rw[e]at GI;have aX:(p.l++xs.l).length=p.l.length+xs.l.length:=by simp
  exact aOD
end
section
variable{P:Program}{bF:Operand->Value}{L:aR}{R:aO}{dst:Option Tmp}{ty:TypeId}{pos:String}{after:Array Edge}{guard:Option (Nat×Bool)}(N:oE P){T:TypeId}{x y z:Operand}
def Yi{a7:Type}{u:a4 a7}{m aN:Nat}{h:Int}{k:IntKind}{e r3 aA g0 z fI fV rB nB iX}(dW:hW N.g1 T=some ⟨.slice e,r3,aA,g0,z⟩)(c5:hW N.g1 e=some ⟨fI,fV,rB,nB,iX⟩)(K:bF x=u.val)(aS:bF y=.int k h)(b4:h=(m:Int))(O:1<=m)(b1:m<=u.l.length)(dH:fV=aN):
 cP P ⟨dst,.slice T x (some y) none none,ty,pos,after,guard⟩ bF L R (m9 u m aN).val:=by have X:=aXG (bF:=bF) (L:=L) (R:=R) (dst:=dst) (ty:=ty) (pos:=pos) (after:=after) (guard:=guard) N dW c5 K aS b4 O b1;subst dH;rw[a4.val,DL];exact X
def aDx{a7:Type}{u:a4 a7}{m q aN:Nat}{h l:Int}{k o5:IntKind}{e r3 aA g0 b8s fI fV rB nB iX}(dW:hW N.g1 T=some ⟨.slice e,r3,aA,g0,b8s⟩)(c5:hW N.g1 e=some ⟨fI,fV,rB,nB,iX⟩)(K:bF x=u.val)(aS:bF y=.int k l)(eW:bF z=.int o5 h)(aX:l=(m:Int))(b4:h=(m:Int)+(q:Int))(O:1<=m)(b1:m+q<=u.l.length)(cG:u.l.length<=u.cap)(dH:fV=aN):
 cP P ⟨dst,.slice T x (some y) (some z) none,ty,pos,after,guard⟩ bF L R (FH (m9 u m aN) q).val:=λ_ w _=>by
 subst dH
 subst aX
 have dL:=M1 (N.ok _ _ dW) rfl
 have W:P.elem T=e:=by simp[Program.elem,dL]
 have N9:P.underlying T=some (.slice (P.elem T)):=by rw[W];exact dL
 have aH:=Go.Aw.run_sizeOf (N.ok _ _ c5) w
 simp only at aH
 have aU:=run_slice_lh (P:=P) w T u.a u.l.length u.cap N9 k o5 (m:Int) h D D D
 have eV:h.toNat-m=q:=by omega
 have fN:((u.l.drop m).take q).length=q:=by rw[Hu,DL];omega
 rw[W,aH,u2,xP]at aU
 rw[a4.val,FH,m9,fN]
 simp[execOp,K,aS,eW,run_sliceAt_slice w T _ _ _ _ N9,aU,sliced,eV]
end
def Yu{a7:Type}{P n code t L R}{Q:gF}{aN:Nat}{f:a7->List Value}{eU:aO}{y:a4 a7}(bO:aL (y.gN aN f eU) R)(h:y.l.length<=y.cap->cQ P n code t L R Q):cQ P n code t L R Q:=λc a w aF aH=>by
 have J2:y.l.length<=y.cap:=by
  have qF:=aH
  obtain⟨⟨Z,b4,_⟩,_,_⟩:=qF
  obtain⟨r,M,lU⟩:=bO
  have EQ:=(b4.o8 r M).sub lU
  cases EQ with
  |mk _ cG _ _ _ _=>exact cG
 exact h J2 c a w aF aH
def Yy{a7:Type}{P n code t L R}{Q:gF}{aN m:Nat}{f:a7->List Value}{eU:aO}{y:a4 a7}(q:Nat)(bO:aL (y.gN aN f eU) R)(O:1<=m)(aG:m<=y.l.length)(aP:0<aN)(h:cQ P n code t L ((FH (m9 y m aN) q).gN aN f eU::R) Q):cQ P n code t L R Q:=by
 refine VE bO O aG aP ?_;refine aFf q mA ?_;exact tO hA (λr M=>by
  rcases List.mem_cons.1 M with h|h;·exact aT (by rw[h];exact .head _)
  ·exact aT (.tail _ (.tail _ h))) h
section
def aFd(h:A->B:=by exact bE mM rfl rfl rfl):=h
def aM.b6S{P:Program}{f:FuncId}{args:Array Value}{L:aR}{R:aO}{Post CM:oK}(h:aM P f args L R Post)(k:∀v E G,Post v E G->∃i6,E.Perm i6/\CM v i6 G):aM P f args L R CM:=
 ⟨h.1,λw Z b4=>(h.2 w Z b4).mono λ_ _ ⟨v,E,G,e,p,s⟩=>let ⟨i6,aP,L2⟩:=k v E G p;⟨v,i6,G,e,L2,s.CA aP⟩⟩
attribute [local irreducible] cQ dF dV aM cP eC e5 e1 e2 e6 eX e4 J.L
def RR(x:cL)(c9:J fG)(b:Nat)(k z u:Int)(L:aR)(R:aO)(aG:c9.ok 4 fG.cells)(b1:c9.l.length<=400):
 aM prog 85 [.pointer (some ⟨b,0,none⟩),.int .i64 k,.int .i64 z,.int .i64 u].toArray (⟨b,({x with eQ:=c9.V}:cL).cells,54⟩::(c9.L 150 fG.cells++L)) R
  (λv E G=>∃q:J fG,q.ok 4 fG.cells/\q.l=O7 c9.l ⟨x.time,k,z,u⟩/\⟨b,({x with eQ:=q.V}:cL).cells,54⟩::(q.L 150 fG.cells++L)=E/\R=G):=by
 refine aM.b6S (Post:=λv E G=>∃q:J fG,q.ok 4 fG.cells/\q.l=O7 c9.l ⟨x.time,k,z,u⟩/\(⟨b,({x with eQ:=q.V}:cL).cells,54⟩::(q.L 150 fG.cells++L)=E\/q.L 150 fG.cells++(⟨b,({x with eQ:=q.V}:cL).cells,54⟩::L)=E)/\R=G) ?_ (λv E G ⟨q,O,X,aU,cK⟩=>⟨_,by
  rcases aU with rfl|rfl;·exact Ca _
  ·exact a3A,q,O,X,rfl,cK⟩)
 refine b6 44 call85 func85 rfl rfl rfl ?_;refine bK ?_;refine iS N [9] [0,1,2,3,4,5,6,7,8,9,10,11,12,13] [14,15,16,17] (_) _ dO bI bA fM ?_;refine m2 (CH Cc) rfl rfl rfl rfl ?_;apply(T6);refine fP jV rfl rfl rfl rfl ?_;apply mH∘T6;refine fP jV rfl rfl rfl rfl ?_;apply(mH);iterate 3 apply(zO)
 refine fP aQW rfl rfl rfl rfl ?_;refine Eb Xf rfl rfl rfl ?_;rintro v E G ⟨V6,rfl,rfl,Ez⟩;replace Ez:=Ez.symm;subst Ez;apply(NG);refine uN (pO (f:=fG.cells) (p:=c9) (a:=⟨x.time,k,z,u⟩) N rfl rfl rfl rfl (aG) cF p2 rfl qI) rfl rfl rfl ?_;rintro v E G ⟨zI,rfl,TL,rfl,rfl⟩;apply gJ∘a21∘PQ∘IP;have fT:(⟨zI,c9.l++[⟨x.time,k,z,u⟩]⟩:J fG).l.length=c9.l.length+1:=by simp
 have Md:(c9.l++[(⟨x.time,k,z,u⟩:fG)]).length=c9.l.length+1:=by simp
 apply eB∘lX;refine aI jV rfl ?_;apply kD∘j3∘rS∘HS;refine U ?_ ?_<;>intro aQ;·
  obtain⟨gI,jT⟩:∃gI:J fG,gI=⟨zI,c9.l++[⟨x.time,k,z,u⟩]⟩:=⟨_,rfl⟩;have aMY:(c9.l++[(⟨x.time,k,z,u⟩:fG)]).length=gI.l.length:=by rw[jT]
  rw[<-jT]at TL fT|-;refine hB (T:=150) (f:=fG.cells) (aN:=4) gI [] cF bD aW TL e8 ?_;refine eM gD ?_;refine VE (y:=gI.V) (m:=gI.l.length-400) mA D aCS aW ?_;have LS:(m9 gI.V (gI.l.length-400) 4).l.length<=1000:=by show(gI.l.drop _).length<=_;rw[DL];omega
  apply eB∘lX∘lX;refine aI jV rfl ?_;apply(gK);refine aI aS9 rfl ?_;refine hT (r9 (f:=fG.cells) (xs:=m9 gI.V (gI.l.length-400) 4) N rfl rfl rfl aW rfl rfl ((aT (.head _))) bD D) rfl ?_;rintro v E G ⟨Q7,rfl,Lz,rfl,rfl⟩;refine aI jV rfl ?_;apply FT∘DI;refine Qe (E:=(⟨Q7,gI.l.drop (gI.l.length-400)⟩:J fG).L 150 fG.cells++(⟨b,({x with eQ:=(⟨Q7,gI.l.drop (gI.l.length-400)⟩:J fG).V}:cL).cells,54⟩::L)) (G:=R) (Pp rfl) ?aP ?dI ?bO;case aP=>exact⟨⟨Q7,gI.l.drop (gI.l.length-400)⟩,Lz,by show gI.l.drop _=_;rw[O7,fT,jT],.inr rfl,rfl⟩
  case dI=>exact bA
  case bO=>exact λr M=>aT (.tail _ (.tail _ M))
 refine eP ?_;refine Qe (E:=⟨b,({x with eQ:=(⟨zI,c9.l++[⟨x.time,k,z,u⟩]⟩:J fG).V}:cL).cells,54⟩::((⟨zI,c9.l++[⟨x.time,k,z,u⟩]⟩:J fG).L 150 fG.cells++L)) (G:=R) (Pp rfl) ?aP ?dI ?bO;case aP=>exact⟨⟨zI,c9.l++[⟨x.time,k,z,u⟩]⟩,TL,by rw[O7,show c9.l.length+1-400=0 by omega,Bx],.inl rfl,rfl⟩
 case dI=>exact bA
 case bO=>exact n1 _
def h3.yC{g:hL}{p:bZ}{x:cL}(h:h3 g p x){l:a4 fG}{k z u:Int}(aX:l.l=O7 x.eQ.l ⟨x.time,k,z,u⟩):h3 g (nT p k z u) ({x with eQ:=l}:cL):={h with eQ:=by rw[nT,<-h.eQ,<-h.time];exact aX}
def Jf(x:cL)(t:Int)(L:aR)(R:aO):
 aM prog 81 [x.val,.int .i64 t].toArray L R (λv E G=>v=.bool (decide (t<x.time\/2147483648<t))/\L=E/\R=G):=by
 refine b6 13 call81 func81 rfl rfl rfl ?_;apply(dB);intro eH;apply nG∘FX∘qO;apply cA (Z:=[_,_]) (j:=4) (a9:=9) rfl rfl aB rfl aY rfl;·intro hD;replace hD:=bB hD;exact(Ds) g4
 intro wP;exact a3f
def P5(x:bS):Bool:=!x.eJ||decide (x.c1= -1)
def Zv{l:List Int}{f:Int->Bool}(h:∀j:Nat,j<l.length->f (l.getD j 0)=false):l.any f=false:=by rw[List.any_eq_false];intro y aS;obtain⟨j,a6,rfl⟩:=Hy aS;have:=h j a6;rw[m8,DN a6]at this;rw[show(some l[j]).getD 0=l[j]from rfl]at this;rw[this];decide
def aYc(f:hJ)(z:Int)(L:aR)(R:aO)(aF:k0 f R)(i2:jS f.aZ.l f.a2.l f.cB=0)(eW:0<=z/\z<f.a2.l.length):
 aM prog 159 [f.val,.int .i64 z].toArray L R (λv E G=>v=.bool ((vU f.aZ.l f.a2.l f.cB (f.a2.l.getD z.toNat 0)).any λk=>P5 (f.aZ.l.getD k.toNat default))/\L=E/\R=G):=by
 have jB:=aF.Y;have o4:=aF.cI;have qG:=bJ (l:=f.a2.l) (k:=z.toNat) 0 D;refine b6 34 call159 func159 rfl rfl rfl ?_;apply(dB);intro eH;apply nG∘CB;refine gZ N [0,1,2,3,4,5,8,6,7] _ dO bI hA ?_;apply aFd∘l1;refine bE Oj rfl rfl rfl ?_;apply k4∘hK;refine tP rfl (a7G f (f.a2.l.getD z.toNat 0) _ _ aF) rfl rfl ?_;rintro v E G ⟨q,rfl,gR,fT,rfl,rfl⟩;refine⟨bA,iQ,?_⟩;refine bE yG rfl rfl rfl ?_;refine g5 (a8 (fR ?_));refine dS [(2,.pointer _),(14,.slice _ _ _),(15,.int _ _),(16,.int _ _)] bV λfK=>?_;have WX:∀y∈q.l,0<=y/\y<f.aZ.l.length:=λy aS=>by exact aP0
 refine hB (T:=3) (f:=a1) (aN:=1) q [] cF bD aW gR e8 ?_;refine eM gD ?_;have WW:aL (dU q.V) (dU q.V::R):=aT (.head _);have sO:q.l.length<=32:=by rw[fT];exact Pa
 have Un:=jB.mono λr M=>aT (R:=dU q.V::R) (.tail _ M);refine gY ([4,6,7]++cN 16 18) (λg:{k:Nat//k<=q.l.length/\∀j:Nat,j<k->P5 (f.aZ.l.getD (q.l.getD j 0).toNat default)=false}=>[(16,.int .i64 ((g.1:Nat):Int))]) (λg=>q.l.length-g.1) (⟨0,by omega,λj a6=>by omega⟩) ?_;rintro⟨k,aG,hC⟩ cH;try dsimp only
 apply(h0);refine U ?_ ?_<;>intro aQ;·
  have AW:=bJ (l:=q.l) (k:=k) 0 D;have Uk:=WX _ (hV AW);have wN:=bJ (l:=f.aZ.l) (k:=(q.l.getD k 0).toNat) default D;apply(j9);refine aI pL rfl ?_;apply VU∘gK;refine aI aDg rfl ?_;apply(SO);intro o0;apply z8∘JR;apply cA (Z:=[_,_,_]) (j:=3) (a9:=28) rfl rfl aB rfl aY rfl;·exact Wz
  intro h8;apply(b9);refine U ?_ ?_<;>intro bL;·
   apply(FV);refine lH (E:=L) (G:=R) (sD rfl RJ) ?aP ?dI ?bO;case aP=>exact⟨by rw[<-fT,List.any_eq_true.2 ⟨_,hV AW,by rw[P5];simpa using bL⟩],rfl,rfl⟩
   case dI=>exact bA
   case bO=>exact λr M=>aT (.tail _ M)
  apply(mU);exact hP ⟨k+1,by omega,λj a6=>by
  rcases hF j k with h|h;·exact hC j h
  ·(obtain rfl:j=k:=by omega);rw[P5];simpa using bL⟩ gW bV bA eN hO
 apply(SJ);refine lH (E:=L) (G:=R) (sD rfl RJ) ?aP ?dI ?bO;case aP=>exact⟨by rw[<-fT,Zv λj a6=>hC j D],rfl,rfl⟩
 case dI=>exact bA
 case bO=>exact λr M=>aT (.tail _ M)
def aJG(g:hL)(p:bZ)(x:cL)(eY:J b8)(c9:J fG)(b:Nat)(z:Int)(L:aR)(R:aO)(eT:Inv g p)(K:h3 g p ({x with aV:=eY.V,eQ:=c9.V}:cL))(aF:k0 x.cU R)(x8:eY.ok 3 b8.cells)(QP:c9.ok 4 fG.cells)(eW:0<=z/\z<p.aV.length):
 aM prog 156 [.pointer (some ⟨b,0,none⟩),.int .i64 z].toArray (⟨b,({x with aV:=eY.V,eQ:=c9.V}:cL).cells,54⟩::(c9.L 150 fG.cells++(eY.L 71 b8.cells++L))) R
  (λv E G=>∃(f:hJ) (q:J fG) (S:aO),q.ok 4 fG.cells/\h3 g (w4 g p z) ({x with aV:=eY.V,cU:=f,eQ:=q.V}:cL)/\k0 f (S++R)/\⟨b,({x with aV:=eY.V,cU:=f,eQ:=q.V}:cL).cells,54⟩::(q.L 150 fG.cells++(eY.L 71 b8.cells++L))=E/\S++R=G):=by
 have kK:eY.l=p.aV:=K.aV;have pW:c9.l=p.eQ:=K.eQ;have j1:=eT.eQ;have KC:x.cU.a2.l=g.cI:=K.cI;have ET:x.cU.aZ.l=p.Y:=K.Y;have Al:x.cU.cB=g.bX:=K.bX;have r2:x.time=p.time:=K.time;have sP:=eT.Ik;have ZZ:=eT.BU;have rZ:=eT.ZN;have a9r:z.toNat<eY.l.length:=by rw[kK];omega
 have aBp:z.toNat<x.cU.a2.l.length:=by rw[KC];omega
 have qD:=bJ (l:=eY.l) (k:=z.toNat) default a9r;have qG:=bJ (l:=x.cU.a2.l) (k:=z.toNat) 0 aBp;have A0:=rZ.X5 z.toNat D;rw[<-KC,<-ET]at A0;obtain⟨s,aH⟩:∃s,s=x.cU.a2.l.getD z.toNat 0:=⟨_,rfl⟩;rw[<-aH]at qG A0;have wN:=bJ (l:=x.cU.aZ.l) (k:=s.toNat) default D;obtain⟨y,aS⟩:∃y,y=x.cU.aZ.l.getD s.toNat default:=⟨_,rfl⟩;rw[<-aS]at wN;obtain⟨c,cG⟩:∃c,c=eY.l.getD z.toNat default:=⟨_,rfl⟩;rw[<-cG]at qD;have v8:u7 x.cU.aZ.l x.cU.a2.l x.cU.cB s x.time=0:=by rw[KC,ET,Al,r2,u7,if_neg (by rw[eT.y6];decide),if_neg (by rw[ET]at A0;omega),if_pos eT.Vs]
 have jB:=aF.Y;have o4:=aF.cI;dsimp only[cL.cells];refine b6 59 call156 func156 rfl rfl rfl ?_;apply dC∘SQ∘lX;refine aI jV rfl ?_;apply(gK);refine aI (jA N (eY) _ rfl rfl rfl rfl bR (i:=z.toNat) dA jC) rfl ?_;apply(l6);refine aI (tK N (eY) rfl rfl rfl cF bR bD bR aB) rfl ?_;refine dT rfl (RR {x with aV:=eY.V} c9 b 1 z c.i4 _ _ QP (by rw[pW];exact j1)) rfl ?_;rintro v E G ⟨q,gR,fT,rfl,rfl⟩;dsimp only[cL.cells];apply j8∘lX;refine aI jV rfl ?_;apply(BM);refine aI Oj rfl ?_;apply VU∘lX;refine aI jV rfl ?_;apply(BM);refine aI a4e rfl ?_;apply sH∘nG∘j2;refine gZ N [0,1,2,3,4,5,6,7,8,9,10,11,12,13,14,15] _ dO bI hA ?_;apply VN∘lA∘aFd∘hK∘PS;refine tP rfl (aKg x.cU s x.time _ _ aF) rfl rfl ?_;rintro v E G ⟨rE,xO,bX,rfl,⟨Uh,Uj⟩,TM,rfl,rfl⟩;refine⟨bA,iQ,?_⟩;refine bE iL rfl rfl rfl ?_;refine bE q2 rfl rfl rfl ?_;refine bE q2 rfl rfl rfl ?_;apply(qH);intro i1;apply v0∘L4∘cE∘rR;refine U ?_ ?_<;>intro aQ;·exact absurd v8 aQ
 obtain⟨Ui,Me,rfl⟩:=TM v8;refine hB (T:=76) (f:=bS.cells) (aN:=5) rE [] cF bD aW Uh e8 ?_;refine eM gD ?_;refine hB (T:=3) (f:=a1) (aN:=1) xO [] cF bD aW Uj e8 ?_;refine eM gD ?_;have Z3:k0 ⟨rE.V,xO.V,x.cU.cB⟩ ([dU xO.V,s4 rE.V]++R):=⟨aT (.tail _ (.head _)),aT (.head _)⟩;have QV:q.l=(nT p 1 z (p.aV.getD z.toNat default).i4).eQ:=by rw[fT,nT,<-pW,<-kK,<-cG,<-r2]
 have zE:g.cI.getD z.toNat 0=s:=by rw[aH,KC]
 have aNf:p.Y.getD s.toNat default=y:=by rw[aS,ET]
 have GJ:rE.l=p7 p.Y s p.time:=by rw[Ui,ET,r2]
 apply e0∘lX;refine aI mM rfl ?_;refine aI jV rfl ?_;apply(e7);refine P8 N rfl rfl rfl rfl sX aB aB aB ?_;apply(j2);refine tO (E:=⟨b,({x with aV:=eY.V,cU:=⟨rE.V,xO.V,x.cU.cB⟩,eQ:=q.V}:cL).cells,54⟩::(q.L 150 fG.cells++(eY.L 71 b8.cells++L))) bA eN ?_;apply eB∘dE∘b9;refine U ?_ ?_<;>intro bL;·
  apply eB∘SQ;refine dT rfl (RR {x with aV:=eY.V,cU:=⟨rE.V,xO.V,x.cU.cB⟩} q b 2 s 0 _ _ gR (by rw[QV];exact(eT.yC _ _ _).eQ)) rfl ?_;rintro v E G ⟨fW,IG,DB,rfl,rfl⟩;apply(DI);refine Qe (E:=⟨b,({x with aV:=eY.V,cU:=⟨rE.V,xO.V,x.cU.cB⟩,eQ:=fW.V}:cL).cells,54⟩::(fW.L 150 fG.cells++(eY.L 71 b8.cells++L))) (G:=[dU xO.V,s4 rE.V]++R) (Pp rfl) ?aP ?dI ?bO;case aP=>(have e:w4 g p z=nT {nT p 1 z (p.aV.getD z.toNat default).i4 with Y:=p7 p.Y s p.time} 2 s 0:=by rw[w4,zE,aNf,if_pos bL]);exact⟨⟨rE.V,xO.V,x.cU.cB⟩,fW,[dU xO.V,s4 rE.V],IG,by rw[e];exact{K with Y:=GJ,cI:=Me.trans KC,eQ:=by show fW.l=_;rw[DB,QV,r2];rfl},Z3,rfl,rfl⟩
  case dI=>exact bA
  case bO=>exact n1 _
 refine eP ?_;refine Qe (E:=⟨b,({x with aV:=eY.V,cU:=⟨rE.V,xO.V,x.cU.cB⟩,eQ:=q.V}:cL).cells,54⟩::(q.L 150 fG.cells++(eY.L 71 b8.cells++L))) (G:=[dU xO.V,s4 rE.V]++R) (Pp rfl) ?aP ?dI ?bO;case aP=>
  have e:w4 g p z={nT p 1 z (p.aV.getD z.toNat default).i4 with Y:=p7 p.Y s p.time}:=by rw[w4,zE,aNf,if_neg (by rw[bL];decide)]
  exact⟨⟨rE.V,xO.V,x.cU.cB⟩,q,[dU xO.V,s4 rE.V],gR,by rw[e];exact{K with Y:=GJ,cI:=Me.trans KC,eQ:=QV},Z3,rfl,rfl⟩
 case dI=>exact bA
 case bO=>exact n1 _
end
end Go.Proofs.YtchfclmokpbldaaGreat
namespace Go.Proofs.YtchfclmokpbldaaGreat
open Go.Aw Go Go.Proofs.Tryz
set_option maxRecDepth 20000
attribute [local irreducible] cQ dF dV aM cP eC e5 e1 e2 e6 eX e4 J.L
def Zs(h:A->B:=by exact aI aRu rfl):=h
def Jn(h:A->B:=by exact bE oS rfl rfl rfl):=h
def Jw(h:A->B:=by exact m2 oS rfl rfl rfl rfl):=h
def Zx(h:A->B:=by exact aI (Yi (m:=1) (aN:=1) (u:=l) N rfl rfl rfl rfl rfl aW D rfl) rfl):=h
def aFh(h:A->B:=by exact hT (r9 (f:=rL) (xs:=l) N rfl rfl rfl aW rfl rfl (zB) bD D) rfl):=h
def a07(h:A->B:=by exact tO (G:=S) hA (λr M=>aT (.tail _ M))):=h
def Zi(h:A->B:=by exact m2 Cj rfl rfl rfl rfl):=h
def Zb(h:A->B:=by exact m2 a38 rfl rfl rfl rfl):=h
def aFg(h:A->B:=by exact hT (Ir N (⟨Vl,h.l⟩:J Int) b rfl rfl rfl aW rfl rfl Ty a5 cF bD hO) rfl):=h
def aX5(h:A->B:=by exact aI (oU (iD:=[(0,(Value.slice _ _ _).cells.toList),(1,(Value.int _ _).cells.toList)]) (dD:=[_,_]) N rfl rfl rfl rfl) rfl):=h
def aUp(h:B:=by exact⟨⟨aNH,l.l⟩,dD,by rw[eL.ZL,GD];rfl,⟨b4n,eL.ok⟩,by rw[eL.ZL,GD],by rw[eL.ZL,GD,GZ],eL.data,rfl,eL.sub⟩):=h
def aGv(h:A->B:=by exact gZ N [0,1,2,3,5,6,7,8,9,10,11,12,13,14,15,16,17,18,4,19] _ dO bI hA):=h
def aHS(h:A->B:=by exact bE (aDx (m:=1) (q:=3+jM l.l) (aN:=1) (u:=l) N rfl rfl rfl rfl rfl rfl D aW D a9q rfl) rfl rfl rfl):=h
def aJH(h:A->B:=by exact bE (by first|exact j4 N rfl rfl rfl rfl i9 (i:=4+jM l.l) dA D|exact i5 N rfl rfl rfl rfl (i:=4+jM l.l) dA D) rfl rfl rfl):=h
def aJF(h:A->B:=by exact bE (by first|exact j4 N rfl rfl rfl rfl i9 (i:=5+jM l.l) dA D|exact i5 N rfl rfl rfl rfl (i:=5+jM l.l) dA D) rfl rfl rfl):=h
def aGQ(h:A->B:=by exact m2 (by first|exact j4 N rfl rfl rfl rfl i9 (i:=2) dA D|exact i5 N rfl rfl rfl rfl (i:=2) dA D) rfl rfl rfl rfl):=h
def aKn(h:A->B:=by exact m2 (by first|exact j4 N rfl rfl rfl rfl i9 (i:=3) dA D|exact i5 N rfl rfl rfl rfl (i:=3) dA D) rfl rfl rfl rfl):=h
def aLn(h:A->B:=by exact fP (aDx (m:=4) (q:=jM l.l) (aN:=1) (u:=l) N rfl rfl rfl rfl rfl rfl D aW D a9q rfl) rfl rfl rfl rfl):=h
def aH9(h:A->B:=by exact uN (r9 (f:=rL) (xs:=FH (m9 l 4 1) (jM l.l)) N rfl rfl rfl aW rfl rfl ((aT (.head _))) bD D) rfl rfl rfl):=h
def aJP(h:A->B:=by exact bE aRh rfl rfl rfl):=h
def aLb(h:A->B:=by exact uN Xg rfl rfl rfl):=h
def aKR(h:A->B:=by exact aI (Yi (m:=jM l.l+6) (aN:=1) (u:=l) N rfl rfl rfl rfl D D D rfl) rfl):=h
def aTU(h:B:=by exact⟨⟨aNI,l.l⟩,dD,by rw[eL.ZL,GD];rfl,⟨b4o,eL.ok⟩,by rw[eL.ZL,GD],by rw[eL.ZL,GD,GZ],eL.data,rfl,eL.sub⟩):=h
structure kV where
 hX:Int
 kind:Int
 data:a4 Int
 deriving Inhabited
def kV.cells(x:kV):List Value:=[.int .i64 x.hX,.int .i64 x.kind,x.data.val]
abbrev kV.val(x:kV):Value:=.agg #[.int .i64 x.hX,.int .i64 x.kind,x.data.val]
abbrev kV.sub(x:kV):fJ:=gX x.data
abbrev a0i(x:a4 kV):fJ:=x.gN 3 kV.cells (x.l.map kV.sub)
def kV.kQ(x:kV):z4:=⟨x.hX,x.kind,x.data.l⟩
structure X8(oN:List Int)(d:Int)(R:aO)(l:a4 Int)(vH:Int)(dD:J kV)(S:aO):Prop where
 sub:∀r∈R,aL r S
 inl:aL (gX l) S
 bytes:pN l.l
 ok:dD.ok 3 kV.cells
 data:∀x∈dD.l,aL (gX x.data) S
 len:dD.l.length+l.l.length<=oN.length
 drop:d<=vH/\vH+l.l.length<=d+oN.length
 ZL:jO oN d=⟨(jO l.l vH).held,(jO l.l vH).eK,dD.l.map kV.kQ++(jO l.l vH).dD⟩
def X8.skip{oN:List Int}{d:Int}{R:aO}{l:a4 Int}{vH:Int}{dD:J kV}{S:aO}(h:X8 oN d R l vH dD S)(aX:0<l.l.length)(O:xV l.l\/(¬x1 l.l/\s3 (JL l.l)≠NN l.l)):X8 oN d R (m9 l 1 1) (vH+1) dD (gX (m9 l 1 1)::S):=by have e:(m9 l 1 1).l=l.l.tail:=List.drop_one;have j1:(m9 l 1 1).l.length=l.l.length-1:=DL;have X:=h.len;have aU:=h.drop;have AQ:=Da (d:=vH) (List.length_pos_iff.1 aX) O;refine⟨λr M=>(h.sub r M).mono λs aH=>aT (.tail _ aH),aT (.head _),λx K=>h.bytes x (by rw[e]at K;exact aCo K),h.ok,λx K=>(h.data x K).mono λs aH=>aT (.tail _ aH),by omega,by omega,?_⟩;rw[e,<-AQ];exact h.ZL
def X8.aOz{oN:List Int}{d:Int}{R:aO}{l:a4 Int}{vH:Int}{dD:J kV}{S:aO}(h:X8 oN d R l vH dD S)(aX:0<l.l.length)(O:¬xV l.l)(X:¬x1 l.l)(aU:s3 (JL l.l)=NN l.l){n:Nat}(b1:n=jM l.l+6){o:g6}{x:kV}(K:x.kQ=Yk l.l)(bH:(⟨o,dD.l++[x]⟩:J kV).ok 3 kV.cells):
 X8 oN d R (m9 l n 1) vH ⟨o,dD.l++[x]⟩ (gX (m9 l n 1)::gX x.data::S):=by
 subst b1;have dH:=a49 h.bytes X;have j1:(m9 l (jM l.l+6) 1).l.length=l.l.length-(jM l.l+6):=DL;have cK:=h.len;have fY:=h.drop;refine⟨λr M=>(h.sub r M).mono λs aH=>aT (.tail _ (.tail _ aH)),aT (.head _),λy aS=>h.bytes y (Cb aS),bH,λy aS=>?_,?_,by omega,?_⟩;·
  rcases List.mem_append.1 aS with aS|aS;·exact(h.data y aS).mono λs aH=>aT (.tail _ (.tail _ aH))
  ·rw[List.mem_singleton.1 aS];exact aT (.tail _ (.head _))
 ·show(dD.l++[x]).length+_<=_;rw[l9,OW];omega
 ·rw[h.ZL,Yv (List.length_pos_iff.1 aX) O X aU];show _=(⟨_,_,(dD.l++[x]).map kV.kQ++_⟩:aIJ);rw[u1,List.map_singleton,K,oB];rfl
def a0Q{l:List Int}:((l.drop 1).take (3+jM l))=JL l:=by rw[JL,List.drop_take];congr 1;omega
def aIe{l:List Int}:((l.drop 4).take (jM l))=(Yk l).data:=by show _=(l.take (4+jM l)).drop 4;rw[List.drop_take];congr 1;omega
def b0i(h b:a4 Int)(d:Int)(L:aR)(R:aO)(b4:aL (gX h) R)(a5:aL (gX b) R)(BV:pN (h.l++b.l))(bM:0<=d/\d<=1152921504606846976)(b1:h.l.length+b.l.length<=1000000):
 aM prog 44 [.agg #[h.val,.int .i64 d],b.val].toArray L R (λv E G=>∃(p:J Int) (dD:J kV),v=.tuple #[.agg #[p.val,.int .i64 (jO (h.l++b.l) d).eK],dD.val]/\(p.ok 1 rL/\dD.ok 3 kV.cells)/\p.l=(jO (h.l++b.l) d).held/\dD.l.map kV.kQ=(jO (h.l++b.l) d).dD/\(∀x∈dD.l,aL (gX x.data) G)/\p.L 5 rL++(dD.L 118 kV.cells++L)=E/\∀r∈R,aL r G):=by
 refine b6 107 call44 func44 rfl rfl rfl ?_;apply(dB);intro eH;apply(dZ);intro eD;apply vD∘fD;refine hT aRo rfl ?_;rintro v E G ⟨Vl,rfl,Ty,rfl,rfl⟩;apply gU∘aFg;rintro v E G ⟨Q6,rfl,Tz,rfl,rfl⟩;apply(BK);refine E7 (A:=[]) (aN:=1) [] bD aW Tz e8 ?_;refine eM Oc ?_;have a9V:(h.l++b.l).length<=1000000:=by rw[l9];exact b1
 apply eB∘vD∘fD∘dM;refine eZ (a8 (bK (fR ?_)));refine dS [(4,.pointer _),(6,.slice _ _ _),(7,.slice _ _ _),(8,.int _ _)] bV λfK=>?_;refine qK ([6,7,8,9]++cN 17 85) ((⟨λg=>[(6,g.1.1.val),(8,.int .i64 g.1.2.1),(7,g.1.2.2.1.val)],λg=>g.1.2.2.1.L 118 kV.cells++(⟨eD,[.slice none 0 0,.int .i64 0],46⟩::⟨eH,[h.val,.int .i64 d],46⟩::L),λg=>g.1.2.2.2,λg=>g.1.1.l.length⟩:fB {g:a4 Int×Int×J kV×aO//X8 (h.l++b.l) d R g.1 g.2.1 g.2.2.1 g.2.2.2})) (⟨((⟨Q6,h.l++b.l⟩:J Int).V,d,J.nil,gX (⟨Q6,h.l++b.l⟩:J Int).V::R),⟨λr M=>aT (.tail _ M),aT (.head _),BV,J.iJ,λx K=>(by cases K),Nat.le_of_eq (MD _),⟨pJ _,pJ _⟩,rfl⟩⟩) bV X3 eN ?_;rintro⟨⟨l,vH,dD,S⟩,eL⟩ cH;try dsimp only
 dsimp only at eL;have zB:=eL.inl;have b2o:=eL.len;have b2n:=eL.drop;refine Yu zB λa9q=>?_;apply tD∘pR∘HS;refine U ?_ ?_<;>intro aQ;·
  have a9i:=bJ (l:=l.l) (k:=0) 0 D;have TE:=eL.bytes.at 1;refine eP (a8 (fR (bK (bK (c2 ?_)))));apply gU∘Bk∘jG∘p9;apply cA (Z:=[_,_,_,_,_,_,_,_,_,_]) (j:=4) (a9:=24) rfl rfl aB rfl aY rfl;·
   intro hD;replace hD:=bB hD;apply pR∘KH∘dE;apply iR (Z:=[_,_,_,_,_]) (j:=8) (a9:=28) rfl rfl aB rfl aY rfl;·exact aSj
   intro uY;exact g4
  intro wP;apply(b9);refine U ?_ ?_<;>intro bL;·(have vO:xV l.l:=by rw[xV];omega);refine bK ?_;refine VE (m:=1) zB aW D aW ?_;exact(BL∘Zx∘M7∘kA∘dM) aRa
  have vO:¬xV l.l:=by rw[xV];omega
  apply VR∘z5;apply cA (Z:=[_,_,_,_,_,_,_,_]) (j:=3) (a9:=43) rfl rfl aB rfl aY rfl;·exact aRM
  intro h8;apply(b9);refine U ?_ ?_<;>intro cC;·have GD:jO l.l vH=⟨l.l,vH,[]⟩:=Ri (List.length_pos_iff.1 D) vO (by rw[x1];omega);refine mD (mF ?_);refine a0E rfl ?_;refine xY (mB (a8 (bK (c2 ?_))));exact(gU) aSR
  have Gf:¬x1 l.l:=by rw[x1];omega
  have dH:=a49 eL.bytes Gf;have EL:=bJ (l:=l.l) (k:=1) 0 D;have b2J:=bJ (l:=l.l) (k:=4+jM l.l) 0 D;have b2L:=bJ (l:=l.l) (k:=5+jM l.l) 0 D;have b2K:=eL.bytes.at (4+jM l.l);have b2M:=eL.bytes.at (5+jM l.l);apply D9∘Zs∘jG∘A5∘P1;refine Yy (m:=1) (3+jM l.l) zB aW D aW ?_;have b34:aL (gX l) (gX (FH (m9 l 1 1) (3+jM l.l))::S):=zB.mono λr M=>aT (.tail _ M);apply aGv∘Jn∘hK∘GR∘aHS∘Jn∘hK∘GR∘aJH∘k4∘My;refine bE a33 rfl rfl rfl ?_;apply Jn∘hK∘GR∘aJF∘k4∘My;refine bE a35 rfl rfl rfl ?_;refine lW rfl (aVi (FH (m9 l 1 1) (3+jM l.l)) _ _ mA (λx K=>eL.bytes x (Cb (Wf K)))) ?_;refine bE KU rfl rfl rfl ?_;apply(wV);refine U ?_ ?_<;>intro dX;·have aL5:xV l.l\/(¬x1 l.l/\s3 (JL l.l)≠NN l.l):=.inr ⟨Gf,λh=>dX (by rw[a0Q,h];rfl)⟩;refine bK ?_;apply(a07);refine VE (m:=1) zB aW D aW ?_;exact(BL∘Zx∘M7∘kA∘dM) aRq
  have a9K:s3 (JL l.l)=NN l.l:=by have h:=Decidable.not_not.1 dX;rw[a0Q]at h;rw[h];rfl
  have y8:=bJ (l:=l.l) (k:=2) 0 D;have a9j:=bJ (l:=l.l) (k:=3) 0 D;have b2H:=eL.bytes.at 2;have b2I:=eL.bytes.at 3;have aAm:=eL.ok;apply wW∘a07;refine Yy (m:=4) (jM l.l) zB aW D aW ?_;have b33:aL (gX l) (gX (FH (m9 l 4 1) (jM l.l))::S):=zB.mono λr M=>aT (.tail _ M);have eI:(FH (m9 l 4 1) (jM l.l)).l.length=jM l.l:=by show((l.l.drop 4).take _).length=_;rw[Hu,DL];omega
  refine iS N [81,82,83,84,85,86,87,88,89] [0,1,2,3,4,5,6,7,8,9,10,11,12] [13,14,15,16,17] (_) _ dO bI bA fM ?_;apply Jw∘Jw∘aGQ∘Zi∘Zb∘Jw∘aKn∘Zi∘Zb∘EA∘XL∘aLn∘zN∘aH9;rintro v E G ⟨a2P,rfl,aAk,rfl,rfl⟩;apply gJ∘aJP∘aLb;rintro v E G ⟨b1m,rfl,rfl,Fj⟩;replace Fj:=Fj.symm;subst Fj;apply(gJ);refine uN (pO (f:=kV.cells) (p:=dD) (a:=⟨l.l.getD 2 0,l.l.getD 3 0,(⟨a2P,(FH (m9 l 4 1) (jM l.l)).l⟩:J Int).V⟩) N rfl rfl rfl rfl (aAm) cF p2 rfl qI) rfl rfl rfl ?_;rintro v E G ⟨aBN,rfl,aAl,rfl,rfl⟩;apply(gJ);refine bE zT rfl rfl rfl ?_;apply(wV);refine E7 (A:=[_]) (aN:=1) [] bD aW aAk e8 ?_;refine tO (G:=gX (⟨a2P,(FH (m9 l 4 1) (jM l.l)).l⟩:J Int).V::S) hA (λr M=>aT (by
   rcases List.mem_cons.1 M with h|h;·rw[h];exact .head _
   ·exact .tail _ (.tail _ h))) ?_
  refine VE (m:=jM l.l+6) (zB.mono λr M=>aT (.tail _ M)) D D aW ?_;apply wJ∘k3∘aKR∘kA;refine eZ (hI ?_);exact hP ⟨(m9 l (jM l.l+6) 1,vH,⟨aBN,dD.l++[_]⟩,_),eL.aOz D vO Gf a9K rfl (by show(⟨_,_,(l.l.drop 4).take _⟩:z4)=_;rw[aIe];rfl) aAl⟩ gW bV bA eN a4g
 have Ad:l.l=[]:=List.length_eq_zero_iff.1 D;have GD:jO l.l vH=⟨l.l,vH,[]⟩:=by rw[Ad];exact Ro _
 exact(M9) aSR
def aYl(h b:a4 Int)(d:Int)(L:aR)(R:aO)(b4:aL (gX h) R)(a5:aL (gX b) R)(BV:pN (h.l++b.l))(bM:0<=d/\d<=1152921504606846976)(b1:h.l.length+b.l.length<=1000000):
 aM prog 215 [.agg #[h.val,.int .i64 d],b.val].toArray L R (λv E G=>∃(p:J Int) (dD:J kV),v=.tuple #[.agg #[p.val,.int .i64 (jO (h.l++b.l) d).eK],dD.val]/\(p.ok 1 rL/\dD.ok 3 kV.cells)/\p.l=(jO (h.l++b.l) d).held/\dD.l.map kV.kQ=(jO (h.l++b.l) d).dD/\(∀x∈dD.l,aL (gX x.data) G)/\p.L 5 rL++(dD.L 118 kV.cells++L)=E/\∀r∈R,aL r G):=by
 refine b6 112 call215 func215 rfl rfl rfl ?_;apply(dB);intro eH;apply(dZ);intro eD;apply vD∘fD;refine hT aRo rfl ?_;rintro v E G ⟨Vl,rfl,Ty,rfl,rfl⟩;apply gU∘aFg;rintro v E G ⟨Q6,rfl,Tz,rfl,rfl⟩;apply(BK);refine E7 (A:=[]) (aN:=1) [] bD aW Tz e8 ?_;refine eM Oc ?_;have a9V:(h.l++b.l).length<=1000000:=by rw[l9];exact b1
 apply eB∘fD;refine aI (oU (iD:=[(1,(Value.int _ _).cells.toList)]) (dD:=[_,_]) N rfl rfl rfl rfl) rfl ?_;apply(dZ);intro o0;apply sI∘kA;refine eZ (a8 (bK (fR ?_)));refine dS [(4,.pointer _),(6,.slice _ _ _),(7,.pointer _),(8,.slice _ _ _)] bV λfK=>?_;refine qK ([6,8,9]++cN 18 89) ((⟨λg=>[(6,g.1.1.val),(8,g.1.2.2.1.val)],λg=>g.1.2.2.1.L 118 kV.cells++(⟨o0,[.slice none 0 0,.int .i64 g.1.2.1],46⟩::⟨eD,[.slice none 0 0,.int .i64 0],46⟩::⟨eH,[h.val,.int .i64 d],46⟩::L),λg=>g.1.2.2.2,λg=>g.1.1.l.length⟩:fB {g:a4 Int×Int×J kV×aO//X8 (h.l++b.l) d R g.1 g.2.1 g.2.2.1 g.2.2.2})) (⟨((⟨Q6,h.l++b.l⟩:J Int).V,d,J.nil,gX (⟨Q6,h.l++b.l⟩:J Int).V::R),⟨λr M=>aT (.tail _ M),aT (.head _),BV,J.iJ,λx K=>(by cases K),Nat.le_of_eq (MD _),⟨pJ _,pJ _⟩,rfl⟩⟩) bV X3 eN ?_;rintro⟨⟨l,vH,dD,S⟩,eL⟩ cH;try dsimp only
 dsimp only at eL;have zB:=eL.inl;have b2o:=eL.len;have b2n:=eL.drop;refine Yu zB λa9q=>?_;apply tD∘pR∘HS;refine U ?_ ?_<;>intro aQ;·
  have a9i:=bJ (l:=l.l) (k:=0) 0 D;have TE:=eL.bytes.at 1;refine eP (a8 (fR (bK (bK (c2 ?_)))));apply gU∘Bk∘jG∘p9;apply cA (Z:=[_,_,_,_,_,_,_,_,_,_]) (j:=4) (a9:=25) rfl rfl aB rfl aY rfl;·
   intro hD;replace hD:=bB hD;apply pR∘KH∘dE;apply iR (Z:=[_,_,_,_,_]) (j:=8) (a9:=29) rfl rfl aB rfl aY rfl;·exact aSj
   intro uY;exact g4
  intro wP;apply(b9);refine U ?_ ?_<;>intro bL;·(have vO:xV l.l:=by rw[xV];omega);refine bK ?_;refine VE (m:=1) zB aW D aW ?_;exact(BL∘Zx∘vD∘fD∘k3∘vZ) aRa
  have vO:¬xV l.l:=by rw[xV];omega
  apply VR∘z5;apply cA (Z:=[_,_,_,_,_,_,_,_]) (j:=3) (a9:=46) rfl rfl aB rfl aY rfl;·exact aRM
  intro h8;apply(b9);refine U ?_ ?_<;>intro cC;·have GD:jO l.l vH=⟨l.l,vH,[]⟩:=Ri (List.length_pos_iff.1 D) vO (by rw[x1];omega);refine mD (mF ?_);refine a0E rfl ?_;refine xY (mB (a8 (bK (c2 ?_))));exact(gU) aSV
  have Gf:¬x1 l.l:=by rw[x1];omega
  have dH:=a49 eL.bytes Gf;have EL:=bJ (l:=l.l) (k:=1) 0 D;have b2J:=bJ (l:=l.l) (k:=4+jM l.l) 0 D;have b2L:=bJ (l:=l.l) (k:=5+jM l.l) 0 D;have b2K:=eL.bytes.at (4+jM l.l);have b2M:=eL.bytes.at (5+jM l.l);apply D9∘Zs∘jG∘A5∘P1;refine Yy (m:=1) (3+jM l.l) zB aW D aW ?_;have b34:aL (gX l) (gX (FH (m9 l 1 1) (3+jM l.l))::S):=zB.mono λr M=>aT (.tail _ M);apply aGv∘Jn∘hK∘GR∘aHS∘Jn∘hK∘GR∘aJH∘k4∘My;refine bE a33 rfl rfl rfl ?_;apply Jn∘hK∘GR∘aJF∘k4∘My;refine bE a35 rfl rfl rfl ?_;refine lW rfl (aKw (FH (m9 l 1 1) (3+jM l.l)) _ _ mA (λx K=>eL.bytes x (Cb (Wf K)))) ?_;refine bE KU rfl rfl rfl ?_;apply(wV);refine U ?_ ?_<;>intro dX;·have aL5:xV l.l\/(¬x1 l.l/\s3 (JL l.l)≠NN l.l):=.inr ⟨Gf,λh=>dX (by rw[a0Q,h];rfl)⟩;refine bK ?_;apply(a07);refine VE (m:=1) zB aW D aW ?_;exact(BL∘Zx∘vD∘fD∘k3∘vZ) aRq
  have a9K:s3 (JL l.l)=NN l.l:=by have h:=Decidable.not_not.1 dX;rw[a0Q]at h;rw[h];rfl
  have y8:=bJ (l:=l.l) (k:=2) 0 D;have a9j:=bJ (l:=l.l) (k:=3) 0 D;have b2H:=eL.bytes.at 2;have b2I:=eL.bytes.at 3;have aAm:=eL.ok;apply wW∘a07;refine Yy (m:=4) (jM l.l) zB aW D aW ?_;have b33:aL (gX l) (gX (FH (m9 l 4 1) (jM l.l))::S):=zB.mono λr M=>aT (.tail _ M);have eI:(FH (m9 l 4 1) (jM l.l)).l.length=jM l.l:=by show((l.l.drop 4).take _).length=_;rw[Hu,DL];omega
  refine iS N [86,87,88,89,90,91,92,93,94] [0,1,2,3,4,5,6,7,8,9,10,11,12] [13,14,15,16,17] (_) _ dO bI bA fM ?_;apply Jw∘Jw∘aGQ∘Zi∘Zb∘Jw∘aKn∘Zi∘Zb∘EA∘XL∘aLn∘zN∘aH9;rintro v E G ⟨aNX,rfl,b4L,rfl,rfl⟩;apply gJ∘aJP∘aLb;rintro v E G ⟨ZH,rfl,rfl,Ex⟩;replace Ex:=Ex.symm;subst Ex;apply(gJ);refine uN (pO (f:=kV.cells) (p:=dD) (a:=⟨l.l.getD 2 0,l.l.getD 3 0,(⟨aNX,(FH (m9 l 4 1) (jM l.l)).l⟩:J Int).V⟩) N rfl rfl rfl rfl (aAm) cF p2 rfl qI) rfl rfl rfl ?_;rintro v E G ⟨b6r,rfl,b4m,rfl,rfl⟩;apply(gJ);refine bE zT rfl rfl rfl ?_;apply(wV);refine E7 (A:=[_]) (aN:=1) [] bD aW b4L e8 ?_;refine tO (G:=gX (⟨aNX,(FH (m9 l 4 1) (jM l.l)).l⟩:J Int).V::S) hA (λr M=>aT (by
   rcases List.mem_cons.1 M with h|h;·rw[h];exact .head _
   ·exact .tail _ (.tail _ h))) ?_
  refine VE (m:=jM l.l+6) (zB.mono λr M=>aT (.tail _ M)) D D aW ?_;apply wJ∘k3∘aKR∘kA;refine eZ (hI ?_);exact hP ⟨(m9 l (jM l.l+6) 1,vH,⟨b6r,dD.l++[_]⟩,_),eL.aOz D vO Gf a9K rfl (by show(⟨_,_,(l.l.drop 4).take _⟩:z4)=_;rw[aIe];rfl) b4m⟩ gW bV bA eN a4g
 have Ad:l.l=[]:=List.length_eq_zero_iff.1 D;have GD:jO l.l vH=⟨l.l,vH,[]⟩:=by rw[Ad];exact Ro _
 exact(M9) aSV
end Go.Proofs.YtchfclmokpbldaaGreat
