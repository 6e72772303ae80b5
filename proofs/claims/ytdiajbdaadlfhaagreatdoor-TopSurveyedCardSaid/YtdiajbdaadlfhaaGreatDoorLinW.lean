/-
  Merged texts. By an AI agent.
-/
import Derived.Test.YtdiajbdaadlfhaaGreatDoorPlanA
import Derived.Test.YtdiajbdaadlfhaaGreatDoorLaw11b
import Derived.Test.YtdiajbdaadlfhaaGreatDoorCircR
import Derived.Test.YtdiajbdaadlfhaaGreatDoorRestN
set_option linter.all false
set_option maxHeartbeats 4000000
set_option maxRecDepth 20000
variable{A B:Prop}
namespace Go.Proofs.YtdiajbdaadlfhaaGreatDoor
open Go.Aw Go Go.Proofs.Tryz
section
attribute [local irreducible] cO dG dP aM cI dR fA e2 e5 fB eQ e9 J.L
abbrev Jm(x:bP eO):eT:=x.eJ 16 eO.cells []
def tL:List gL->List cR->Int->List eO->(List gL×List cR)×Int×Int
 |P,Q,k,[]=>((P,Q),k,0)
 |P,Q,k,e::es=>match tJ P Q e with| .error x=>((P,Q),k,x)| .ok z=>tL z.1 z.2 (k+1) es
def a5u{P:List gL}{Q:List cR}{k x:Int}{e:eO}{es:List eO}(h:tJ P Q e=.error x):tL P Q k (e::es)=((P,Q),k,x):=by rw[tL,h]
def Og{P:List gL}{Q:List cR}{k:Int}{e:eO}{es:List eO}{z:List gL×List cR}(h:tJ P Q e=.ok z):tL P Q k (e::es)=tL z.1 z.2 (k+1) es:=by rw[tL,h]
def aGJ{aY:Type}{a:Except Int aY}(h:Jl a≠0):a=.error (Jl a):=by
 cases a with
 |error x=>rfl
 |ok z=>exact absurd rfl h
def aSb{P:List gL}{Q:List cR}{e:eO}{x:Int}(h:tA P Q e=.error x):x≠0:=by unfold tA at h;repeat(first|(injection h with h;omega)|cases h|split at h)
def a5B{P:List gL}{Q:List cR}{e:eO}(h:Jl (tJ P Q e)=0):∃z,tJ P Q e=.ok z:=by
 cases bX:tJ P Q e with
 |ok z=>exact⟨z,rfl⟩
 |error x=>
  rw[bX]at h;have h:x=0:=h;subst h;exfalso;unfold tJ at bX;split at bX;·
   split at bX;·rename_i V;(injection bX with bX);exact aSb V bX
   ·
    split at bX;·cases bX
    ·rename_i G;(injection bX with bX);exact G bX
  ·rename_i G;(injection bX with bX);exact G bX
def aXc(m:eC)(es:bP eO)(L:aW)(R:aP)(a1:oY m R)(a9x:aN (Jm es) R)(bM:m.places.l.length<=64/\m.Z.l.length<=128):
 aM prog 32 [m.val,es.val].toArray L R (λw E R'=>∃(o8:eC) (S:aP),w=.tuple #[o8.val,.int .i64 (tL m.places.l m.Z.l 0 es.l).2.1,.int .i64 (tL m.places.l m.Z.l 0 es.l).2.2]/\oY o8 (S++R)/\(o8.places.l,o8.Z.l)=(tL m.places.l m.Z.l 0 es.l).1/\L=E/\S++R=R'):=by
 refine rZ call32 a9x λb86=>?_;refine cX 37 call32 func32 rfl rfl rfl ?_;apply(fC);intro eN;apply(dO);intro dU;apply eA∘p5∘lG;refine dN rfl (aIk m _ _ a1 bM) rfl ?_;rintro v E R' ⟨p,q,rfl,⟨iN,g7⟩,dC,eZ,rfl,rfl⟩;apply(dO);intro lT;apply uI∘r3;refine e3 [(1,.slice _ _ _),(4,.pointer _),(7,.pointer _),(14,.slice _ _ _),(15,.int _ _),(16,.int _ _)] cB λg9=>?_;refine rY (A:=[_]) (aI:=10) [] bH aX g7 eW ?_;apply(DX);refine rY (A:=[_]) (aI:=2) [] bH aX iN eW ?_;apply(DX);obtain⟨sA,Z3⟩:∃sA:eC,sA=⟨p.W,q.W⟩:=⟨_,rfl⟩;have a2w:oY sA ([zW p.W,F4 q.W]++R):=by rw[Z3];exact⟨aU (.head _),aU (.tail _ (.head _))⟩
 have a9V:sA.places.l=m.places.l:=by rw[Z3];exact dC
 have a9W:sA.Z.l=m.Z.l:=by rw[Z3];exact eZ
 refine e7 (show _=⟨lT,sA.cells,28⟩::(⟨dU,[.slice none 0 0,.slice none 0 0],28⟩::⟨eN,m.cells,28⟩::L) by rw[Z3];rfl) ?_;refine m6 ([5,6,8,9,10,11]++dJ 16 18) ((⟨λg=>[(16,.int .i64 ((g.1.1:Nat):Int))],λg=>⟨lT,g.1.2.1.cells,28⟩::(⟨dU,[.slice none 0 0,.slice none 0 0],28⟩::⟨eN,m.cells,28⟩::L),λg=>g.1.2.2++R,λg=>es.l.length-g.1.1⟩:e0 {g:Nat×eC×aP//g.1<=es.l.length/\oY g.2.1 (g.2.2++R)/\tL g.2.1.places.l g.2.1.Z.l (g.1:Int) (es.l.drop g.1)=(tL m.places.l m.Z.l 0 es.l)})) (⟨(0,sA,[zW p.W,F4 q.W]),rW _,a2w,by dsimp only;rw[a9V,a9W];rfl⟩) ?_;rintro⟨⟨k,aA7,S⟩,Y,IV,hD⟩ c1;try dsimp only
 dsimp only at Y IV hD;apply(gU);refine aJ ?_ ?_<;>intro bI;·
  have bE:=bR (l:=es.l) (k:=k) default D;obtain⟨e,V⟩:∃e,e=es.l.getD k default:=⟨_,rfl⟩;rw[<-V]at bE;rw[OT bE]at hD;have b87:aN (Jm es) (S++R):=a9x.mono λr O=>aU (kE _ O);apply(nC);refine aA rF rfl ?_;refine aA aQz rfl ?_;apply(dO);intro jB;apply eA∘p6∘lG;refine aA Bc rfl ?_;refine dN rfl (aIK aA7 e _ _ IV) rfl ?_;rintro v E R' ⟨PT,eF,rfl,Kl,rfl,rfl⟩;refine aA jE rfl ?_;apply(OG);intro lI;apply E7∘U2∘pG;refine aJ ?_ ?_<;>intro cK;·apply eV∘lG∘wF∘E7∘eA∘Gb;refine cF L (eF++(S++R)) (Bs rfl QA rG rG) ?_;exact⟨aA7,eF++S,by rw[<-hD,a5u (aGJ cK)],⟨IV.1.mono λr O=>aU aQq,IV.2.mono λr O=>aU aQq⟩,by rw[<-hD,a5u (aGJ cK)],rfl,by rw[kF]⟩
  obtain⟨z,dI⟩:=a5B (Decidable.not_not.1 cK);obtain⟨M0,b9q,b5n,b5o⟩:=Kl z dI;rw[Og dI,<-b5n,<-b5o]at hD;refine gG (bY (dM ?_));apply lG∘l5∘tF;exact lP ⟨(k+1,PT,eF++S),by dsimp only;omega,by dsimp only;rw[kF];exact M0,by dsimp only;rw[<-hD];rfl⟩ hM cB bC (by dsimp only;rw[kF];exact oV _) kM
 obtain rfl:k=es.l.length:=by omega
 rw[List.drop_length,tL]at hD;apply oS∘lG∘j0∘E7∘sO;refine cF L (S++R) (Bs rfl QA rG rG) ?_;exact⟨aA7,S,by rw[<-hD],IV,by rw[<-hD],rfl,rfl⟩
def a6d(h:A->B:=by exact g2 aPI rfl):=h
def Jc(p:gL):eO:=⟨1,p,kU,0,⟨0,0⟩⟩
def Bq(r:cR):eO:=⟨2,⟨0,false⟩,⟨r.bK,r.to,r.len,r.h6,r.qD,false,r.aC,r.fQ⟩,0,⟨0,0⟩⟩
def Cw(k:Int):eO:=⟨3,⟨0,false⟩,kU,k,⟨0,0⟩⟩
def CY:Nat->List cR->List eO
 |_,[]=>[]
 |k,r::tW=>Bq r::(if r.dZ then Cw (k:Int)::CY (k+1) tW else CY (k+1) tW)
def CR(P:List gL)(Q:List cR):List eO:=P.map Jc++CY 0 Q
def aId: ∀(Q:List cR) (k:Nat),(CY k Q).length<=2*Q.length
 |[],_=>gS _
 |r::tW,k=>by
  have:=aId tW (k+1)
  rw[CY]
  split<;>simp only[kL]<;>omega
def aG0(P:List gL)(Q:List cR):(CR P Q).length<=P.length+2*Q.length:=by have:=aId Q 0;rw[CR,hL,pU];omega
def aJo(m:eC)(L:aW)(R:aP)(a1:oY m R)(bM:m.places.l.length<=64/\m.Z.l.length<=128):
 aM prog 7 [m.val].toArray L R (λv E R'=>∃q:J eO,v=q.val/\q.ok 16 eO.cells/\q.l=CR m.places.l m.Z.l/\q.L 55 eO.cells++L=E/\R=R'):=by
 have wS:=a1.places;have WD:=a1.Z;have n2:=bM.1;have HD:=bM.2;have qB:=aG0 m.places.l m.Z.l;refine cX 46 call7 func7 rfl rfl rfl ?_;apply(fC);intro fT;apply tH∘r2∘pE;refine e3 [(1,.pointer _),(3,.slice _ _ _),(10,.slice _ _ _),(11,.int _ _),(12,.int _ _)] cB λg9=>?_;refine oM ([3,5]++dJ 12 10) ((⟨λg=>[(12,.int .i64 ((g.1.1:Nat):Int)),(3,g.1.2.val)],λg=>g.1.2.L 55 eO.cells++(⟨fT,m.cells,28⟩::L),λ_=>R,λg=>m.places.l.length-g.1.1⟩:e0 {g:Nat×J eO//g.1<=m.places.l.length/\g.2.ok 16 eO.cells/\g.2.l=(m.places.l.take g.1).map Jc})) (⟨(0,J.nil),rW _,J.iJ,rfl⟩) cB JB eX ?_;rintro⟨⟨k,q⟩,Y,g7,eZ⟩ c1;try dsimp only
 dsimp only at Y g7 eZ;apply(gU);refine aJ ?_ ?_<;>intro bI;·
  have bE:=bR (l:=m.places.l) (k:=k) default D;obtain⟨p,aG⟩:∃p,p=m.places.l.getD k default:=⟨_,rfl⟩;rw[<-aG]at bE;have yK:q.l.length=k:=by rw[eZ,pU,HS];omega
  apply(jK);refine aA rF rfl ?_;apply(R1);intro fK;apply(l5);refine eS (bY (dM ?_));apply gQ∘lG;refine aA aQX rfl ?_;apply(a6d);rintro v E R' ⟨II,rfl,rfl,Dr⟩;replace Dr:=Dr.symm;subst Dr;refine g2 (jZ (f:=eO.cells) (p:=q) (a:=Jc p) M rfl rfl rfl rfl (g7) cL j8 rfl kG) rfl ?_;rintro v E R' ⟨b55,rfl,b3A,rfl,rfl⟩;apply(LO);exact eG ⟨(k+1,⟨b55,q.l++[Jc p]⟩),by dsimp only;omega,b3A,by dsimp only;rw[eZ,BA,bE,CO];rfl⟩
 obtain rfl:k=m.places.l.length:=by omega
 rw[BB]at eZ;apply D2∘pE;refine e3 [(3,.slice _ _ _),(23,.slice _ _ _),(24,.int _ _),(25,.int _ _)] cB λs4=>?_;refine m6 ([3,6,7,8]++dJ 25 20) ((⟨λg=>[(25,.int .i64 ((g.1.1:Nat):Int)),(3,g.1.2.val)],λg=>g.1.2.L 55 eO.cells++(⟨fT,m.cells,28⟩::L),λ_=>R,λg=>m.Z.l.length-g.1.1⟩:e0 {g:Nat×J eO//g.1<=m.Z.l.length/\g.2.ok 16 eO.cells/\g.2.l++CY g.1 (m.Z.l.drop g.1)=CR m.places.l m.Z.l})) (⟨(0,q),rW _,g7,by dsimp only;rw[eZ];rfl⟩) ?_;rintro⟨⟨j,s⟩,a6,wT,WR⟩ c1;try dsimp only
 dsimp only at a6 wT WR;apply(gU);refine aJ ?_ ?_<;>intro cK;·
  have bE:=bR (l:=m.Z.l) (k:=j) default D;obtain⟨r,O⟩:∃r,r=m.Z.l.getD j default:=⟨_,rfl⟩;rw[<-O]at bE;rw[OT bE,CY]at WR;have IZ:s.l.length+1<=(CR m.places.l m.Z.l).length:=by rw[<-WR,hL,kL];omega
  apply(nC);refine aA Xl rfl ?_;apply Lx∘dO;intro lT;apply eA∘BP∘uK∘gF;refine YG (v:=Value.bool _) M rfl rfl rfl rfl qV Bh Be aK ?_;apply iG∘gQ;refine aA Bi rfl ?_;refine aA aQY rfl ?_;apply(a6d);rintro v E R' ⟨aKv,rfl,rfl,PB⟩;replace PB:=PB.symm;subst PB;refine g2 (jZ (f:=eO.cells) (p:=s) (a:=Bq r) M rfl rfl rfl rfl (wT) cL j8 rfl kG) rfl ?_;rintro v E R' ⟨a3d,rfl,a2C,rfl,rfl⟩;apply tH∘fD∘dD;refine aJ ?_ ?_<;>intro dE;·apply(y6);refine aA aQV rfl ?_;apply(a6d);rintro v E R' ⟨aKw,rfl,rfl,PE⟩;replace PE:=PE.symm;subst PE;refine g2 (jZ (f:=eO.cells) (p:=(⟨a3d,s.l++[Bq r]⟩:J eO)) (a:=Cw (j:Int)) M rfl rfl rfl rfl (a2C) cL j8 rfl kG) rfl ?_;rintro v E R' ⟨Vk,rfl,Ui,rfl,rfl⟩;apply(LO);exact eG ⟨(j+1,⟨Vk,(s.l++[Bq r])++[Cw (j:Int)]⟩),by dsimp only;omega,Ui,by dsimp only;rw[<-WR,if_pos dE];simp only[kF,mK,nJ]⟩
  apply(k9);exact eG ⟨(j+1,⟨a3d,s.l++[Bq r]⟩),by dsimp only;omega,a2C,by dsimp only;rw[<-WR,if_neg a4t];simp only[kF,mK,nJ]⟩
 obtain rfl:j=m.Z.l.length:=by omega
 rw[List.drop_length,CY,rV]at WR;apply(R2);refine cF (s.L 55 eO.cells++L) R BH ?_;exact⟨s,rfl,wT,WR,rfl,rfl⟩
def C1(l:List UInt8):Int:=l.foldl (λh c=>(h*31+(c.toNat:Int))%65521) 1
def aYB{l:List UInt8}{k:Nat}{c:UInt8}(h:l[k]?=some c):C1 (l.take (k+1))=(C1 (l.take k)*31+(c.toNat:Int))%65521:=by obtain⟨Y,rfl⟩:=List.getElem?_eq_some_iff.1 h;rw[List.take_succ_eq_append_getElem Y,C1,NM];rfl
def a1k(l:List UInt8):0<=C1 l/\C1 l<65521:=by
 rcases List.eq_nil_or_concat l with rfl|⟨m,c,rfl⟩;·decide
 ·rw[C1,List.concat_eq_append,NM];show 0<=(_:Int)%65521/\(_:Int)%65521<65521;exact⟨a3T _ aX,aB4 _ aX⟩
def aFM(l:List UInt8)(L:aW)(R:aP)(aZ:l.length<=1000000):
 aM prog 30 [sv l].toArray L R (λv E R'=>v=.int .i64 (C1 l)/\L=E/\R=R'):=by
 refine cX 20 call30 func30 rfl rfl rfl ?_;apply oO∘iG∘kB∘pR;refine e3 [(0,.string _),(3,.int _ _),(4,.int _ _)] cB λg9=>?_;refine lF (dJ 3 16) (λg:{k:Nat//k<=l.length}=>[(4,.int .i64 ((g.1:Nat):Int)),(3,.int .i64 (C1 (l.take g.1)))]) (λg=>l.length-g.1) (⟨0,by omega⟩) ?_;rintro⟨k,Y⟩ c1;try dsimp only
 apply(nR);refine aA m8 rfl ?_;refine aA NS rfl ?_;apply(nD);refine aJ ?_ ?_<;>intro bI;·obtain⟨x,bE⟩:∃x,l[k]?=some x:=⟨l[k]' D,w4 _⟩;have K:=x.toNat_lt;have aF:=a1k (l.take k);have nU:=aYB bE;rw[<-aCd D]at nU;obtain⟨r,O⟩:∃r,r=C1 (l.take k):=⟨_,rfl⟩;rw[<-O]at aF nU|-;refine gG (bY (cC (iH (dM ?_))));apply(LU);refine aA m8 rfl ?_;apply(cJ);refine aA (a7S M rfl rfl rfl D bS) rfl ?_;apply yR∘oE∘Gc∘eA∘Y5;exact lP ⟨k+1,by omega⟩ hM (by dsimp only;rw[nU];exact⟨rfl,rfl,trivial⟩) bC eX kM
 obtain rfl:k=l.length:=by omega
 exact aC7
end
abbrev wC(n:Int):Prop:= -1000000000<=n/\n<=1000000000
abbrev U8(r:cR):List Int:=[r.bK,r.to,r.len,r.h6,r.aC.bJ,r.aC.bN,r.fQ.bJ,r.fQ.bN]
inductive wB:eO->Prop
 |wY (p:gL) (h:wC p.tQ):wB ⟨1,p,kU,0,⟨0,0⟩⟩
 |aS (r:cR) (h:r.dZ=false) (bA:∀n∈U8 r,wC n):wB ⟨2,⟨0,false⟩,r,0,⟨0,0⟩⟩
 |Mg (k r:Int) (Y:k=3\/k=4) (h:wC r):wB ⟨k,⟨0,false⟩,kU,r,⟨0,0⟩⟩
 |nI (k r:Int) (s:bG) (Y:k=5\/k=6) (h:∀n∈[r,s.bJ,s.bN],wC n):wB ⟨k,⟨0,false⟩,kU,r,s⟩
def Qy{w:List UInt8}{ws:List (List UInt8)}(h:ws≠[]):IA (w::ws)=w++32::IA ws:=by
 cases ws with
 |nil=>exact absurd rfl h
 |cons v ws=>rfl
def a4V: ∀{xs ys:List (List UInt8)},xs≠[]->ys≠[]->IA (xs++ys)=IA xs++32::IA ys
 |[],_,h,_=>absurd rfl h
 |[x],ys,_,bB=>Qy bB
 |x::y::xs,ys,_,bB=>by
  have G:=a4V (xs:=y::xs) (ys:=ys) eY bB
  rw[mK,Qy eY,G,Qy (w:=x) (ws:=y::xs) eY,kF];rfl
def ZB: ∀(l:List Int) (f:List UInt8),IA (f::l.map Lib.itoa)=sR f l
 |[],f=>(rV f).symm
 |n::l,f=>by
  rw[pV,Qy eY,ZB l]
  simp[sR]
def aIx(p:gL):p7 ⟨1,p,kU,0,⟨0,0⟩⟩=sR KZ [p.tQ]++(32::if p.m7 then Hd else Il):=by rw[<-ZB];exact a4V (xs:=[KZ,Lib.itoa p.tQ]) (ys:=[_]) eY eY
def aDt(r:cR):p7 ⟨2,⟨0,false⟩,r,0,⟨0,0⟩⟩=sR I7 [r.bK,r.to,r.len,r.h6]++sR (32::if r.qD then Dh else De) [r.aC.bJ,r.aC.bN,r.fQ.bJ,r.fQ.bN]:=by have h:∀(f:List UInt8) l,sR (32::f) l=32::sR f l:=λ_ _=>rfl;rw[h,<-ZB,<-ZB];exact a4V (xs:=[I7,_,_,_,_]) (ys:=[_,_,_,_,_]) eY eY
def aEK{k r:Int}(Y:k=3\/k=4):p7 ⟨k,⟨0,false⟩,kU,r,⟨0,0⟩⟩=sR (if k=3 then L4 else UD) [r]:=by rw[<-ZB];rcases Y with rfl|rfl<;>rfl
def aHN{k r:Int}{s:bG}(Y:k=5\/k=6):p7 ⟨k,⟨0,false⟩,kU,r,s⟩=sR (if k=6 then RI else U5) [r,s.bJ,s.bN]:=by rw[<-ZB];rcases Y with rfl|rfl<;>rfl
def Cg{e:eO}(h:wB e):(p7 e).length<=120:=by
 cases h with
 |wY p h=>
  have G:=OM (f:=KZ) (l:=[p.tQ]) Bg;have U:(if p.m7 then Hd else Il).length<=7:=by split<;>decide
  have aO:KZ.length=5:=rfl;rw[aIx,hL,kL];simp only[kL,v1]at G;omega
 |aS r h bA=>
  have KJ:∀l:List Int,(∀n∈l,n∈U8 r)->∀n∈l,wC n:=λl aZ n h=>bA n (aZ n h);have G:=OM (f:=I7) (l:=[r.bK,r.to,r.len,r.h6]) (KJ _ eY);have U:=OM (f:=32::if r.qD then Dh else De) (l:=[r.aC.bJ,r.aC.bN,r.fQ.bJ,r.fQ.bN]) (KJ _ eY);have bW:(if r.qD then Dh else De).length<=7:=by split<;>decide
  have aO:I7.length=4:=rfl;rw[aDt,hL];simp only[kL,v1]at G U;omega
 |Mg k r Y h=>
  have G:=OM (f:=if k=3 then L4 else UD) (l:=[r]) Bg;have U:(if k=3 then L4 else UD).length<=5:=by split<;>decide
  rw[aEK Y];simp only[kL,v1]at G;omega
 |nI k r s Y h=>
  have G:=OM (f:=if k=6 then RI else U5) (l:=[r,s.bJ,s.bN]) h;have U:(if k=6 then RI else U5).length<=5:=by split<;>decide
  rw[aHN Y];simp only[kL,v1]at G;omega
def k0(es:List eO):List UInt8:=es.flatMap λe=>p7 e++[10]
def y3(es:List eO):List UInt8:=sR At [C1 (k0 es)]
def wH(es:List eO):List UInt8:=k0 es++(y3 es++[10])
def Zx: ∀{es:List eO},(∀e∈es,wB e)->(k0 es).length<=121*es.length
 |[],_=>rW _
 |e::es,h=>by
  have G:=Cg (h e (.head _))
  have U:=Zx (es:=es) λx K=>h x (.tail _ K)
  simp only[k0]at U
  simp only[k0,vZ,hL,kL,v1]
  omega
def a5I(xs ys:List eO):k0 (xs++ys)=k0 xs++k0 ys:=Wk
def aJh{es:List eO}{k:Nat}{e:eO}(h:es[k]?=some e):k0 (es.take (k+1))=k0 (es.take k)++p7 e++[10]:=by rw[BA,h,a5I];simp[k0]
def aXi{es:List eO}{k:Nat}:(wH es).drop (k0 (es.take k)).length=k0 (es.drop k)++(y3 es++[10]):=by
 have h:wH es=k0 (es.take k)++(k0 (es.drop k)++(y3 es++[10])):=by rw[<-kF,<-a5I,List.take_append_drop];rfl
 rw[h,List.drop_left]
def aRp{es:List eO}:(wH es).take (k0 es).length=k0 es:=List.take_left
def a76{es:List eO}:(y3 es).length<=15:=by have h:=a1k (k0 es);have G:=OM (f:=At) (l:=[C1 (k0 es)]) (by simp only[XU,forall_eq];omega);have aO:At.length=3:=rfl;simp only[kL,v1]at G;unfold y3;omega
def aV6{es:List eO}(h:∀e∈es,wB e):(wH es).length<=121*es.length+16:=by have G:=Zx h;have U:=a76 (es:=es);rw[wH,hL,hL,kL,v1];omega
def aXq{c:UInt8}{w:List UInt8}(h:c∉w)(r:List UInt8):Lib.indexByte (w++c::r) c=(w.length:Int):=by
 induction w with
 |nil=>simp[Lib.indexByte]
 |cons b l cA=>have G:¬b=c:=λe=>h (by rw[e];exact .head _);exact aOr
def aFa{w:List UInt8}(h:10∉w)(r:List UInt8):Lib.cut (w++10::r) [10]=(w,r,true):=by
 have G:Lib.index (w++10::r) [10]=(w.length:Int):=by rw[Lib.index_one];exact aXq h r
 rw[Lib.cut,G,if_pos D];simp
def a5l{c:UInt8}(bU:c≠32): ∀{ws:List (List UInt8)},(∀w∈ws,c∉w)->c∉IA ws
 |[],_=>by simp[IA]
 |[w],h=>h w (.head _)
 |w::v::ws,h=>by
  have G:=a5l bU (ws:=v::ws) λx K=>h x (.tail _ K)
  have U:=h w (.head _)
  rw[Qy eY]
  simp only[D7,nX,not_or]
  exact⟨U,bU,G⟩
def aWS(e:eO):(10:UInt8)∉p7 e:=a5l aX (aFC (.inr rfl) e)
def aYI(es:List eO):sS (y3 es)=[At,Lib.itoa (C1 (k0 es))]:=by
 rw[y3,<-ZB];exact a5c eY λw cE=>by
  simp only[pV,XS,nX,pO,or_false]at cE;rcases cE with rfl|rfl;·decide
  ·exact a6C (.inl rfl) _
def aYU(es:List eO):(10:UInt8)∉y3 es:=by
 rw[y3,<-ZB];exact a5l aX λw cE=>by
  simp only[pV,XS,nX,pO,or_false]at cE;rcases cE with rfl|rfl;·decide
  ·exact a6C (.inr rfl) _
def aRB{es:List eO}{k:Nat}{e:eO}(h:es[k]?=some e):Lib.cut ((wH es).drop (k0 (es.take k)).length) [10]=(p7 e,k0 (es.drop (k+1))++(y3 es++[10]),true):=by
 rw[aXi,OT h];have dH:k0 (e::es.drop (k+1))++(y3 es++[10])=p7 e++10::(k0 (es.drop (k+1))++(y3 es++[10])):=by simp[k0]
 rw[dH];exact aFa (aWS e) _
def aUE{es:List eO}:Lib.cut ((wH es).drop (k0 es).length) [10]=(y3 es,[],true):=by have dH:(wH es).drop (k0 es).length=y3 es++10::[]:=List.drop_left;rw[dH];exact aFa (aYU es) _
def aXp(e:eO):∃w ws,YC e=w::ws/\w≠At:=by unfold YC;repeat(first|exact⟨_,_,rfl,by decide⟩|split)
def aYa{es:List eO}:(wH es).length=(k0 es).length+(y3 es).length+1:=by rw[wH,hL,hL,rE];omega
def aTq{es:List eO}{k:Nat}(Y:k<=es.length)(aZ:∀e∈es,wB e):∃W0 tW,Lib.cut ((wH es).drop (k0 (es.take k)).length) [10]=(W0,tW,true)/\W0.length<=200/\∃fZ ws,sS W0=fZ::ws/\
 ((fZ=At/\k=es.length/\W0=y3 es/\ws=[Lib.itoa (C1 (k0 es))])\/(¬fZ=At/\∃e,es[k]?=some e/\W0=p7 e)):=by
 rcases gX k es.length with h|h;·have bE:=w4 h;obtain⟨w,ws,G,U⟩:=aXp es[k];have:=Cg (aZ _ (Wn h));exact⟨_,_,aRB bE,by omega,w,ws,by rw[Px,G],.inr ⟨U,_,bE,rfl⟩⟩
 ·
  obtain rfl:k=es.length:=by omega
  have:=a76 (es:=es);rw[BB];exact⟨_,_,aUE,by omega,_,_,aYI es,.inl ⟨rfl,rfl,rfl,rfl⟩⟩
def a1r{P:List gL}{Q:List cR}(h:iB (l3 P Q)=0):(P.length<=64/\Q.length<=128)/\(∀p∈P,C3 p=none)/\∀r∈Q,q1 P.length r=none:=by
 unfold iB at h;split at h;·cases h
 ·
  rename_i G;have kR:P.findSome? C3=none:=by
   cases aG:P.findSome? C3 with
   |none=>rfl
   |some x=>
    exfalso;obtain⟨p,_,K⟩:=K3 aG;have h:(match(l3 P Q).places.l.findSome? C3 with|some e=>e|none=>((l3 P Q).Z.l.findSome? (q1 (l3 P Q).places.l.length)).getD 0)=0:=h;rw[show(l3 P Q).places.l=P from rfl,aG]at h;have h:x=0:=h;unfold C3 at K;split at K;·rw[h]at K;cases K
    ·cases K
  have h:(match(l3 P Q).places.l.findSome? C3 with|some e=>e|none=>((l3 P Q).Z.l.findSome? (q1 (l3 P Q).places.l.length)).getD 0)=0:=h;rw[show(l3 P Q).places.l=P from rfl,kR,show(l3 P Q).Z.l=Q from rfl]at h;have G3:Q.findSome? (q1 P.length)=none:=by
   cases bZ:Q.findSome? (q1 P.length)with
   |none=>rfl
   |some x=>
    exfalso;obtain⟨r,_,K⟩:=K3 bZ;rw[bZ]at h;have h:x=0:=h;unfold q1 at K;split at K;·rw[h]at K;cases K
    ·
     split at K;·rw[h]at K;cases K
     ·cases K
  have G:¬(64<P.length\/128<Q.length):=G;exact⟨by omega,List.findSome?_eq_none_iff.1 kR,List.findSome?_eq_none_iff.1 G3⟩
def Py{P:List gL}{Q:List cR}(G:P.length<=64/\Q.length<=128)(U:∀p∈P,C3 p=none)(aO:∀r∈Q,q1 P.length r=none):iB (l3 P Q)=0:=by have kR:=List.findSome?_eq_none_iff.2 U;have G3:=List.findSome?_eq_none_iff.2 aO;unfold iB;show(if 64<P.length\/128<Q.length then 2 else match P.findSome? C3 with|some e=>e|none=>(Q.findSome? (q1 P.length)).getD 0)=0;rw[if_neg D,kR,G3];rfl
def aET(es:List eO): ∀(ps:List gL) (N1:List gL) (k:Int),iB (l3 (N1++ps) [])=0->tL N1 [] k (ps.map Jc++es)=tL (N1++ps) [] (k+ps.length) es
 |[],N1,k,_=>by simp
 |p::ps,N1,k,h=>by
  obtain⟨G,U,aO⟩:=a1r h
  have dH:N1++p::ps=(N1++[p])++ps:=by simp
  have z0:iB (l3 N1 [])=0:=Py ⟨by have:=G.1;rw[hL]at this;omega,by simp⟩ (λx K=>U x (oI _ K)) (λr O=>by cases O)
  have nK:iB (l3 (N1++[p]) [])=0:=by
   rw[dH]at G U
   exact Py ⟨by have:=G.1;rw[hL]at this;omega,by simp⟩ (λx K=>U x (oI _ K)) (λr O=>by cases O)
  rw[pV,mK,Og (Rs z0 (aEl rfl) nK),dH]
  rw[dH]at h
  show tL (N1++[p]) [] (k+1) (ps.map Jc++es)=_
  rw[aET es ps (N1++[p]) (k+1) h,kL]
  congr 1;omega
def aJm(P:List gL): ∀(tW kI:List cR) (k:Int),iB (l3 P (kI++tW))=0->tL P kI k (CY kI.length tW)=((P,kI++tW),k+(CY kI.length tW).length,0)
 |[],kI,k,_=>by simp[CY,tL]
 |r::tW,kI,k,h=>by
  obtain⟨G,U,aO⟩:=a1r h
  have dH:kI++r::tW=(kI++[r])++tW:=by simp
  obtain⟨iT,xV⟩:∃iT:cR,iT=⟨r.bK,r.to,r.len,r.h6,r.qD,false,r.aC,r.fQ⟩:=⟨_,rfl⟩
  have aZ:(kI++[r]).length=kI.length+1:=by simp
  have z0:iB (l3 P kI)=0:=Py ⟨G.1,by have:=G.2;rw[hL]at this;omega⟩ U (λx K=>aO x (oI _ K))
  have nK:∀x,q1 P.length x=none->iB (l3 P (kI++[x]))=0:=λx K=>Py ⟨G.1,by have:=G.2;rw[hL,kL]at this;rw[hL,rE];omega⟩ U (λy bB=>by
   rcases List.mem_append.1 bB with bB|bB
   ·exact aO y (oI _ bB)
   ·rw[List.mem_singleton.1 bB];exact K)
  have zR:q1 P.length r=none:=aO r (kE _ (.head _))
  have aAu:q1 P.length iT=none:=by rw[xV];exact zR
  have Md:tJ P kI (Bq r)=.ok (P,kI++[iT]):=by
   rw[xV]at aAu|-
   exact Rs z0 (aEr rfl) (nK _ aAu)
  have cA:=aJm P tW (kI++[r])
  rw[aZ,<-dH]at cA
  rw[CY,Og Md]
  cases bU:r.dZ with
  |false=>
   have eH:iT=r:=by rw[xV,<-bU]
   rw[if_neg aX,eH]
   show tL P (kI++[r]) (k+1) (CY (kI.length+1) tW)=_
   rw[cA (k+1) h,kL]
   congr 1;congr 1;omega
  |true=>
   have bE:(kI++[iT]).getD kI.length default=iT:=by simp[List.getD]
   have jO:iT.dZ=false:=by rw[xV]
   have XK:tJ P (kI++[iT]) (Cw (kI.length:Int))=.ok (P,kI++[r]):=by
    have nS:(kI++[iT]).set kI.length r=kI++[r]:=by
     rw[aBY _ _ (gS _),Wj];rfl
    have dV:=aIS (P:=P) (Q:=kI++[iT]) (e:=Cw (kI.length:Int)) (.inl rfl) (by
     show¬((kI.length:Int)<0\/((kI++[iT]).length:Int)<=(kI.length:Int))
     rw[hL,rE];omega) (by
     show¬((kI++[iT]).getD (kI.length:Int).toNat default).dZ=decide ((3:Int)=3)
     rw[tZ,bE,jO];decide)
    have B3:(⟨iT.bK,iT.to,iT.len,iT.h6,iT.qD,decide ((3:Int)=3),iT.aC,iT.fQ⟩:cR)=r:=by
     rw[xV];cases r;simp only at bU;rw[bU];rfl
    have dV:tA P (kI++[iT]) (Cw (kI.length:Int))=.ok (P,(kI++[iT]).set (kI.length:Int).toNat ⟨((kI++[iT]).getD (kI.length:Int).toNat default).bK,((kI++[iT]).getD (kI.length:Int).toNat default).to,((kI++[iT]).getD (kI.length:Int).toNat default).len,((kI++[iT]).getD (kI.length:Int).toNat default).h6,((kI++[iT]).getD (kI.length:Int).toNat default).qD,decide ((3:Int)=3),((kI++[iT]).getD (kI.length:Int).toNat default).aC,((kI++[iT]).getD (kI.length:Int).toNat default).fQ⟩):=dV
    rw[tZ,bE,B3,nS]at dV
    exact Rs (nK _ aAu) dV (nK _ zR)
   rw[if_pos rfl,Og XK]
   show tL P (kI++[r]) (k+1+1) (CY (kI.length+1) tW)=_
   rw[cA (k+1+1) h,kL,kL]
   congr 1;congr 1;omega
def aYL{P:List gL}{Q:List cR}(h:iB (l3 P Q)=0):tL [] [] 0 (CR P Q)=((P,Q),((CR P Q).length:Int),0):=by obtain⟨G,U,aO⟩:=a1r h;rw[CR,aET (CY 0 Q) P [] 0 (Py ⟨G.1,by simp⟩ U (λr O=>by cases O)),nJ];have:=aJm P Q [] (0+P.length) h;rw[show([]:List cR).length=0 from rfl]at this;rw[this,hL,pU,nJ];congr 1;congr 1;omega
def aWl{P:List gL}{Q:List cR}{e:eO}:(tL P Q 0 [e]).2.2=Jl (tJ P Q e)/\∀z,tJ P Q e=.ok z->(tL P Q 0 [e]).1=z:=by
 cases h:tJ P Q e with
 |error x=>rw[a5u h];exact⟨rfl,λz dI=>by cases dI⟩
 |ok z=>rw[Og h];exact⟨rfl,λb6X dI=>by cases dI;rfl⟩
def aEd: ∀(Q:List cR) (k:Nat),(∀r∈Q,∀n∈U8 r,wC n)->k+Q.length<=1000000->∀e∈CY k Q,wB e
 |[],_,_,_,e,h=>by cases h
 |r::tW,k,bZ,Y,e,h=>by
  have G:wB (Bq r):=.aS _ rfl (bZ r (.head _))
  have U:wB (Cw (k:Int)):=.Mg 3 _ (.inl rfl) (by rw[kL]at Y;constructor<;>omega)
  have aO:=aEd tW (k+1) (λx K=>bZ x (.tail _ K)) (by rw[kL]at Y;omega)
  rw[CY]at h
  split at h
  ·rcases List.mem_cons.1 h with rfl|h
   ·exact G
   ·rcases List.mem_cons.1 h with rfl|h
    ·exact U
    ·exact aO e h
  ·rcases List.mem_cons.1 h with rfl|h
   ·exact G
   ·exact aO e h
def aWd{P:List gL}{Q:List cR}(aG:∀p∈P,wC p.tQ)(bZ:∀r∈Q,∀n∈U8 r,wC n)(bA:Q.length<=1000):∀e∈CR P Q,wB e:=λe h=>by
 rcases List.mem_append.1 h with h|h
 ·obtain⟨p,n3,rfl⟩:=List.mem_map.1 h
  exact .wY p (aG p n3)
 ·exact aEd Q 0 bZ D e h
def aU5{e:eO}(h:aEH e):wB e:=by
 rcases h with⟨G,U,aO⟩|⟨G,U,aO,bW⟩|⟨G,Y,U,aO⟩|⟨G,Y,U,aO,bW⟩;·rw[G];exact .wY _ ⟨by omega,by omega⟩
 ·rw[G];have:=bW.len;have:=bW.h6;have:=bW.aC;have:=bW.fQ;refine .aS _ bW.dZ λn bA=>?_;simp only[U8,nX,pO,or_false]at bA;exact aPh
 ·rw[G];exact .Mg _ _ Y ⟨by omega,by omega⟩
 ·rw[G];refine .nI _ _ _ Y λn bA=>?_;simp only[nX,pO,or_false]at bA;rcases bA with rfl|rfl|rfl<;>constructor<;>omega
end Go.Proofs.YtdiajbdaadlfhaaGreatDoor
namespace Go.Proofs.YtdiajbdaadlfhaaGreatDoor
open Go.Aw Go Go.Proofs.Tryz
set_option maxRecDepth 20000
attribute [local irreducible] cO dG dP aM cI dR fA e2 e5 fB eQ e9 J.L
def aTB{f:List UInt8}{p:J Int}{A B C:aW}{R:aP}(B9:nA A B C)(qK:pA (p.L 3 aR) B)(PV:p.ok 1 aR)(uQ:s3∈C)(aT:∀n∈p.l,-1000000000<=n/\n<=1000000000)(aH:f.length<=1000)(bA:p.l.length<=100):
 aM prog 29 [sv f,p.val].toArray A R (λv E R'=>v=sv (sR f p.l)/\B++C=E/\R=R'):=by have U:=aM.TB (S:=[dW p.W]) (Post:=λv E=>v=sv (sR f p.l)/\C=E) B9 (λw aD bF s aF=>by rw[List.mem_singleton.1 aF];exact wD bF qK PV bH aX eW) ((aS0 f p.W C ([dW p.W]++R) mL aT aH bA uQ).mono λv E R' ⟨hO,a2,a3⟩=>⟨⟨hO,a2⟩,a3⟩);exact U.mono λv hA R' ⟨E,e,⟨hO,a2⟩,a3⟩=>⟨hO,by rw[<-e,<-a2],a3⟩
def aRs{p:J Int}{A:aW}{R:aP}(qK:pA (p.L 3 aR) A)(PV:p.ok 1 aR)(aT:∀n∈p.l,-1000000000<=n/\n<=1000000000):
 aM prog 55 [p.val].toArray A R (λv E R'=>v=.bool true/\A=E/\R=R'):=by have U:=aM.TB (S:=[dW p.W]) (Post:=λv E=>v=.bool true/\[]=E) (nA.aC (L:=A)) (λw aD bF s aF=>by rw[List.mem_singleton.1 aF];exact wD bF qK PV bH aX eW) ((aSK p.W [] ([dW p.W]++R) mL aT).mono λv E R' ⟨hO,a2,a3⟩=>⟨⟨hO,a2⟩,a3⟩);exact U.mono λv hA R' ⟨E,e,⟨hO,a2⟩,a3⟩=>⟨hO,by rw[<-e,<-a2,rV],a3⟩
def Yx{C:aW}:nA C [] C:=by have h:=nA.Sc (X:=C) nA.nil;rwa[rV]at h
def aF1{b:Nat}{l:List Int}(bA:l.length<=100):(⟨.own b l.length [],l⟩:J Int).ok 1 aR:=by
 have h:(l.flatMap aR).length=l.length:=by rw[C0 (aI:=1) bH l,Mv]
 refine⟨by rw[h,Mv],gS _,by simp only[maxLen];omega,by rw[rV,h,Mv]⟩
def aIj{b:Nat}{l:List Int}:(⟨.own b l.length [],l⟩:J Int).L 3 aR=[⟨b,l.flatMap aR,3⟩]:=by unfold J.L gT.L;show[bQ.mk b (l.flatMap aR++[]) 3]=_;rw[rV]
def Ip{f:List UInt8}{b:Nat}{l:List Int}{A C:aW}{R:aP}(B9:nA A [⟨b,l.flatMap aR,3⟩] C)(uQ:s3∈C)(aT:∀n∈l,-1000000000<=n/\n<=1000000000)(aH:f.length<=1000)(bA:l.length<=100):
 aM prog 29 [sv f,.slice (some ⟨b,0,none⟩) l.length l.length].toArray A R (λv E R'=>v=sv (sR f l)/\A=E/\R=R'):=
 aM.aBq (aTB (p:=⟨.own b l.length [],l⟩) B9 (by rw[aIj];exact λ_ h=>h) (aF1 bA) uQ aT aH bA) λv E R' ⟨G,U,aO⟩=>⟨A,by rw[<-U];exact B9.yN.symm,G,rfl,aO⟩
def a0b{b:Nat}{l:List Int}{A:aW}{R:aP}(a1:(⟨b,l.flatMap aR,3⟩:bQ)∈A)(aT:∀n∈l,-1000000000<=n/\n<=1000000000)(bA:l.length<=100):
 aM prog 55 [.slice (some ⟨b,0,none⟩) l.length l.length].toArray A R (λv E R'=>v=.bool true/\A=E/\R=R'):=
 aRs (p:=⟨.own b l.length [],l⟩) (by rw[aIj];exact λe V=>by rw[List.mem_singleton.1 V];exact a1) (aF1 bA) aT
end Go.Proofs.YtdiajbdaadlfhaaGreatDoor
namespace Go.Proofs.YtdiajbdaadlfhaaGreatDoor
open Go.Aw Go Go.Proofs.Tryz
def Ji(h:A->B:=by exact OU b2 (decide_eq_false kM)):=h
def Ol(h:A->B:=by exact aA Bc rfl):=h
def Re(h:A->B:=by exact m9 rfl aQG rfl rfl):=h
def a6a(h:A->B:=by exact OR M rfl rfl rfl rfl qV aK aK aK):=h
def aJi(h:A->B:=by exact m9 rfl (R6 rfl (Ip (l:=[r.bK,r.to,r.len,r.h6]) Nj Xc Km aX (s6 rfl))) rfl rfl):=h
def aTO(h:A->B:=by exact m9 rfl (R6 rfl (Ip (l:=[r.aC.bJ,r.aC.bN,r.fQ.bJ,r.fQ.bN]) Nj Xc Kn D (s6 rfl))) rfl rfl):=h
def aT1(h:A->B:=by exact eU 25 q9 b9 aQ rfl rfl rfl rfl rfl (Io M rfl rfl rfl (show(sR I7 [r.bK,r.to,r.len,r.h6]).length+(sR aI [r.aC.bJ,r.aC.bN,r.fQ.bJ,r.fQ.bN]).length<=_ by simp only[kL,v1]at cE sW;omega))):=h
def aVK(h:A->B:=by exact eU 26 q9 b9 aQ rfl rfl rfl rfl rfl pX):=h
def aJ9(h:A->B:=by exact m9 rfl (CS (hB:=[(0,(Value.int _ _).cells.toList),(1,(Value.int _ _).cells.toList),(2,(Value.int _ _).cells.toList)]) (c9:=[_,_,_]) M rfl rfl rfl rfl rfl rfl rfl) rfl rfl):=h
def a78{T:TypeId}{hZ:iD}(h:g5 M.gD T=some hZ):∃i,prog.info? T=some i:=by obtain⟨i,u,z,aB,_⟩:=E0 (M.ok _ _ h);exact⟨i,aB⟩
def a7Z{d:Nat}:NV prog (d+2) 51 [.i,.i]:=by obtain⟨i,aB⟩:=a78 (T:=51) rfl;exact aOI
def aTa{d:Nat}:NV prog (d+2) 49 [.i,.b]:=by
 obtain⟨i,aB⟩:=a78 (T:=49) rfl;exact a5a (bL:=[(3,[.i]),(4,[.b])]) aQ aQ aB aQ aQ (by
  intro p aG;simp only[nX,pO,or_false]at aG;rcases aG with rfl|rfl;·exact JV aQ
  ·exact Iz aQ)
def aUK{d:Nat}:NV prog (d+3) 53 [.i,.i,.i,.i,.b,.b,.i,.i,.i,.i]:=by
 obtain⟨i,aB⟩:=a78 (T:=53) rfl;exact a5a (bL:=[(3,[.i]),(3,[.i]),(3,[.i]),(3,[.i]),(4,[.b]),(4,[.b]),(51,[.i,.i]),(51,[.i,.i])]) aQ aQ aB aQ aQ (by
  intro p aG;simp only[nX,pO,or_false]at aG;rcases aG with rfl|rfl|rfl|rfl|rfl|rfl|rfl|rfl;·exact JV aQ
  ·exact JV aQ
  ·exact JV aQ
  ·exact JV aQ
  ·exact Iz aQ
  ·exact Iz aQ
  ·exact a7Z
  ·exact a7Z)
def aSZ:Hm prog 55 [.i,.i,.b,.i,.i,.i,.i,.b,.b,.i,.i,.i,.i,.i,.i,.i]:=
 a43 [(3,[.i]),(49,[.i,.b]),(53,[.i,.i,.i,.i,.b,.b,.i,.i,.i,.i]),(3,[.i]),(51,[.i,.i])] aQ aQ aQ aQ rfl (by
  intro p aG
  simp only[nX,pO,or_false]at aG
  rcases aG with rfl|rfl|rfl|rfl|rfl
  ·exact JV aQ
  ·exact aTa
  ·exact aUK
  ·exact JV aQ
  ·exact a7Z)
set_option maxRecDepth 20000
attribute [local irreducible] cO dG dP aM cI dR fA e2 e5 fB eQ e9 J.L
def aYN(bL:gL)(L:aW)(R:aP)(h:wC bL.tQ)(b3:s3∈L):
 aM prog 25 [(⟨1,bL,kU,0,⟨0,0⟩⟩:eO).val].toArray L R (λv E R'=>v=.tuple #[sv (p7 ⟨1,bL,kU,0,⟨0,0⟩⟩),.bool true]/\L=E/\R=R'):=by
 have mQ:∀n∈[bL.tQ],wC n:=λn bA=>by rw[List.mem_singleton.1 bA];exact h
 have cE:=OM (f:=KZ) mQ;have b47:KZ.length=5:=rfl;rw[aIx];obtain⟨aI,jY⟩:∃aI,aI=32::if bL.m7 then Hd else Il:=⟨_,rfl⟩;have tT:aI.length<=8:=by rw[jY];split<;>decide
 rw[<-jY];refine cX 162 call25 func25 rfl rfl rfl ?_;apply(fC);intro fT;refine aA pX rfl ?_;apply uK∘Ol∘dO;intro dU;apply p6∘r1∘mY∘gB;refine eS (bY (iH (cC (dM ?_))));apply(q3);refine yX rfl ?_;apply RS∘gF∘a6a∘iG;refine aA pX rfl ?_;apply mY∘GQ∘dD;refine w6 [5] ((⟨λ_=>[(5,sv aI)],λ_=>⟨dU,eO.cells ⟨0,⟨0,false⟩,kU,0,⟨0,0⟩⟩,55⟩::⟨fT,eO.cells ⟨1,bL,kU,0,⟨0,0⟩⟩,55⟩::L,λ_=>R,λ_=>0⟩:e0 Unit)) ?_ ?_;·
  skip
  refine aJ ?_ ?_<;>intro cK;·apply(e1);refine aA pX rfl ?_;apply(yP);exact s9 () hM ⟨by rw[jY,if_pos cK];rfl,trivial⟩ bC eX
  refine gG ?_;exact s9 () hM ⟨by rw[jY,if_neg (by rw[cK];decide)];rfl,trivial⟩ bC eX
 rintro g c1;try dsimp only
 refine cC ?_;refine RM M [] [0,1,2,5,7,8,9,3,4,6,10,11,12,13,14,15,16,17,18] [] ([bQ.mk dU _ _,bQ.mk fT _ _]) [] 19 mixed aQ rfl rfl bC λzM=>?_;refine eU 0 zM b9 aQ rfl rfl rfl rfl rfl kT ?_;refine eU 1 zM b9 aQ rfl rfl rfl rfl rfl kT ?_;refine eU 2 zM b9 aQ rfl rfl rfl rfl rfl qY ?_;refine eU 5 zM b9 aQ rfl rfl rfl rfl rfl m8 ?_;refine eU 7 zM b9 aQ rfl rfl rfl rfl rfl Bc ?_;refine eU 8 zM b9 aQ rfl rfl rfl rfl rfl Nh ?_;refine eU 9 zM b9 aQ rfl rfl rfl rfl rfl a4n ?_;refine iU [3] zM b9 aQ ?_;apply(R4);rintro v E R' ⟨OZ,rfl,rfl,O9⟩;replace O9:=O9.symm;subst O9;apply(fI);refine iU [4] zM b9 aQ ?_;apply(kC);refine m9 rfl (R6 rfl (Ip (l:=[bL.tQ]) Nj Xc mQ aX (s6 rfl))) rfl rfl ?_;rintro v E R' ⟨rfl,rfl,rfl⟩;refine⟨bC,hC,?_⟩;refine eU 6 zM b9 aQ rfl rfl rfl rfl rfl (Io M rfl rfl rfl (show(sR KZ [bL.tQ]).length+aI.length<=_ by simp only[kL,v1]at cE;omega)) ?_;refine eU 10 zM b9 aQ rfl rfl rfl rfl rfl (mN b2) ?_;refine eU 11 zM b9 aQ rfl rfl rfl rfl rfl kT ?_;refine eU 12 zM b9 aQ rfl rfl rfl rfl rfl kT ?_;refine eU 13 zM b9 aQ rfl rfl rfl rfl rfl qY ?_;refine iU [14] zM b9 aQ ?_;apply(R4);rintro v E R' ⟨aKv,rfl,rfl,PB⟩;replace PB:=PB.symm;subst PB;apply(fI);refine iU [15] zM b9 aQ ?_;apply(kC);refine m9 rfl (R6 rfl (a0b (l:=[bL.tQ]) a4G mQ (s6 rfl))) rfl rfl ?_;rintro v E R' ⟨rfl,rfl,rfl⟩;refine⟨bC,hC,?_⟩;refine eU 16 zM b9 aQ rfl rfl rfl rfl rfl XY ?_;refine eU 17 zM b9 aQ rfl rfl rfl rfl rfl pX ?_;refine eU 18 zM b9 aQ rfl rfl rfl rfl rfl (qG b2) ?_;refine QY zM b9 aQ rfl ?_;exact aCW
def aRc(k r:Int)(L:aW)(R:aP)(Y:k=3\/k=4)(h:wC r)(b3:s3∈L):
 aM prog 25 [(⟨k,⟨0,false⟩,kU,r,⟨0,0⟩⟩:eO).val].toArray L R (λv E R'=>v=.tuple #[sv (p7 ⟨k,⟨0,false⟩,kU,r,⟨0,0⟩⟩),.bool true]/\L=E/\R=R'):=by
 have mQ:∀n∈[r],wC n:=λn bA=>by rw[List.mem_singleton.1 bA];exact h
 rw[aEK Y];obtain⟨aI,jY⟩:∃aI,aI=if k=3 then L4 else UD:=⟨_,rfl⟩;have tT:aI.length<=8:=by rw[jY];split<;>decide
 rw[<-jY];refine cX 162 call25 func25 rfl rfl rfl ?_;apply(fC);intro fT;refine aA pX rfl ?_;apply uK∘Ol∘dO;intro dU;apply p6∘r1∘mY∘gB;refine eS (bY (iH (cC (dM ?_))));apply q3∘Ji∘sQ∘Ji∘x0∘q3;refine w6 [106,108] ((⟨λ_=>[(106,.bool true)],λ_=>⟨dU,eO.cells ⟨0,⟨0,false⟩,kU,r,⟨0,0⟩⟩,55⟩::⟨fT,eO.cells ⟨k,⟨0,false⟩,kU,r,⟨0,0⟩⟩,55⟩::L,λ_=>R,λ_=>0⟩:e0 Unit)) ?_ ?_;·
  skip
  refine aJ ?_ ?_<;>intro fW;·refine gG ?_;exact s9 () hM ⟨congrArg Value.bool (decide_eq_true fW),trivial⟩ bC eX
  apply e1∘PZ∘l6∘yP;exact s9 () hM ⟨congrArg Value.bool (decide_eq_true (by have bW:¬k=3:=fW;show k=4;omega)),trivial⟩ bC eX
 rintro g c1;try dsimp only
 refine yX rfl ?_;apply eV∘r1∘iG;refine aA pX rfl ?_;apply mY∘gB∘AL;refine w6 [9] ((⟨λ_=>[(9,sv aI)],λ_=>⟨dU,eO.cells ⟨0,⟨0,false⟩,kU,0,⟨0,0⟩⟩,55⟩::⟨fT,eO.cells ⟨k,⟨0,false⟩,kU,r,⟨0,0⟩⟩,55⟩::L,λ_=>R,λ_=>0⟩:e0 Unit)) ?_ ?_;·
  skip
  refine aJ ?_ ?_<;>intro kK;·apply(e1);refine aA pX rfl ?_;apply(yP);exact s9 () hM ⟨by rw[jY,if_pos kK];rfl,trivial⟩ bC eX
  refine gG ?_;exact s9 () hM ⟨by rw[jY,if_neg kK];rfl,trivial⟩ bC eX
 rintro g c1;try dsimp only
 refine cC ?_;refine RM M [] [0,1,2,5,6,7,3,4,8,9,10,11,12,13,14,15] [] ([bQ.mk dU _ _,bQ.mk fT _ _]) [] 16 mixed aQ rfl rfl bC λDN=>?_;refine eU 0 DN b9 aQ rfl rfl rfl rfl rfl m8 ?_;refine eU 1 DN b9 aQ rfl rfl rfl rfl rfl kT ?_;refine eU 2 DN b9 aQ rfl rfl rfl rfl rfl qY ?_;refine eU 5 DN b9 aQ rfl rfl rfl rfl rfl Bc ?_;refine eU 6 DN b9 aQ rfl rfl rfl rfl rfl Nh ?_;refine eU 7 DN b9 aQ rfl rfl rfl rfl rfl a4n ?_;refine iU [3] DN b9 aQ ?_;apply(R4);rintro v E R' ⟨b7R,rfl,rfl,a8H⟩;replace a8H:=a8H.symm;subst a8H;apply(fI);refine iU [4] DN b9 aQ ?_;apply(kC);refine m9 rfl (R6 rfl (Ip (l:=[r]) Nj Xc mQ D (s6 rfl))) rfl rfl ?_;rintro v E R' ⟨rfl,rfl,rfl⟩;refine⟨bC,hC,?_⟩;refine eU 8 DN b9 aQ rfl rfl rfl rfl rfl (mN b2) ?_;refine eU 9 DN b9 aQ rfl rfl rfl rfl rfl kT ?_;refine eU 10 DN b9 aQ rfl rfl rfl rfl rfl qY ?_;refine iU [11] DN b9 aQ ?_;apply(R4);rintro v E R' ⟨b7U,rfl,rfl,a8L⟩;replace a8L:=a8L.symm;subst a8L;apply(fI);refine iU [12] DN b9 aQ ?_;apply(kC);refine m9 rfl (R6 rfl (a0b (l:=[r]) a4G mQ (s6 rfl))) rfl rfl ?_;rintro v E R' ⟨rfl,rfl,rfl⟩;refine⟨bC,hC,?_⟩;refine eU 13 DN b9 aQ rfl rfl rfl rfl rfl XY ?_;refine eU 14 DN b9 aQ rfl rfl rfl rfl rfl pX ?_;refine eU 15 DN b9 aQ rfl rfl rfl rfl rfl (qG b2) ?_;refine QY DN b9 aQ rfl ?_;exact aCW
def aX6(k r:Int)(s:bG)(L:aW)(R:aP)(Y:k=5\/k=6)(mQ:∀n∈[r,s.bJ,s.bN],wC n)(b3:s3∈L):
 aM prog 25 [(⟨k,⟨0,false⟩,kU,r,s⟩:eO).val].toArray L R (λv E R'=>v=.tuple #[sv (p7 ⟨k,⟨0,false⟩,kU,r,s⟩),.bool true]/\L=E/\R=R'):=by
 rw[aHN Y];obtain⟨aI,jY⟩:∃aI,aI=if k=6 then RI else U5:=⟨_,rfl⟩;have tT:aI.length<=8:=by rw[jY];split<;>decide
 rw[<-jY];refine cX 162 call25 func25 rfl rfl rfl ?_;apply(fC);intro fT;refine aA pX rfl ?_;apply uK∘Ol∘dO;intro dU;apply p6∘r1∘mY∘gB;refine eS (bY (iH (cC (dM ?_))));apply q3∘Ji∘sQ∘Ji∘x0∘q3∘Ji∘e1∘q3∘Ji∘x0∘q3;refine w6 [127,129] ((⟨λ_=>[(127,.bool true)],λ_=>⟨dU,eO.cells ⟨0,⟨0,false⟩,kU,r,s⟩,55⟩::⟨fT,eO.cells ⟨k,⟨0,false⟩,kU,r,s⟩,55⟩::L,λ_=>R,λ_=>0⟩:e0 Unit)) ?_ ?_;·
  skip
  refine aJ ?_ ?_<;>intro qM;·refine gG ?_;exact s9 () hM ⟨congrArg Value.bool (decide_eq_true qM),trivial⟩ bC eX
  apply e1∘PZ∘l6∘yP;exact s9 () hM ⟨congrArg Value.bool (decide_eq_true (by have j1:¬k=5:=qM;show k=6;omega)),trivial⟩ bC eX
 rintro g c1;try dsimp only
 refine yX rfl ?_;apply RS∘r1∘gF∘a6a∘iG;refine aA pX rfl ?_;apply mY∘gB∘AL;refine w6 [10] ((⟨λ_=>[(10,sv aI)],λ_=>⟨dU,eO.cells ⟨0,⟨0,false⟩,kU,0,⟨0,0⟩⟩,55⟩::⟨fT,eO.cells ⟨k,⟨0,false⟩,kU,r,s⟩,55⟩::L,λ_=>R,λ_=>0⟩:e0 Unit)) ?_ ?_;·
  skip
  refine aJ ?_ ?_<;>intro V2;·apply(e1);refine aA pX rfl ?_;apply(yP);exact s9 () hM ⟨by rw[jY,if_pos V2];rfl,trivial⟩ bC eX
  refine gG ?_;exact s9 () hM ⟨by rw[jY,if_neg V2];rfl,trivial⟩ bC eX
 rintro g c1;try dsimp only
 refine cC ?_;refine RM M [] [0,1,2,3,4,5,6,7,8,11,12,13,9,10,14,15,16,17,18,19,20,21,22,23,24,25,26,27] [] ([bQ.mk dU _ _,bQ.mk fT _ _]) [] 28 mixed aQ rfl rfl bC λrP=>?_;refine eU 0 rP b9 aQ rfl rfl rfl rfl rfl m8 ?_;refine eU 1 rP b9 aQ rfl rfl rfl rfl rfl kT ?_;refine eU 2 rP b9 aQ rfl rfl rfl rfl rfl qY ?_;refine eU 3 rP b9 aQ rfl rfl rfl rfl rfl kT ?_;refine eU 4 rP b9 aQ rfl rfl rfl rfl rfl kT ?_;refine eU 5 rP b9 aQ rfl rfl rfl rfl rfl qY ?_;refine eU 6 rP b9 aQ rfl rfl rfl rfl rfl kT ?_;refine eU 7 rP b9 aQ rfl rfl rfl rfl rfl kT ?_;refine eU 8 rP b9 aQ rfl rfl rfl rfl rfl qY ?_;refine eU 11 rP b9 aQ rfl rfl rfl rfl rfl Bc ?_;refine eU 12 rP b9 aQ rfl rfl rfl rfl rfl Nh ?_;refine eU 13 rP b9 aQ rfl rfl rfl rfl rfl a4n ?_;refine iU [9] rP b9 aQ ?_;apply kC∘aJ9;rintro v E R' ⟨b7X,rfl,rfl,a8Q⟩;replace a8Q:=a8Q.symm;subst a8Q;apply(fI);refine iU [10] rP b9 aQ ?_;apply(kC);refine m9 rfl (R6 rfl (Ip (l:=[r,s.bJ,s.bN]) Nj Xc mQ D (s6 rfl))) rfl rfl ?_;rintro v E R' ⟨rfl,rfl,rfl⟩;refine⟨bC,hC,?_⟩;refine eU 14 rP b9 aQ rfl rfl rfl rfl rfl (mN b2) ?_;refine eU 15 rP b9 aQ rfl rfl rfl rfl rfl kT ?_;refine eU 16 rP b9 aQ rfl rfl rfl rfl rfl qY ?_;refine eU 17 rP b9 aQ rfl rfl rfl rfl rfl kT ?_;refine eU 18 rP b9 aQ rfl rfl rfl rfl rfl kT ?_;refine eU 19 rP b9 aQ rfl rfl rfl rfl rfl qY ?_;refine eU 20 rP b9 aQ rfl rfl rfl rfl rfl kT ?_;refine eU 21 rP b9 aQ rfl rfl rfl rfl rfl kT ?_;refine eU 22 rP b9 aQ rfl rfl rfl rfl rfl qY ?_;refine iU [23] rP b9 aQ ?_;apply kC∘aJ9;rintro v E R' ⟨b7Y,rfl,rfl,a8R⟩;replace a8R:=a8R.symm;subst a8R;apply(fI);refine iU [24] rP b9 aQ ?_;apply(kC);refine m9 rfl (R6 rfl (a0b (l:=[r,s.bJ,s.bN]) a4G mQ (s6 rfl))) rfl rfl ?_;rintro v E R' ⟨rfl,rfl,rfl⟩;refine⟨bC,hC,?_⟩;refine eU 25 rP b9 aQ rfl rfl rfl rfl rfl XY ?_;refine eU 26 rP b9 aQ rfl rfl rfl rfl rfl pX ?_;refine eU 27 rP b9 aQ rfl rfl rfl rfl rfl (qG b2) ?_;refine QY rP b9 aQ rfl ?_;exact aCW
def aXb(r:cR)(L:aW)(R:aP)(bU:r.dZ=false)(mQ:∀n∈U8 r,wC n)(b3:s3∈L):
 aM prog 25 [(⟨2,⟨0,false⟩,r,0,⟨0,0⟩⟩:eO).val].toArray L R (λv E R'=>v=.tuple #[sv (p7 ⟨2,⟨0,false⟩,r,0,⟨0,0⟩⟩),.bool true]/\L=E/\R=R'):=by
 rw[aDt];obtain⟨aI,jY⟩:∃aI,aI=32::if r.qD then Dh else De:=⟨_,rfl⟩;have tT:aI.length<=8:=by rw[jY];split<;>decide
 rw[<-jY];have Km:∀n∈[r.bK,r.to,r.len,r.h6],wC n:=λn bA=>mQ n (by simp only[nX,pO,or_false]at bA;rcases bA with rfl|rfl|rfl|rfl<;>simp);have Kn:∀n∈[r.aC.bJ,r.aC.bN,r.fQ.bJ,r.fQ.bN],wC n:=λn bA=>mQ n (by simp only[nX,pO,or_false]at bA;rcases bA with rfl|rfl|rfl|rfl<;>simp);have cE:=OM (f:=I7) Km;have sW:=OM (f:=aI) Kn;have b47:I7.length=4:=rfl;refine cX 162 call25 func25 rfl rfl rfl ?_;apply(fC);intro fT;refine aA pX rfl ?_;apply uK∘Ol∘dO;intro dU;apply p6∘r1∘mY∘gB;refine eS (bY (iH (cC (dM ?_))));apply(q3);refine CT rfl ?_;apply(sQ);refine yX rfl ?_;apply(aI2);refine aA Bi rfl ?_;apply(dO);intro jN;apply(p6);refine aA (l7 (hB:=[]) (c9:=[_,_,_,_,_,_,_,_,_,_]) M rfl rfl rfl rfl) rfl ?_;apply gF∘a6a∘iG;refine aA pX rfl ?_;apply mY∘gB∘dD;refine w6 [7] ((⟨λ_=>[(7,sv aI)],λ_=>⟨jN,cR.cells r,53⟩::⟨dU,eO.cells ⟨0,⟨0,false⟩,kU,0,⟨0,0⟩⟩,55⟩::⟨fT,eO.cells ⟨2,⟨0,false⟩,r,0,⟨0,0⟩⟩,55⟩::L,λ_=>R,λ_=>0⟩:e0 Unit)) ?_ ?_;·
  skip
  refine aJ ?_ ?_<;>intro gZ;·apply(e1);refine aA pX rfl ?_;apply(yP);exact s9 () hM ⟨by rw[jY,if_pos gZ];rfl,trivial⟩ bC eX
  refine gG ?_;exact s9 () hM ⟨by rw[jY,if_neg (by rw[gZ];decide)];rfl,trivial⟩ bC eX
 rintro g c1;try dsimp only
 refine cC ?_;refine w6 (dJ 47 26++[8]) ((⟨λ_=>[(8,sv (sR I7 [r.bK,r.to,r.len,r.h6]++sR aI [r.aC.bJ,r.aC.bN,r.fQ.bJ,r.fQ.bN]))],λ_=>⟨jN,cR.cells r,53⟩::⟨dU,eO.cells ⟨0,⟨0,false⟩,kU,0,⟨0,0⟩⟩,55⟩::L,λ_=>R,λ_=>0⟩:e0 Unit)) ?_ ?_;·
  skip
  refine RM M [] [0,1,2,3,4,5,6,7,10,11,12,13,14,15,16,17,18,19,20,21,22,8,9,23,24,25,26] [] ([bQ.mk jN _ _]) [] 27 mixed aQ rfl rfl bC λq9=>?_;refine eU 0 q9 b9 aQ rfl rfl rfl rfl rfl kT ?_;refine eU 1 q9 b9 aQ rfl rfl rfl rfl rfl qY ?_;refine eU 2 q9 b9 aQ rfl rfl rfl rfl rfl kT ?_;refine eU 3 q9 b9 aQ rfl rfl rfl rfl rfl qY ?_;refine eU 4 q9 b9 aQ rfl rfl rfl rfl rfl kT ?_;refine eU 5 q9 b9 aQ rfl rfl rfl rfl rfl qY ?_;refine eU 6 q9 b9 aQ rfl rfl rfl rfl rfl kT ?_;refine eU 7 q9 b9 aQ rfl rfl rfl rfl rfl qY ?_;refine eU 10 q9 b9 aQ rfl rfl rfl rfl rfl m8 ?_;refine eU 11 q9 b9 aQ rfl rfl rfl rfl rfl kT ?_;refine eU 12 q9 b9 aQ rfl rfl rfl rfl rfl kT ?_;refine eU 13 q9 b9 aQ rfl rfl rfl rfl rfl qY ?_;refine eU 14 q9 b9 aQ rfl rfl rfl rfl rfl kT ?_;refine eU 15 q9 b9 aQ rfl rfl rfl rfl rfl kT ?_;refine eU 16 q9 b9 aQ rfl rfl rfl rfl rfl qY ?_;refine eU 17 q9 b9 aQ rfl rfl rfl rfl rfl kT ?_;refine eU 18 q9 b9 aQ rfl rfl rfl rfl rfl kT ?_;refine eU 19 q9 b9 aQ rfl rfl rfl rfl rfl qY ?_;refine eU 20 q9 b9 aQ rfl rfl rfl rfl rfl kT ?_;refine eU 21 q9 b9 aQ rfl rfl rfl rfl rfl kT ?_;refine eU 22 q9 b9 aQ rfl rfl rfl rfl rfl qY ?_;refine iU [8,23] q9 b9 aQ ?_;refine nM ?_ ?_;·
   skip
   apply(Re);rintro v E R' ⟨aZ3,rfl,rfl,Dw⟩;replace Dw:=Dw.symm;subst Dw;apply(fI);refine iU [9,23] q9 b9 aQ ?_;refine nM ?_ ?_;·
    skip
    apply(aJi);rintro v E R' ⟨rfl,rfl,rfl⟩;refine⟨bC,hC,?_⟩;refine iU [23] q9 b9 aQ ?_;apply kC∘Re;rintro v E R' ⟨aKx,rfl,rfl,PG⟩;replace PG:=PG.symm;subst PG;exact(fI) aQp
   apply kC∘Re;rintro v E R' ⟨aKx,rfl,rfl,PG⟩;replace PG:=PG.symm;subst PG;exact aQs
  apply kC∘Re;rintro v E R' ⟨aKx,rfl,rfl,PG⟩;replace PG:=PG.symm;subst PG;apply(fI);refine iU [8] q9 b9 aQ ?_;apply kC∘Re;rintro v E R' ⟨aZ3,rfl,rfl,Dw⟩;replace Dw:=Dw.symm;subst Dw;exact aQs
 rintro g c1;try dsimp only
 apply(eV);refine aA m8 rfl ?_;apply(Ol);refine aA Nh rfl ?_;refine aA a4n rfl ?_;apply(fD);apply lR (aD:=[_,_,_]) (j:=4) (b4:=77) rfl rfl aK rfl b2 rfl;·intro jP;replace jP:=cP jP;apply(gF);refine aA (JO M rfl rfl rfl mC (show _=some (Value.bool false) by rw[<-bU];rfl)) rfl ?_;exact QC
 intro DU;apply(fD);apply lR (aD:=[_,_,_,_,_,_,_,_,_,_,_,_,_,_,_,_,_,_,_,_,_,_]) (j:=9) (b4:=82) rfl rfl aK rfl b2 rfl;·intro vP;replace vP:=cP vP;apply nZ∘nZ∘GQ∘GQ∘GQ∘GQ;refine g2 (CS (hB:=[(0,(Value.int _ _).cells.toList),(1,(Value.int _ _).cells.toList),(2,(Value.int _ _).cells.toList),(3,(Value.int _ _).cells.toList),(4,(Value.int _ _).cells.toList),(5,(Value.int _ _).cells.toList),(6,(Value.int _ _).cells.toList),(7,(Value.int _ _).cells.toList)]) (c9:=[_,_,_,_,_,_,_,_]) M rfl rfl rfl rfl rfl rfl rfl) rfl ?_;rintro v E R' ⟨b7Q,rfl,rfl,a8F⟩;replace a8F:=a8F.symm;subst a8F;refine eD rfl (a0b (l:=U8 r) a4G mQ (s6 rfl)) ?_;exact iA
 intro Uz;refine aA pX rfl ?_;apply l6∘D4;refine cF L R (tD rfl (EL XW) EE) ?_;exact BJ
def aXo(e:eO)(L:aW)(R:aP)(V:wB e)(b3:s3∈L):
 aM prog 25 [e.val].toArray L R (λv E R'=>v=.tuple #[sv (p7 e),.bool true]/\L=E/\R=R'):=by
 cases V with
 |wY p h=>exact aYN p L R h b3
 |aS r h bA=>exact aXb r L R h bA b3
 |Mg k r Y h=>exact aRc k r L R Y h b3
 |nI k r s Y h=>exact aX6 k r s L R Y h b3
end Go.Proofs.YtdiajbdaadlfhaaGreatDoor
