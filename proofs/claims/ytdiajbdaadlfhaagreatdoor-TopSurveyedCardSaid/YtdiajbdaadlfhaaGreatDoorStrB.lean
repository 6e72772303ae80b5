/-
  Merged texts. By an AI agent.
-/
import Derived.Test.YtdiajbdaadlfhaaGreatDoorLevK
import Derived.Test.YtdiajbdaadlfhaaGreatDoorLaw11b
import Derived.Test.YtdiajbdaadlfhaaGreatDoorStaD
import Derived.Test.YtdiajbdaadlfhaaGreatDoorCongrS
import Derived.Test.YtdiajbdaadlfhaaGreatDoorCircR
import Derived.Test.YtdiajbdaadlfhaaGreatDoorStaG
import Derived.Test.YtdiajbdaadlfhaaGreatDoorRoundA
import Derived.Test.YtdiajbdaadlfhaaGreatDoorStaA
import Derived.Test.YtdiajbdaadlfhaaGreatDoorFlows
import Derived.Laws.IdiomStrings
set_option linter.all false
set_option maxHeartbeats 4000000
set_option maxRecDepth 20000
variable{A B:Prop}
namespace Go.Proofs.YtdiajbdaadlfhaaGreatDoor
open Go.Aw Go Go.Proofs.Tryz
section
attribute [local irreducible] cO dG dP aM cI dR fA e2 e5 fB eQ e9 J.L
def aJ8{a:Int}:a.fdiv (2^(min (8:Int).toNat IntKind.i64.bits))=a/256:=by show a.fdiv (2^8)=_;rw[a3S _ aX];rfl
def aOn{a:Int}(h:0<=a/\a<1048576):IntKind.u8.wrap a=a%256:=by obtain⟨n,rfl⟩:∃n:Nat,a=(n:Int):=⟨a.toNat,by omega⟩;unfold IntKind.wrap;simp[IntKind.bits,IntKind.signed]
def Vv{a:Int}(h:0<=a/\a<=255):IntKind.u8.wrap a=a:=by obtain⟨n,rfl⟩:∃n:Nat,a=(n:Int):=⟨a.toNat,by omega⟩;exact aKg D
def aM.b5P{P:Program}{f:FuncId}{args:Array Value}{A:aW}{R:aP}{p:J Int}{T:TypeId}{u:Value}(jQ:pA (p.L T s8) A)(bM:p.ok 1 s8)(G:1<=p.l.length)
 (h:aM P f args [] (k3 (m1 p.W 1 1)::R) (λv E R'=>v=u/\[]=E/\k3 (m1 p.W 1 1)::R=R')):aM P f args A R (λv E R'=>v=u/\A=E/\R=R'):=by
 refine Go.Proofs.YtdiajbdaadlfhaaGreatDoor.aM.Ve (S:=[k3 (m1 p.W 1 1)]) (λw aD bF s aF=>?_) h;rw[List.mem_singleton.1 aF];have bV:=wD bF jQ bM bH aX (eE:=[]) eW;have U:=aGE bV (m:=1) aX G aX;have dH:p.W.l.length-1=(p.W.l.drop 1).length:=by rw[F8]
 have eH:(p.W.l.map s8).drop 1=(p.W.l.drop 1).map s8:=by rw[List.map_drop]
 rw[dH,eH]at U;exact U
def JY(f:xE):Int:=if(f.hW<0\/255<f.hW)\/f.kind<0\/255<f.kind then 1 else if 64<f.data.length then 2 else 0
def aVR(f:nO)(L:aW)(R:aP)(aH:aN (k3 f.data) R)(aT:uB f.data.l):
 aM prog 88 [f.val].toArray L R (λv E R'=>∃q:J Int,v=.tuple #[q.val,.int .i64 (JY f.n5)]/\q.ok 1 s8/\q.l=(if JY f.n5=0 then xI f.n5 else[])/\q.L 5 s8++L=E/\∀r∈R,aN r R'):=by
 refine cX 53 call88 func88 rfl rfl rfl ?_;apply(fC);intro fT;apply kS∘kB∘AK;apply dT (aD:=[_,_,_]) (j:=3) (b4:=9) rfl rfl aK rfl b2 rfl;·exact QG
 intro m2;apply(fD);apply dT (aD:=[_,_,_]) (j:=8) (b4:=14) rfl rfl aK rfl b2 rfl;·exact Xj
 intro zV;apply(fD);apply dT (aD:=[_,_,_]) (j:=13) (b4:=19) rfl rfl aK rfl b2 rfl;·exact a4m
 intro Va;apply(dD);refine aJ ?_ ?_<;>intro bI;·
  apply C9∘uG;refine kN (E:=L) (R':=R) LB ?aG ?b3 ?b8;case aG=>(have V:JY f.n5=1:=by rw[JY,if_pos Xd]);exact aPf
  case b3=>exact bC
  case b8=>exact λr O=>aU O
 apply k5∘jM∘y8;refine aJ ?_ ?_<;>intro cK;·
  apply C9∘uG;refine cF L R LB ?_;have V:JY f.n5=2:=by rw[JY,if_neg Xd,if_pos Xd]
  exact aPf
 apply gI∘jM∘yR∘gB∘yR∘gB∘yR;refine g2 aQG rfl ?_;rintro v E R' ⟨a8d,rfl,rfl,a8Y⟩;replace a8Y:=a8Y.symm;subst a8Y;apply(gB);have dH:IntKind.u8.wrap (f.data.l.length:Int)=f.data.l.length:=Vv D;have eH:IntKind.u8.wrap f.hW=f.hW:=Vv D;have nS:IntKind.u8.wrap f.kind=f.kind:=Vv D;rw[dH,eH,nS];have Uh:(⟨.own a8d 4 [],[126,(f.data.l.length:Int),f.hW,f.kind]⟩:J Int).ok 1 s8:=⟨rfl,gS _,by decide,rfl⟩;refine a6p (show _=(⟨.own a8d 4 [],[126,(f.data.l.length:Int),f.hW,f.kind]⟩:J Int).L 5 s8++(⟨fT,f.cells,216⟩::L) by(simp[J.L,gT.L,s8,nO.cells,bP.val];rfl)) ?_;refine g2 (a7m M (⟨.own a8d 4 [],[126,(f.data.l.length:Int),f.hW,f.kind]⟩:J Int) f.data rfl rfl rfl aX rfl rfl Uh aH cL bH (by simp only[kL,v1];omega)) rfl ?_;rintro v E R' ⟨W8,rfl,a2D,rfl,rfl⟩;apply(OK);have tT:(⟨W8,[126,(f.data.l.length:Int),f.hW,f.kind]++f.data.l⟩:J Int).l=AA f.n5:=rfl;have b49:uB (AA f.n5):=λx K=>by
  rw[<-tT]at K;simp only[mK,nJ,nX]at K;rcases K with h|h|h|h|h;·omega
  ·omega
  ·omega
  ·omega
  ·exact aT x h
 have Eh:=a07 (AA f.n5).tail;rw[NU]at Eh;apply(vE);refine aA (Cz (m:=1) (aI:=1) (u:=(⟨W8,[126,(f.data.l.length:Int),f.hW,f.kind]++f.data.l⟩:J Int).W) M rfl rfl rfl rfl rfl aX eY rfl) rfl ?_;refine eD rfl (aM.b5P BD a2D eY (aZM (m1 (⟨W8,[126,(f.data.l.length:Int),f.hW,f.kind]++f.data.l⟩:J Int).W 1 1) _ _ mL (λx K=>b49 x (Gk K)))) ?_;apply(E9);have b0h:(m1 (⟨W8,[126,(f.data.l.length:Int),f.hW,f.kind]++f.data.l⟩:J Int).W 1 1).l=(AA f.n5).tail:=List.drop_one;rw[b0h];obtain⟨zK,aLU⟩:∃zK,zK=pZ (AA f.n5).tail:=⟨_,rfl⟩;rw[<-aLU]at Eh|-;have B3:IntKind.u8.wrap (zK/256)=zK/256:=Vv D;have O2:IntKind.u8.wrap zK=zK%256:=aOn D;apply(y6);refine aA (Hy rfl rfl aX aJ8) rfl ?_;apply yR∘cJ∘yR;refine g2 Wv rfl ?_;rintro v E R' ⟨Jr,rfl,rfl,PF⟩;replace PF:=PF.symm;subst PF;rw[B3,O2];refine J2 (aI:=1) (len:=2) (cap:=2) (rows:=[s8 (zK/256),s8 (zK%256)]) (eE:=[]) rfl aX aX (λr O=>by rcases List.mem_cons.1 O with rfl|O;rfl;rw[List.mem_singleton.1 O];rfl) aX rfl eW ?_;have b0J:aN (k3 (⟨some ⟨Jr,0,none⟩,2,[zK/256,zK%256]⟩:bP Int)) (k3 (⟨some ⟨Jr,0,none⟩,2,[zK/256,zK%256]⟩:bP Int)::R):=aU (.head _);refine g2 (a7m M (⟨W8,[126,(f.data.l.length:Int),f.hW,f.kind]++f.data.l⟩:J Int) (⟨some ⟨Jr,0,none⟩,2,[zK/256,zK%256]⟩:bP Int) rfl rfl rfl aX rfl rfl a2D b0J cL bH (by simp only[kL,v1,hL];omega)) rfl ?_;rintro v E R' ⟨Lq,rfl,Uj,rfl,rfl⟩;apply kS∘sO;refine cF ((⟨Lq,([126,(f.data.l.length:Int),f.hW,f.kind]++f.data.l)++[zK/256,zK%256]⟩:J Int).L 5 s8++L) (k3 (⟨some ⟨Jr,0,none⟩,2,[zK/256,zK%256]⟩:bP Int)::R) LB ?_;have V:JY f.n5=0:=by rw[JY,if_neg Xd,if_neg Xd]
 exact⟨(⟨Lq,([126,(f.data.l.length:Int),f.hW,f.kind]++f.data.l)++[zK/256,zK%256]⟩:J Int),by rw[V];rfl,Uj,by rw[V,if_pos rfl,aLU];rfl,rfl,λr O=>aU (.tail _ O)⟩
def Cf(hW qS:Int):xE:=⟨hW,1,[qS/256,qS%256]⟩
def Cd(hW qS:Int):List Int:=xI (Cf hW qS)
def aDE{hW qS:Int}(bX:0<=hW/\hW<=255):JY (Cf hW qS)=0:=by rw[JY,if_neg (by simp only[Cf];omega),if_neg (by simp[Cf])]
def aTE{f:xE}(h:JY f=0)(aT:uB f.data):uB (xI f):=by
 have Eh:=a07 (AA f).tail;rw[NU]at Eh;rw[JY]at h;split at h;·cases h
 split at h;·cases h
 intro x K;rw[xI,AA]at K;rw[AA]at Eh;simp only[mK,nX,D7,pO,or_false]at K;rcases K with h|h|h|h|h|h|h;·omega
 ·omega
 ·omega
 ·omega
 ·exact aT x h
 ·omega
 ·omega
def aJk{hW qS:Int}(bX:0<=hW/\hW<=255)(O:0<=qS/\qS<=65535):uB (Cd hW qS):=aTE (aDE bX) (λx K=>by
 simp only[Cf,nX,pO,or_false]at K
 rcases K with h|h<;>omega)
def aWH(hW qS:Int)(L:aW)(R:aP)(bX:0<=hW/\hW<=255)(O:0<=qS/\qS<=65535):
 aM prog 46 [.int .i64 hW,.int .i64 qS].toArray L R (λv E R'=>∃q:bP Int,v=q.val/\q.l=Cd hW qS/\aN (k3 q) R'/\(∀r∈R,aN r R')/\L=E):=by
 refine cX 20 call46 func46 rfl rfl rfl ?_;apply eV∘tH∘wF;refine aA (Hy rfl rfl aX aJ8) rfl ?_;apply yR∘cJ∘yR;refine g2 Wv rfl ?_;rintro v E R' ⟨wL,rfl,rfl,a8N⟩;replace a8N:=a8N.symm;subst a8N;have B3:IntKind.u8.wrap (qS/256)=qS/256:=Vv D;have O2:IntKind.u8.wrap qS=qS%256:=aOn D;rw[B3,O2];refine J2 (aI:=1) (len:=2) (cap:=2) (rows:=[s8 (qS/256),s8 (qS%256)]) (eE:=[]) rfl aX aX (λr O=>by rcases List.mem_cons.1 O with rfl|O;rfl;rw[List.mem_singleton.1 O];rfl) aX rfl eW ?_;refine aA aCQ rfl ?_;refine dN rfl (aVR (⟨hW,1,⟨some ⟨wL,0,none⟩,2,[qS/256,qS%256]⟩⟩:nO) _ (k3 (⟨some ⟨wL,0,none⟩,2,[qS/256,qS%256]⟩:bP Int)::R) mL (λx K=>by
 simp only[nX,pO,or_false]at K;rcases K with h|h<;>omega)) rfl ?_
 rintro v E R' ⟨q,rfl,g7,eZ,rfl,oP⟩;refine aA jE rfl ?_;apply C8∘E9;have c6:JY (nO.n5 ⟨hW,1,⟨some ⟨wL,0,none⟩,2,[qS/256,qS%256]⟩⟩)=0:=aDE (qS:=qS) bX;rw[if_pos c6]at eZ;refine jW (T:=5) (f:=s8) (aI:=1) q [] cL bH aX g7 eW ?_;refine e7 h3 ?_;apply vE∘UW;refine cF L (k3 q.W::R') BH ?_;exact⟨q.W,rfl,eZ,aU (.head _),λr O=>(oP r (.tail _ O)).mono λr O=>aU (.tail _ O),rfl⟩
end
def o2(len:Int):bT:=⟨⟨⟨none,0,[⟨0,true⟩,⟨0,true⟩]⟩,⟨none,0,[a1a len]⟩⟩,⟨none,0,[]⟩,⟨none,0,[]⟩⟩
def a56(cM:Int):kJ:=⟨⟨none,0,[⟨1,0,0,0⟩]⟩,cM,⟨none,0,[0]⟩,1⟩
def a0T(len rN cM:Int):dY:=⟨o2 len,⟨none,0,[MN]⟩,⟨none,0,[Pu rN]⟩,⟨none,0,[a56 cM]⟩,⟨none,0,[1,2]⟩⟩
def aR1{s:dY}{len rN cM:Int}(h:Hb s len rN cM):hH s (a0T len rN cM):=by
 obtain⟨z,j1,nK,z2,z3,z4⟩:=h.eR;show sL s=sL (a0T len rN cM);rw[sL,pI,OO,h.places,h.Z,h.bD,h.a8,h.TP,h.h2,j1,h.aBp];show _=(⟨_,_,_,⟨none,0,[H9 (a56 cM)]⟩,_⟩:dY);have e:H9 z=H9 (a56 cM):=by rw[H9,nK,z2,z3,z4];rfl
 rw[pV,e];rfl
def aDw:a73 (o2 1) sM=true:=by rfl
def aTp(p:Int):aGN (kA (o2 1) sM 0) p (u9 (kA (o2 1) sM 0) p):=
 Yo (aE2 (aDw)).1 ⟨by decide,by show(0:Int)<1;decide⟩ p
def aUU(p:Int):aDg (kA (o2 1) sM 0) p (u6 (kA (o2 1) sM 0) p):=
 a0g (aE2 (aDw)).1 ⟨by decide,by show(0:Int)<1;decide⟩ p
def aGl:kA (o2 1) sM 0 300=⟨0,0⟩:=by rfl
def aSq:kA (o2 1) sM 0 301=⟨601,601⟩:=by rfl
def aVb:kA (o2 1) sM 0 299=⟨-599,-599⟩:=by rfl
def aWC:u9 (kA (o2 1) sM 0) 0=300:=by
 have G:=aTp 0;have VP:=aGl;have dH:=aSq;generalize u9 (kA (o2 1) sM 0) 0=z at*;rcases Int.lt_trichotomy z 300 with h|h|h;·have:=G.gt 300 h D;rw[VP]at this;dsimp only at this;omega
 ·exact h
 ·have:=G.le 301 D D;rw[dH]at this;dsimp only at this;omega
def aWZ:u6 (kA (o2 1) sM 0) 0=300:=by
 have G:=aUU 0;have VP:=aGl;have dH:=aVb;generalize u6 (kA (o2 1) sM 0) 0=z at*;rcases Int.lt_trichotomy z 300 with h|h|h;·have:=G.ge 299 D D;rw[dH]at this;dsimp only at this;omega
 ·exact h
 ·have:=G.lt 300 D h;rw[VP]at this;dsimp only at this;omega
def aXr:mU (o2 1).aE [true,true]:=by
 have aF:JX (o2 1).aE=[true,true]:=rfl;refine⟨rfl,λi aB=>?_⟩;rw[aF]at aB|-;simp only[kL,v1]at aB|-;rcases gX i 1 with h|h;·
  obtain rfl:i=0:=by omega
  exact⟨λ_=>⟨0,by decide,rfl,.refl⟩,λ_=>rfl⟩
 ·
  obtain rfl:i=1:=by omega
  exact⟨λ_=>⟨1,by decide,rfl,.refl⟩,λ_=>rfl⟩
def aW1(up:Bool):qH (o2 1) sM [true,true] up [0,0] (o2 1).aE.places.l.length=some [0,0]:=by have bV:vG (o2 1) [true,true] 0=true:=rfl;have G:vG (o2 1) [true,true] 1=true:=rfl;show qH (o2 1) sM [true,true] up [0,0] (0+1+1)=_;rw[qH,qH,qH,Ax,if_pos bV,Ax,if_pos G]
def aWX:Q7 (o2 1) sM [0,0] [true,true]:=by
 refine⟨by rfl,by rfl,rfl,λp aG=>?_,λi aB aH=>?_⟩;·simp only[nX,pO,or_false]at aG;omega
 ·
  rcases gX i 1 with G|G;·(obtain rfl:i=0:=by omega);rfl
  ·(obtain rfl:i=1:=by have:i<2:=aB;omega);rfl
def a5M(up:Bool):l8 (o2 1) sM [true,true] up [0,0]=(0,[0,0]):=by have r:vA (o2 1) sM [true,true] up 200 [0,0]=some [0,0]:=aJY (n:=199) (aW1 up);rw[l8,if_neg (by rw[Zr.2 (aWX)];decide),r]
def aF3:uM (o2 1) sM [true,true]=(0,[0,0],[0,0]):=by have bV:List.replicate (o2 1).aE.places.l.length (0:Int)=[0,0]:=rfl;rw[uM,bV,a5M];dsimp only;rw[if_neg aX,a5M,if_neg aX,a5M,if_neg aX]
abbrev Rh:q2:=⟨⟨none,0,[0,0]⟩,⟨none,0,[0,0]⟩⟩
def aW5:wI (o2 1) sM Rh [true,true]=0:=by
 refine aGZ.2 ⟨⟨by rfl,by rfl,rfl,rfl,λp aG=>?_,λp aG=>?_⟩,λi aB aH=>?_,λi aB aH=>?_⟩;·simp only[nX,pO,or_false]at aG;omega
 ·simp only[nX,pO,or_false]at aG;omega
 ·
  rcases gX i 1 with h|h;·(obtain rfl:i=0:=by omega);exact⟨rfl,rfl⟩
  ·(obtain rfl:i=1:=by have:i<2:=aB;omega);exact⟨rfl,rfl⟩
 ·
  rcases gX i 1 with h|h;·(obtain rfl:i=0:=by omega);exact absurd rfl aH
  ·(obtain rfl:i=1:=by have:i<2:=aB;omega);exact absurd rfl aH
def aSp:pB (o2 1) sM [true,true]=(0,[⟨300,300⟩]):=by
 have G:h4 (o2 1)=0:=by rfl
 have U:mP (o2 1) sM=true:=by rfl
 have aO:OX (o2 1) sM [true,true]=Rh:=by rw[OX,aF3]
 rw[pB,if_neg (by rw[G];decide),if_neg (by rw[U];decide),aF3,if_pos rfl,aO,GN,if_pos (aW5)];have bW:w7 (o2 1) sM Rh [true,true] 0=⟨300,300⟩:=by have e:w7 (o2 1) sM Rh [true,true] 0=⟨u9 (kA (o2 1) sM 0) 0,u6 (kA (o2 1) sM 0) 0⟩:=rfl;rw[e,aWC,aWZ]
 show(0,[w7 (o2 1) sM Rh [true,true] 0])=_;rw[bW]
abbrev k4:mZ:=⟨a0T 1 1 1,[0],3,[true,true]⟩
abbrev H6:List bG:=[⟨300,300⟩]
def aGo{n:Nat}{lost:bG}{t:Int}{l:List g0}(h: ∀i:Nat,(l.getD i default).kind≠3): ∀(m:List e6) (eM:UK),m.foldl (JM n 3 lost t l) eM=eM
 |[],_=>rfl
 |x::m,eM=>by
  rw[Wc,JM,if_pos (λk=>h _ k.1.2.1)]
  exact aGo h m eM
def aXY: ∀i:Nat,(([MN]:List g0).getD i default).kind≠3
 |0=>by decide
 |k+1=>by show(0:Int)≠3;decide
def a1s(p:c0):iR k4 p=H6:=by have G:RJ k4.bO p.fN p.time=([],[]):=rfl;have U:k4.bO.e8.l=[MN]:=rfl;have aO:VS k4.bO.c2 k4.c2 ([],[])=H6:=congrArg Prod.snd aSp;rw[iR,L9,Q9,NZ,G,U,aO,aGo aXY]
def DE(rC:c0)(t:Int):c0:=
 let p:={rC with time:=t}
 let v:=NG k4.bO p.fN p.gR H6 t
 let q:=TQ k4 (IB k4 {p with gR:=w2 k4.bO p.fN p.gR H6 t,b1:=wO k4.bO v p.b1 t} (G1 k4.bO v p.b1 t))
 sT k4 v q q.b1.length
def QS(p:c0)(t:Int):cU k4 p t=DE p t:=by rw[cU,iO,v8,a1s];rfl
def Jh:xE:=Cf 0 9
def Rz(t:Int)(p:c0):c0:=DE {p with fN:=B0 [MN] t p.fN Jh} t
def aZo{p:c0}{t:Int}(G:p.held=[])(U:p.fU=0)(aZ:¬sJ p t):RC k4 p (Cd 0 9) t=(Rz t p,0):=by
 have e:kV (p.held++Cd 0 9) p.fU=⟨[],0,[Jh]⟩:=by have:=aTP (f:=Cf 0 9) aX [] 0;rw[rV,Rw]at this;rw[G,U];exact this
 have eH:({p with held:=[],fU:=0,fN:=B0 [MN] t p.fN Jh}:c0)={p with fN:=B0 [MN] t p.fN Jh}:=by cases p;dsimp only at G U;subst G;subst U;rfl
 rw[RC,if_neg aZ,QS,SI,e,Rz];show(DE {p with held:=[],fU:=0,fN:=B0 [MN] t p.fN Jh} t,(0:Int))=_;rw[eH]
def u2:Nat->c0
 |0=>aBo 0
 |k+1=>Rz (1+6*(k:Int)) (u2 k)
def O3:c0:=DE {u2 10 with aL:=QN (u2 10).aL 0 (-1)} 60
def Sm:c0:=DE O3 61
def SH:c0:=sK {Sm with aC:=wK k4.bO Sm.b1 H6 Sm.aC 0 0 61} 4 0 0
def Ka:c0:=DE SH 62
def MM:c0:=sK {Ka with aC:=xK k4.bO Ka.b1 H6 Ka.aC 1 62} 5 Ka.aC.eR 1
def VQ:c0:=DE MM 63
def aTS:zE (u2 10).aL [0] 3 0 (-1)=0:=by kernel_rfl
def aUp:tM k4.bO Sm.b1 H6 Sm.aC 0 0 61=0:=by kernel_rfl
def aTv:r6 k4.bO Ka.b1 H6 Ka.aC 1 62=0:=by kernel_rfl
def aTL:xD k4.bO VQ.b1 H6 VQ.aC (wW k4 VQ) 63=0:=by kernel_rfl
def a1H:List cY:=LF k4.bO VQ.b1 H6 VQ.aC (wW k4 VQ) 63
def a1I:List cH:=MC k4.bO VQ.b1 H6 VQ.aC (wW k4 VQ) 63
def aDv:a1H.length=1/\(a1H.getD 0 default).off=false:=⟨by kernel_rfl,by kernel_rfl⟩
def aHh:a1I.length=1/\(a1I.getD 0 default).dZ=true:=⟨by kernel_rfl,by kernel_rfl⟩
def a0m: ∀k,(u2 k).held=[]/\(u2 k).fU=0
 |0=>⟨rfl,rfl⟩
 |k+1=>by
  have h:=a0m k
  rw[u2,Rz,<-QS]
  have e:=aWB (g:=k4) (p:={u2 k with fN:=B0 [MN] (1+6*(k:Int)) (u2 k).fN Jh}) (1+6*(k:Int))
  exact⟨e.held.trans h.1,e.fU.trans h.2⟩
def aJp: ∀k:Nat,(u2 k).time<=6*(k:Int)/\0<=(u2 k).time
 |0=>⟨by decide,by decide⟩
 |k+1=>by
  rw[u2,Rz,<-QS,a0h]
  omega
def aE1(k:Nat)(Y:k<100):RC k4 (u2 k) (Cd 0 9) (1+6*(k:Int))=(u2 (k+1),0):=by have gJ:=aJp k;exact aZo (a0m k).1 (a0m k).2 (by rw[sJ];omega)
def aJF:N7 k4 (u2 10) 0 (-1) 60=(O3,0):=by have gJ:=aJp 10;rw[N7,if_neg (by rw[sJ];omega),if_neg (by rw[show zE (u2 10).aL k4.c4 k4.cV 0 (-1)=0 from aTS];decide),QS];rfl
def aTu:O3.time=60:=by rw[O3,<-QS,a0h]
def aGh:N3 k4 O3 0 0 61=(SH,0):=by rw[N3,if_neg (by rw[sJ,aTu];decide)];dsimp only;rw[QS,a1s,show tM k4.bO (DE O3 61).b1 H6 (DE O3 61).aC 0 0 61=0 from aUp,if_neg aX];rfl
def aZJ:SH.time=61:=by show(DE O3 61).time=61;rw[<-QS,a0h]
def aHL:NX k4 SH 1 62=(MM,0):=by rw[NX,if_neg (by rw[sJ,aZJ];decide)];dsimp only;rw[QS,a1s,show r6 k4.bO (DE SH 62).b1 H6 (DE SH 62).aC 1 62=0 from aTv,if_neg aX];rfl
def aZd:MM.time=62:=by show(DE SH 62).time=62;rw[<-QS,a0h]
def aXV:(OV k4 MM 63).2=0/\(OV k4 MM 63).1.b1=a1H/\(OV k4 MM 63).1.aL=a1I:=by rw[OV,if_neg (by rw[sJ,aZd];decide)];dsimp only;rw[QS,a1s,show xD k4.bO (DE MM 63).b1 H6 (DE MM 63).aC (wW k4 (DE MM 63)) 63=0 from aTL,if_neg aX];exact BJ
section
attribute [local irreducible] cO dG dP aM cI dR fA e2 e5 fB eQ e9 J.L
structure aQ0(f:jG)(n:Nat):Prop where
 KW:1<=n/\n<=3
 aL:f.b6.l=QV n
 c4:f.b0.l=[(n:Int)-1]
 cV:f.eB=3
def aTg(c:Nat)(x:bP Int)(k:Nat)(R:aP)(K:nL x R)(Y:k<=x.l.length):
 aM prog 43 [.pointer (some ⟨c,0,none⟩)].toArray [hI c x k] R
  (λv E R'=>∃(s:dY) (len rN cM:Int) (f:jG) (n c3:Nat),v=.tuple #[s.val,f.val]/\Hb s len rN cM/\aQ0 f n/\(c3<=x.l.length/\(x.l.length<=k->len=1/\rN=1/\cM=1/\n=1/\c3=k))/\(BN s R'/\pY f R'/\∀r∈R,aN r R')/\hI c x c3::[]=E):=by refine aM.aN5 (aUu c x k R K Y) ?_;rintro v E R' c w ⟨s,len,rN,cM,aL,c4,n,c3,rfl,c6,⟨wT,Lo⟩,bA,qB,vT,Z0,⟨aF,b8⟩,rfl⟩ cW;have G:=cW.ZI (eE:=[]) wT bH aX eW;have U:=G.ZI (eE:=[]) Lo bH aX eW;have aO:∀r∈R',aN r (dW c4.W::wA aL.W::R'):=λr O=>aU (.tail _ (.tail _ O));exact⟨_,_,U,s,len,rN,cM,⟨aL.W,c4.W,3⟩,n,c3,rfl,c6,⟨bA,qB,vT,rfl⟩,Z0,⟨aF.mono aO,⟨aU (.tail _ (.head _)),aU (.head _)⟩,λr O=>(b8 r O).mono aO⟩,rfl⟩
end
section
def a0t(h:A->B:=by exact aA NP rfl):=h
abbrev aTz:jG:=⟨⟨none,0,QV 1⟩,⟨none,0,[0]⟩,3⟩
attribute [local irreducible] DE u2 O3 SH MM
def aXD:Inv k4 (aBo 0):=aHj (s:=a0T 1 1 1) (f:=aTz) (A:=[true,true]) aQ aXr
def Zt: ∀k,k<=100->Inv k4 (u2 k)
 |0,_=>by rw[u2];exact aXD
 |k+1,h=>by
  have e:=congrArg Prod.fst (aE1 k D)
  have:=(Zt k D).b0l (b:=Cd 0 9) (aJk ⟨by decide,by decide⟩ ⟨by decide,by decide⟩) (1+6*(k:Int))
  rw[e]at this;exact this
def aKJ:Inv k4 O3:=by have:=(Zt 10 aX).aZU 0 (-1) 60;rw[aJF]at this;exact this
def aKI:Inv k4 SH:=by have:=aKJ.aZV 0 0 61;rw[aGh]at this;exact this
def aXN:Inv k4 MM:=by have:=aKI.b0b 1 62;rw[aHL]at this;exact this
attribute [local irreducible] cO dG dP aM cI dR fA e2 e5 fB eQ e9 J.L
def aI5(L:aW)(R:aP):aM prog 17 ([]:List Value).toArray L R (λv E R'=>v=.bool true/\L=E/\R=R'):=by
 refine cX 81 call17 func17 rfl rfl rfl ?_;apply E8∘j6;refine a5f 1 ?_;apply(e1);refine dN rfl (aKi ⟨none,0,[]⟩ _ _ ⟨aU (.head _),λi q bZ=>by simp at bZ⟩) rfl ?_;rintro v E R' ⟨c,rfl,K,rfl,rfl⟩;refine dN rfl (aM.a3w (.MJ .aC) (aTg c _ 0 _ K (rW _))) rfl ?_;rintro v E R' ⟨_,rfl,s,len,rN,cM,f,n,g8,rfl,c6,vO,⟨g6,SQ⟩,⟨aF,aH,Kh⟩,rfl⟩;refine aA jE rfl ?_;apply(OG);intro fT;apply(dO);intro eN;apply l5∘J4;obtain⟨rfl,rfl,rfl,rfl,_⟩:=SQ (rW _);have Eb:∀r∈R,aN r R':=λr O=>Kh r (.tail _ (.tail _ O));obtain⟨A,hD⟩:=a69 s.c2.aE;refine sN (E:=⟨eN,f.cells,120⟩::⟨fT,s.cells,117⟩::L) (a3M _ _) eX ?_;have bV:=aWh (f:=f) c6 vO.KW vO.aL vO.c4 vO.cV;have hP:=aHj (A:=A) bV hD;apply(e1);refine aA EC rfl ?_;refine aA qW rfl ?_;refine dN rfl (aXe s f A _ _ aF aH hD) rfl ?_;rintro v E R' ⟨x,pD,rfl,zU,PQ,_,rfl,rfl⟩;rw[bV];have K:=PQ bV;rw[aXn c6 vO.aL]at K;have b5b:n7 k4 (u2 0) x:=by rw[u2];exact{K with bO:=K.bO.trans (aR1 c6),c4:=K.c4.trans vO.c4,cV:=K.cV.trans vO.cV}
 refine aA jE rfl ?_;apply(OG);intro e4;apply E7∘U2∘pG;refine aJ ?_ ?_<;>intro bI;·
  apply(RT);refine kN (E:=L) (R':=R) (qI rfl EE) ?aG ?b3 ?b8;case aG=>exact absurd bI eY
  case b3=>exact bC
  case b8=>exact λr O=>(Eb r O).mono λr O=>aU (kE _ O)
 apply k5∘pR;refine e3 [(3,.pointer _),(5,.int _ _)] cB λg9=>?_;refine m6 ([5]++dJ 19 11) ((⟨λg=>[(5,.int .i64 (1+6*((g.1.1:Nat):Int)))],λg=>⟨e4,g.1.2.1.cells,132⟩::L,λg=>g.1.2.2,λg=>10-g.1.1⟩:e0 {g:Nat×dS×aP//g.1<=10/\n7 k4 (u2 g.1) g.2.1/\EW g.2.1 g.2.2/\∀r∈R,aN r g.2.2})) (⟨(0,x,pD++R'),by dsimp only;omega,b5b,zU,λr O=>(Eb r O).mono λr O=>aU (kE _ O)⟩) ?_;rintro⟨⟨k,u,S⟩,Y,cZ,aAH,mA⟩ c1;try dsimp only
 dsimp only at Y cZ aAH mA;apply nR∘nD;refine aJ ?_ ?_<;>intro cK;·have b08:=Zt k D;have cW:=aE1 k D;have yJ:=a0m k;refine gG (bY (cC (iH ?_)));refine jV M [29] [0,2,1,3,4,5,6] [7] ([bQ.mk e4 _ _]) _ mixed aQ bC (by(repeat(first|apply List.Sublist.cons (a:=bQ.mk e4 _ _)|apply List.Sublist.cons_cons));exact oU _) ?_;refine fE NP rfl rfl rfl rfl ?_;apply(DY);refine mW rfl (aWH 0 9 _ _ ⟨by decide,by decide⟩ ⟨by decide,by decide⟩) rfl rfl ?_;rintro v E R' ⟨q,rfl,eZ,a2L,aLn,rfl⟩;refine⟨bC,hC,?_⟩;refine mW rfl (aXX k4 (u2 k) u q (1+6*(k:Int)) _ _ b08 cZ (aAH.mono aLn) a2L (by rw[eZ];exact aJk ⟨by decide,by decide⟩ ⟨by decide,by decide⟩) (by rw[eZ,Cd,a6n];show(2:Nat)+6<=_;decide) (by rw[yJ.2];decide)) rfl rfl ?_;rintro v E R' ⟨w,Zm,rfl,cE,b48,rfl,rfl⟩;refine⟨bC,hC,?_⟩;rw[eZ,cW]at cE;refine fE jE rfl rfl rfl rfl ?_;refine fE z6 rfl rfl rfl rfl ?_;refine p4 z6 rfl rfl rfl rfl ?_;apply FB∘KV∘Cp;exact eG ⟨(k+1,w,_),by dsimp only;omega,cE,b48,λr O=>((mA r O).mono aLn).mono λr O=>aU (kE _ O)⟩
 obtain rfl:k=10:=by omega
 apply oS∘a0t;refine dN rfl (aW4 k4 (u2 10) u 0 (-1) 60 _ _ (Zt 10 aX) cZ aAH) rfl ?_;rintro v E R' ⟨pN,Zn,rfl,A3,b44,rfl,rfl⟩;rw[aJF]at A3;refine aA jE rfl ?_;apply Y3∘p6∘a0t;refine dN rfl (aTJ k4 O3 pN 0 0 61 _ _ aKJ A3 b44) rfl ?_;rintro v E R' ⟨fJ,b7J,rfl,sW,b45,rfl,rfl⟩;rw[aGh]at sW;refine aA jE rfl ?_;apply Y3∘p6∘a0t;refine dN rfl (aUt k4 SH fJ 1 62 _ _ aKI sW b45) rfl ?_;rintro v E R' ⟨jH,b7K,rfl,aM1,b46,rfl,rfl⟩;rw[aHL]at aM1;refine aA jE rfl ?_;apply Y3∘p6∘a0t;refine dN rfl (aTM k4 MM jH 63 _ _ aXN aM1 b46) rfl ?_;rintro v E R' ⟨x2,b7L,rfl,aM2,aM3,rfl,rfl⟩;refine aA jE rfl ?_;apply Y3∘E7∘j6;obtain⟨dH,eH,nS⟩:=aXV;rw[dH];have jO:x2.b1.l=a1H:=aM2.b1.trans eH;have qB:x2.fP.b6.l=a1I:=aM2.aL.trans nS;have MT:x2.b1.l.length=1:=by rw[jO];exact aDv.1
 have IZ:x2.fP.b6.l.length=1:=by rw[qB];exact aHh.1
 have AY:=bR (l:=x2.b1.l) (k:=0) default D;have S6:=bR (l:=x2.fP.b6.l) (k:=0) default D;have aLT:(x2.b1.l.getD 0 default).off=false:=by rw[jO];exact aDv.2
 have HH:(x2.fP.b6.l.getD 0 default).dZ=true:=by rw[qB];exact aHh.2
 obtain⟨aKB,xP⟩:∃aKB,aKB=x2.b1.l.getD 0 default:=⟨_,rfl⟩;obtain⟨aOj,KM⟩:∃aOj,aOj=x2.fP.b6.l.getD 0 default:=⟨_,rfl⟩;rw[<-xP]at AY aLT;rw[<-KM]at S6 HH;have PK:=aM3.b1;have pK:=aM3.fP.aL;apply nP∘BQ;apply lR (aD:=[_,_,_,_]) (j:=2) (b4:=52) rfl rfl aK rfl b2 rfl;·intro iM;replace iM:=cP iM;exact(jM) Bf
 intro o7;apply(fD);apply lR (aD:=[_,_,_,_,_,_]) (j:=8) (b4:=58) rfl rfl aK rfl b2 rfl;·intro h7;replace h7:=cP h7;exact(gB∘Vr∘tG) QC
 intro zV;apply(fD);apply lR (aD:=[_,_,_,_,_]) (j:=16) (b4:=66) rfl rfl aK rfl b2 rfl;·intro ZW;replace ZW:=cP ZW;exact(xG) Bf
 intro aNe;apply(fD);apply lR (aD:=[_,_,_,_,_,_]) (j:=23) (b4:=73) rfl rfl aK rfl b2 rfl;·intro ZX;replace ZX:=cP ZX;exact(GQ∘Vr∘tG) iA
 intro bAu;apply(sP);refine kN (E:=L) (R':=R) (qI rfl EE) ?aG ?b3 ?b8;case aG=>exact⟨by simp[aLT,HH,MT,IZ],rfl,rfl⟩
 case b3=>exact bC
 case b8=>exact λr O=>(mA r O).mono λr O=>aU sF
end
section
variable{P:Program}{aV:Operand->Value}{L:aW}{R:aP}{dst:Option Tmp}{ty:TypeId}{pos:String}{after:Array Edge}{guard:Option (Nat×Bool)}(M:nN P){T hN:TypeId}{x y:Operand}
def Y8{hZ:iD}(h:FF P T=some hZ)(Y:hZ.k=.string):P.underlying T=some .string:=by obtain⟨i,u,z,aB,cZ,dI,rfl⟩:=E0 h;cases u<;>simp[BL]at Y;rw[cZ]
end
end Go.Proofs.YtdiajbdaadlfhaaGreatDoor
