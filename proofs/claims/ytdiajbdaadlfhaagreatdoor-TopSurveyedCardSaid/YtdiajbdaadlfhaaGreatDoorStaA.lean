/-
  Merged texts. By an AI agent.
-/
import Derived.Test.YtdiajbdaadlfhaaGreatDoorData
import Derived.Test.YtdiajbdaadlfhaaGreatDoorAppR
import Derived.Test.YtdiajbdaadlfhaaGreatDoorWinR
import Derived.Test.YtdiajbdaadlfhaaGreatDoorSiteD
import Derived.Test.YtdiajbdaadlfhaaGreatDoorFits
set_option linter.all false
set_option maxHeartbeats 4000000
set_option maxRecDepth 20000
variable{A B:Prop}
namespace Go.Proofs.YtdiajbdaadlfhaaGreatDoor
open Go.Aw Go Go.Proofs.Tryz
def a0v(x:Int)(k:Nat):Int:=x/2^k%2
def a0u(a b:Int):Int:=((a.toNat^^^b.toNat:Nat):Int)
def Is(r b:Int):Int:=if r/32768=b then 2*r%65536 else a0u (2*r%65536) 4129
def RG(r x:Int):Nat->Int
 |0=>r
 |k+1=>Is (RG r x k) (a0v x (7-k))
def a40(r x:Int):Int:=RG r x 8
def pZ(l:List Int):Int:=l.foldl a40 65535
def NU(r:Int):Prop:=0<=r/\r<65536
def aVr{r:Int}(b:Int)(h:NU r):NU (Is r b):=by
 obtain⟨G,U⟩:=h;have a1:0<=2*r%65536/\2*r%65536<65536:=by omega
 rw[Is];split;·exact a1
 ·refine⟨Int.natCast_nonneg _, ?_⟩;have:(2*r%65536).toNat^^^(4129:Int).toNat<2^16:=Nat.xor_lt_two_pow D aX;rw[a0u];omega
def a1i{r:Int}(x:Int)(h:NU r): ∀k,NU (RG r x k)
 |0=>h
 |k+1=>aVr _ (a1i x h k)
def aIU: ∀(l:List Int) {r:Int},NU r->NU (l.foldl a40 r)
 |[],_,h=>h
 |x::l,_,h=>aIU l (a1i x h 8)
def a07(l:List Int):NU (pZ l):=aIU l ⟨by decide,by decide⟩
def aDh{l:List Int}{k:Nat}{x:Int}(h:l[k]?=some x):pZ (l.take (k+1))=a40 (pZ (l.take k)) x:=by rw[BA,h,pZ,NM];rfl
structure xE where
 hW:Int
 kind:Int
 data:List Int
 deriving DecidableEq,Inhabited
def z8(l:List Int):Prop:=l.getD 0 0≠126\/(1<l.length/\64<l.getD 1 0)
instance(l:List Int):Decidable (z8 l):=by unfold z8;exact inferInstance
def y0(l:List Int):Prop:=(l.length:Int)<2\/(l.length:Int)<l.getD 1 0+6
instance(l:List Int):Decidable (y0 l):=by unfold y0;exact inferInstance
def lM(l:List Int):Nat:=(l.getD 1 0).toNat
def LY(l:List Int):Int:=l.getD (4+lM l) 0*256+l.getD (5+lM l) 0
def HZ(l:List Int):List Int:=(l.take (4+lM l)).drop 1
def Hz(l:List Int):xE:=⟨l.getD 2 0,l.getD 3 0,(l.take (4+lM l)).drop 4⟩
structure aI0 where
 held:List Int
 fU:Int
 c9:List xE
 deriving DecidableEq,Inhabited
def kV(l:List Int)(d:Int):aI0:=
 if aZ:l=[]then⟨[],d,[]⟩
 else if z8 l then kV l.tail (d+1)
 else if y0 l then⟨l,d,[]⟩
 else if pZ (HZ l)≠LY l then kV l.tail (d+1)
 else⟨(kV (l.drop (lM l+6)) d).held,(kV (l.drop (lM l+6)) d).fU,Hz l::(kV (l.drop (lM l+6)) d).c9⟩
termination_by l.length
decreasing_by
 all_goals have:=List.length_pos_iff.2 aZ
 all_goals simp only[My,F8];omega
def Rw(d:Int):kV [] d=⟨[],d,[]⟩:=by rw[kV,dif_pos rfl]
def Bp{l:List Int}{d:Int}(h:l≠[])(G:z8 l\/(¬y0 l/\pZ (HZ l)≠LY l)):kV l d=kV l.tail (d+1):=by
 rw[kV,dif_neg h];split;·rfl
 ·
  rename_i U;rcases G with G|⟨aO,bW⟩;·exact absurd G U
  ·rw[if_neg aO,if_pos bW]
def Yk{l:List Int}{d:Int}(h:l≠[])(G:¬z8 l)(U:y0 l):kV l d=⟨l,d,[]⟩:=by rw[kV,dif_neg h,if_neg G,if_pos U]
def Qu{l:List Int}{d:Int}(h:l≠[])(G:¬z8 l)(U:¬y0 l)(aO:pZ (HZ l)=LY l):kV l d=⟨(kV (l.drop (lM l+6)) d).held,(kV (l.drop (lM l+6)) d).fU,Hz l::(kV (l.drop (lM l+6)) d).c9⟩:=by rw[kV,dif_neg h,if_neg G,if_neg U,if_neg (by rw[aO];exact λh=>h rfl)]
def uB(l:List Int):Prop:=∀x∈l,0<=x/\x<=255
def uB.at{l:List Int}(h:uB l)(i:Nat):0<=l.getD i 0/\l.getD i 0<=255:=by
 rcases gX i l.length with aB|aB;·exact h _ (hS (bR (l:=l) (k:=i) 0 aB))
 ·rw[lN,u1 aB];decide
def aG4{l:List Int}(h:uB l)(U:¬y0 l):lM l+6<=l.length/\((lM l:Nat):Int)=l.getD 1 0:=by have:=h.at 1;rw[y0]at U;rw[lM];omega
def AA(f:xE):List Int:=126::(f.data.length:Int)::f.hW::f.kind::f.data
def xI(f:xE):List Int:=AA f++[pZ (AA f).tail/256,pZ (AA f).tail%256]
def a6n(f:xE):(xI f).length=f.data.length+6:=by simp[xI,AA]
def aTP{f:xE}(h:f.data.length<=64)(r:List Int)(d:Int):kV (xI f++r) d=⟨(kV r d).held,(kV r d).fU,f::(kV r d).c9⟩:=by
 have e:xI f++r=126::(f.data.length:Int)::f.hW::f.kind::(f.data++(pZ (AA f).tail/256::pZ (AA f).tail%256::r)):=by simp[xI,AA]
 have sU:(xI f++r).length=f.data.length+6+r.length:=by rw[hL,a6n]
 have g1:(xI f++r).getD 1 0=(f.data.length:Int):=by rw[e];rfl
 have a1G:lM (xI f++r)=f.data.length:=by rw[lM,g1];rfl
 have jC:xI f++r≠[]:=by rw[e];simp
 have G:¬z8 (xI f++r):=by
  rw[z8,g1];have:(xI f++r).getD 0 0=126:=by rw[e];rfl
  omega
 have U:¬y0 (xI f++r):=by rw[y0,g1,sU];omega
 have aT:HZ (xI f++r)=(AA f).tail:=by rw[HZ,a1G,e,Mq 4];show((126::(f.data.length:Int)::f.hW::f.kind::List.take f.data.length (f.data++_)):List Int).drop 1=_;rw[a3O (gS _),BB];rfl
 have a7:Hz (xI f++r)=f:=by rw[Hz,a1G,e,Mq 4];show(⟨f.hW,f.kind,List.take f.data.length (f.data++_)⟩:xE)=f;rw[a3O (gS _),BB]
 have bU:LY (xI f++r)=pZ (AA f).tail:=by
  have hO:(xI f++r).getD (4+f.data.length) 0=pZ (AA f).tail/256:=by rw[e,Mq 4];show(f.data++_).getD f.data.length 0=_;rw[lN,XQ (gS _),Wj];rfl
  have a2:(xI f++r).getD (5+f.data.length) 0=pZ (AA f).tail%256:=by rw[e,show 5+f.data.length=f.data.length+1+4 by omega];show(f.data++_).getD (f.data.length+1) 0=_;rw[lN,XQ D,Nat.add_sub_cancel_left];rfl
  rw[LY,a1G,hO,a2];omega
 have O:(xI f++r).drop (f.data.length+6)=r:=by rw[<-a6n f,List.drop_left]
 rw[Qu jC G U (by rw[aT,bU]),a1G,O,a7]
structure fO where
 time:Int
 kind:Int
 target:Int
 value:Int
 deriving DecidableEq,Inhabited
def fO.cells(x:fO):List Value:=[.int .i64 x.time,.int .i64 x.kind,.int .i64 x.target,.int .i64 x.value]
abbrev kO(x:bP fO):eT:=x.eJ 4 fO.cells []
structure c0 where
 time:Int
 held:List Int
 fU:Int
 fN:List e6
 gR:List gW
 b1:List cY
 aL:List cH
 aC:k8
 gN:List fO
structure mZ where
 bO:dY
 c4:List Int
 cV:Int
 c2:List Bool
def Ps(S:List g0)(kind target:Int):Option Nat:=(List.range S.length).find? λi=>decide ((S.getD i default).kind=kind/\(S.getD i default).target=target)
def ES(S:List g0)(m:List e6)(t kind target n:Int):Int:=
 match Ps S kind target with
 |none=>-1
 |some i=>if(GM S m (i:Int) t).bJ=(GM S m (i:Int) t).bN/\0<=(GM S m (i:Int) t).bJ/\(GM S m (i:Int) t).bJ<n then(GM S m (i:Int) t).bJ else -1
def aIi(S:List g0)(m:List e6)(t kind target n:Int)(bA:0<=n):-1<=ES S m t kind target n/\(ES S m t kind target n<n\/ES S m t kind target n= -1):=by
 rw[ES];split;·omega
 ·split<;>omega
def GC(s:dY)(m:List e6)(t:Int)(k:Nat):List Int:=(List.range k).map λ(i:Nat)=>ES s.e8.l m t 5 (i:Int) 3
def JZ(s:dY)(m:List e6)(t:Int)(k:Nat):List Int:=(List.range k).map λ(i:Nat)=>ES s.e8.l m t 6 (i:Int) ((s.c2.a8.l.getD i default).hY.l.length:Int)
def RJ(s:dY)(m:List e6)(t:Int):Pk:=(GC s m t s.c2.bD.l.length,JZ s m t s.c2.a8.l.length)
def L9(s:dY)(A:List Bool)(m:List e6)(t:Int):List bG:=(Q9 (VS s.c2 A (RJ s m t)) sX 3 s.e8.l m t).c9
def aWp(s:dY)(m:List e6)(t:Int)(k:Nat):GC s m t (k+1)=GC s m t k++[ES s.e8.l m t 5 (k:Int) 3]:=by rw[GC,a3W,CO];rfl
def aU4(s:dY)(m:List e6)(t:Int)(k:Nat):JZ s m t (k+1)=JZ s m t k++[ES s.e8.l m t 6 (k:Int) ((s.c2.a8.l.getD k default).hY.l.length:Int)]:=by rw[JZ,a3W,CO];rfl
def a4S(s:dY)(m:List e6)(t:Int)(k:Nat):(GC s m t k).length=k:=by simp[GC]
def a6h(s:dY)(m:List e6)(t:Int)(k:Nat):(JZ s m t k).length=k:=by simp[JZ]
def aEW{s:dY}(m:List e6)(t:Int):mP s.c2 (Ag (RJ s m t))=true:=by
 refine aFD ⟨a4S ..,a6h ..,λi x K=>?_,λi x d K a7=>?_⟩;·have K:(GC s m t s.c2.bD.l.length)[i]? =some x:=K;rw[GC,pW]at K;obtain⟨aB,-⟩:=List.getElem?_eq_some_iff.1 (show(GC s m t s.c2.bD.l.length)[i]?=some x from by rw[GC,pW];exact K);rw[a4S]at aB;rw[P8 aB]at K;have e:=uA K;have:=aIi s.e8.l m t 5 (i:Int) 3 aX;dsimp only at e;rw[<-e];omega
 ·have K:(JZ s m t s.c2.a8.l.length)[i]? =some x:=K;obtain⟨aB,-⟩:=List.getElem?_eq_some_iff.1 K;rw[a6h]at aB;rw[JZ,pW,P8 aB]at K;have e:=uA K;have bE:=getD_some (d:=default) a7;have:=aIi s.e8.l m t 6 (i:Int) ((s.c2.a8.l.getD i default).hY.l.length:Int) D;rw[bE]at this;dsimp only at e;rw[<-e,bE];omega
def UQ(l:List fO)(e:fO):List fO:=(l++[e]).drop (l.length+1-400)
def aVU{l:List fO}(e:fO):(UQ l e).length<=400:=by rw[UQ,F8,hL];simp;omega
def sK(p:c0)(kind target value:Int):c0:={p with gN:=UQ p.gN ⟨p.time,kind,target,value⟩}
def CV(g:mZ)(p:c0)(z:Int):c0:=
 let hF:=sK p 1 z (p.b1.getD z.toNat default).n4
 let s:=g.c4.getD z.toNat 0
 let dQ:c0:={hF with aL:=uL p.aL s p.time}
 if(p.aL.getD s.toNat default).dZ=true then sK dQ 2 s 0 else dQ
def IB(g:mZ)(p:c0)(l:List Int):c0:=l.foldl (CV g) p
def ET(kind:Int)(p:c0)(l:List Int):c0:=l.foldl (λp x=>sK p kind x 0) p
def a5X(g:mZ)(aL:List cH)(z:Nat):Bool:=(DG aL g.c4 g.cV (g.c4.getD z 0)).any λk=>!(aL.getD k.toNat default).dZ||decide ((aL.getD k.toNat default).hQ= -1)
def QZ(g:mZ)(dX:List Int)(p:c0)(z:Nat):c0:=
 if(p.b1.getD z default).off=true\/a5X g p.aL z=false then p
 else CV g {p with b1:=p.b1.set z ⟨true,(p.b1.getD z default).clear,EO (g.bO.b0.l.getD z default).mB.l dX⟩} (z:Int)
def sT(g:mZ)(dX:List Int)(p:c0):Nat->c0
 |0=>p
 |k+1=>QZ g dX (sT g dX p k) k
def Hx(c:List cY)(r:k8):Prop:=r.eR= -1\/((0<=r.eR/\r.eR<c.length)/\(c.getD r.eR.toNat default).off=true/\(c.getD r.eR.toNat default).clear≠-1)
instance(c:List cY)(r:k8):Decidable (Hx c r):=by unfold Hx;infer_instance
def u5(c:List cY)(r:k8):k8:=if Hx c r then r else HN
def iR(g:mZ)(p:c0):List bG:=L9 g.bO g.c2 p.fN p.time
def v8(g:mZ)(p:c0):List Int:=NG g.bO p.fN p.gR (iR g p) p.time
def iO(g:mZ)(p:c0):c0:=
 IB g {p with gR:=w2 g.bO p.fN p.gR (iR g p) p.time,b1:=wO g.bO (v8 g p) p.b1 p.time} (G1 g.bO (v8 g p) p.b1 p.time)
def TQ(g:mZ)(p:c0):c0:=
 ET 2 (ET 3 {p with aC:=u5 p.b1 p.aC,aL:=(xC p.aL g.cV p.time).aL} (xC p.aL g.cV p.time).dL) (xC p.aL g.cV p.time).Ak
def cU(g:mZ)(rC:c0)(t:Int):c0:=
 let p:={rC with time:=t}
 let q:=TQ g (iO g p)
 sT g (v8 g p) q q.b1.length
def sJ(p:c0)(t:Int):Prop:=t<p.time\/2147483648<t
instance(p:c0)(t:Int):Decidable (sJ p t):=by unfold sJ;infer_instance
def CX(S:List g0)(iZ:Int):Int:=(((List.range S.length).find? λi=>decide ((S.getD i default).hW=iZ)).map Int.ofNat).getD (-1)
structure Inv(g:mZ)(p:c0):Prop where
 bO:o0 g.bO=0
 MD:mU g.bO.c2.aE g.c2
 time:0<=p.time/\p.time<=2147483648
 fN:p.fN.length=g.bO.e8.l.length
 Ah:∀x∈p.fN,H4 x
 Mm:p.gR.length=g.bO.h2.l.length
 Mn:∀w∈p.gR,RQ w/\w.wV<=p.time
 MI:p.b1.length=g.bO.b0.l.length
 KD:lA p.aL g.c4 g.cV=0
 fY:∀x∈p.aL,x.fY<=p.time
 Nr:g.c4.length=g.bO.b0.l.length
 aC:0<=p.aC.time/\(p.aC.eR= -1\/(0<=p.aC.eR/\p.aC.eR<p.b1.length))
 gN:p.gN.length<=400
 held:uB p.held/\p.held.length<=70
section
variable{g:mZ}{p:c0}
def Inv.Gf(h:Inv g p):Q5 g.bO:=VB h.bO
def Inv.Ss(h:Inv g p):aDe p.aL g.c4 g.cV:=L1 h.KD
def Inv.c2(h:Inv g p):h4 g.bO.c2=0:=h.Gf.c2
def Inv.aBE(h:Inv g p):L7 p.aL p.time:=⟨h.time,h.fY⟩
def Inv.at(h:Inv g p){t:Int}(G:p.time<=t)(U:t<=2147483648):Inv g {p with time:=t}:=
 {h with time:=⟨by have:=h.time;dsimp only;omega,U⟩,Mn:=λw cE=>⟨(h.Mn w cE).1,by have:=(h.Mn w cE).2;dsimp only;omega⟩,fY:=λx K=>by have:=h.fY x K;dsimp only;omega}
def Inv.FY(h:Inv g p)(kind target value:Int):Inv g (sK p kind target value):={h with gN:=by show(UQ p.gN _).length<=400;exact aVU _}
def Inv.a3x(h:Inv g p){aL:List cH}(k:u4 p.aL aL p.time):Inv g {p with aL:=aL}:=
 {h with KD:=k.lA h.KD h.time,fY:=(k.time h.aBE).2}
def Inv.cut(h:Inv g p)(z:Int):Inv g (CV g p z):=by
 have G:=h.FY 1 z (p.b1.getD z.toNat default).n4;have U:=G.a3x (aL:=uL p.aL (g.c4.getD z.toNat 0) p.time) ((u4.refl h.KD p.time).a3o _);rw[CV];split;·exact U.FY _ _ _
 ·exact U
def aF5: ∀(l:List Int) {p:c0},Inv g p->Inv g (IB g p l)
 |[],_,h=>h
 |z::l,_,h=>aF5 l (h.cut z)
def Inv.b1(h:Inv g p)(l:List Int):Inv g (IB g p l):=aF5 l h
def aEQ(kind:Int): ∀(l:List Int) {p:c0},Inv g p->Inv g (ET kind p l)
 |[],_,h=>h
 |z::l,_,h=>aEQ kind l (h.FY kind z 0)
def Inv.Vi(kind:Int)(h:Inv g p)(l:List Int):Inv g (ET kind p l):=aEQ kind l h
def aGX(z:Int):(CV g p z).b1=p.b1:=by rw[CV];split<;>rfl
def Inv.b0m(h:Inv g p):(iR g p).length=g.bO.c2.aE.Z.l.length:=by rw[iR,L9,Q9,(aGt ..).1,VS];exact Ow h.c2 (aEW _ _) h.MD
def aVZ{S:List g0}{n:Nat}{c:rK}(h:LD S n c=0)(Y:c.kind=1):JN c.r9:=by
 rw[LD]at h;split at h;·omega
 split at h;·omega
 rw[QW]at h;split at h;·assumption
 ·omega
def Inv.a3C(h:Inv g p):tY g.bO p.fN p.gR (iR g p) p.time=0:=by
 have gJ:=h.time;rw[tY,if_neg (by rw[h.bO];decide),if_neg (by rw[h.fN,h.Mm,h.b0m];simp),if_neg D];have:(List.range p.gR.length).findSome? (λi=>yL (Jg (g.bO.h2.l.getD i default) (p.gR.getD i default) p.time))=none:=by
  rw[NK];intro i aB;rw[XO]at aB;have cE:=h.Mn _ (hS (bR (l:=p.gR) (k:=i) default aB));have bU:=h.Gf.cond _ (hS (bR (l:=g.bO.h2.l) (k:=i) default (by rw[<-h.Mm];exact aB)));rw[yL,if_pos];rw[Jg];split;·rename_i Y;exact aHa (aVZ bU Y) D cE.1
  ·rfl
 rw[this];rfl
def aUA(l:E6){w:gW}(x:bG){t:Int}(gJ:0<=t)(h:RQ w)(aZ:w.wV<=t):RQ (CZ l w x t)/\(CZ l w x t).wV<=t:=by
 obtain⟨G,U,aO,bW⟩:=h;rw[CZ];repeat' split
 all_goals refine⟨⟨gJ,?_,?_,?_⟩,oH _⟩
 all_goals dsimp only
 all_goals first|omega|exact .inl rfl|exact .inr rfl|(rcases bW with bW|bW;exact .inl bW;simp_all)
def Inv.b6S(h:Inv g p):(v8 g p).length=g.bO.h2.l.length:=by rw[v8,NG,if_neg (by rw[h.a3C];decide),pU,aCb,h.Mm]
def Inv.a1E(h:Inv g p):vL g.bO (v8 g p) p.b1 p.time=0:=by have gJ:=h.time;rw[vL,if_neg (by rw[h.bO];decide),if_neg (by rw[h.b6S,h.MI];simp),if_neg D]
def Inv.aOh(h:Inv g p):Inv g {p with gR:=w2 g.bO p.fN p.gR (iR g p) p.time,b1:=wO g.bO (v8 g p) p.b1 p.time}:=by
 have cE:(w2 g.bO p.fN p.gR (iR g p) p.time).length=p.gR.length:=by rw[w2,if_neg (by rw[h.a3C];decide),pU,aCb]
 have bU:(wO g.bO (v8 g p) p.b1 p.time).length=p.b1.length:=by rw[wO,if_neg (by rw[h.a1E];decide),pU,aCb]
 refine{h with Mm:=cE.trans h.Mm,Mn:=λw a1=>?_,MI:=bU.trans h.MI,aC:=by rw[bU];exact h.aC};have a1:w∈w2 g.bO p.fN p.gR (iR g p) p.time:=a1;rw[w2,if_neg (by rw[h.a3C];decide),List.mem_map]at a1;obtain⟨i,aB,rfl⟩:=a1;rw[XO]at aB;have cE:=h.Mn _ (hS (bR (l:=p.gR) (k:=i) default aB));show RQ (UR _ _ _ _ _)/\(UR _ _ _ _ _).wV<=p.time;rw[UR];split;·exact aUA _ _ h.time.1 cE.1 cE.2
 ·exact cE
def Inv.iO(h:Inv g p):Inv g (iO g p):=h.aOh.b1 _
def aEf(c:List cY)(r:k8)(h:0<=r.time):0<=(u5 c r).time/\((u5 c r).eR= -1\/(0<=(u5 c r).eR/\(u5 c r).eR<c.length)):=by
 rw[u5];split;·rename_i Y;rw[Hx]at Y;exact⟨h,Y.imp_right λh=>h.1⟩
 ·exact⟨by decide,.inl rfl⟩
def Inv.TQ(h:Inv g p):Inv g (TQ g p):=by have G:Inv g {p with aC:=u5 p.b1 p.aC}:={h with aC:=aEf _ _ h.aC.1};have U:=G.a3x (aL:=(xC p.aL g.cV p.time).aL) (a0K h.KD _ (gS _));exact(U.Vi 3 _).Vi 2 _
def Inv.b0e(h:Inv g p)(dX:List Int)(z:Nat):Inv g (QZ g dX p z):=by
 rw[QZ];split;·exact h
 ·refine Inv.cut (p:={p with b1:=p.b1.set z ⟨true,(p.b1.getD z default).clear,EO (g.bO.b0.l.getD z default).mB.l dX⟩}) ?_ _;exact{h with MI:=by show(p.b1.set _ _).length=_;rw[w3];exact h.MI,aC:=by show _/\(_\/(_/\_<((p.b1.set _ _).length:Int)));rw[w3];exact h.aC}
def Inv.sT(h:Inv g p)(dX:List Int): ∀k,Inv g (sT g dX p k)
 |0=>h
 |k+1=>(Inv.sT h dX k).b0e dX k
def Inv.settle(h:Inv g p){t:Int}(G:p.time<=t)(U:t<=2147483648):Inv g (cU g p t):=((h.at G U).iO.TQ).sT _ _
def aFZ(z:Int):(CV g p z).time=p.time:=by rw[CV];split<;>rfl
end
section
attribute [local irreducible] cO dG dP aM cI dR fA e2 e5 fB eQ e9 J.L
def Je(k:Int):Int:=if k=6 then 5 else if k=5 then 2 else 1
def Cj(s:g0)(r:Int):bG:=⟨s.offset+s.I5*r/1000-s.error,s.offset+ -((-(s.I5*r))/1000)+s.error⟩
def J3(s:g0)(r:Int):bG:=
 if vB s≠0\/¬(0<=r/\r<=65535)then sX
 else if 4<=s.kind then if Je s.kind<r then sX else⟨r,r⟩
 else if s.kind=1\/s.kind=2 then⟨max (Cj s r).bJ 0,max (Cj s r).bN 0⟩else Cj s r
def a5N{s:g0}(h:vB s=0):JL s:=by
 rw[vB]at h;split at h;·omega
 split at h;·assumption
 ·omega
def aFV{s:g0}{r:Int}(h:vB s=0)(O:0<=r/\r<=65535):-65535000000<=s.I5*r/\s.I5*r<=65535000000:=by have aF:=a5N h;rw[JL]at aF;have G:s.I5*r<=1000000*r:=a3K D O.1;have U:-1000000*r<=s.I5*r:=a3K D O.1;omega
end
def yY(S:List g0)(f:xE)(t:Int):Int:=
 if t<0\/2147483648<t then 8
 else if CX S f.hW<0\/vB (S.getD (CX S f.hW).toNat default)≠0 then 9
 else if f.kind≠1/\f.kind≠2 then 5
 else if f.kind=1/\f.data.length≠2\/f.kind=2/\f.data.length≠0 then 6 else 0
def Nw(S:List g0)(f:xE)(t:Int):e6:=
 ⟨CX S f.hW,t,if f.kind=1 then J3 (S.getD (CX S f.hW).toNat default) (f.data.getD 0 0*256+f.data.getD 1 0)else sX⟩
def B0(S:List g0)(t:Int)(m:List e6)(f:xE):List e6:=if yY S f t=0 then m.set (CX S f.hW).toNat (Nw S f t)else m
def SI(g:mZ)(p:c0)(b:List Int)(t:Int):c0:=
 {p with held:=(kV (p.held++b) p.fU).held,fU:=(kV (p.held++b) p.fU).fU,fN:=(kV (p.held++b) p.fU).c9.foldl (B0 g.bO.e8.l t) p.fN}
def RC(g:mZ)(p:c0)(b:List Int)(t:Int):c0×Int:=if sJ p t then(p,8)else(cU g (SI g p b t) t,0)
def N7(g:mZ)(p:c0)(s sh t:Int):c0×Int:=
 if sJ p t then(p,8)else if zE p.aL g.c4 g.cV s sh≠0 then(p,zE p.aL g.c4 g.cV s sh)else(cU g {p with aL:=QN p.aL s sh} t,0)
def N3(g:mZ)(p:c0)(Fz eR t:Int):c0×Int:=
 if sJ p t then(p,8)
 else
  let q:=cU g p t
  let e:=tM g.bO q.b1 (iR g q) q.aC Fz eR t
  if e≠0 then(sK q 7 eR e,e)else(sK {q with aC:=wK g.bO q.b1 (iR g q) q.aC Fz eR t} 4 eR Fz,0)
def NX(g:mZ)(p:c0)(Fz t:Int):c0×Int:=
 if sJ p t then(p,8)
 else
  let q:=cU g p t
  let e:=r6 g.bO q.b1 (iR g q) q.aC Fz t
  if e≠0 then(sK q 7 q.aC.eR e,e)else(sK {q with aC:=xK g.bO q.b1 (iR g q) q.aC Fz t} 5 q.aC.eR Fz,0)
def wW(g:mZ)(p:c0):jG:=⟨⟨none,0,p.aL⟩,⟨none,0,g.c4⟩,g.cV⟩
def OV(g:mZ)(p:c0)(t:Int):c0×Int:=
 if sJ p t then(p,8)
 else
  let q:=cU g p t
  let e:=xD g.bO q.b1 (iR g q) q.aC (wW g q) t
  if e≠0 then(sK q 7 q.aC.eR e,e)
  else(sK {q with aC:=N6 g.bO q.b1 (iR g q) q.aC (wW g q) t,b1:=LF g.bO q.b1 (iR g q) q.aC (wW g q) t,aL:=MC g.bO q.b1 (iR g q) q.aC (wW g q) t} 6 (yF (wW g q) q.aC.eR) 0,0)
def aVa{S:List g0}{iZ:Int}(h:¬CX S iZ<0):(CX S iZ).toNat<S.length/\0<=CX S iZ:=by
 rw[CX]at h|-;cases aH:(List.range S.length).find? (λi=>decide ((S.getD i default).hW=iZ))with
 |none=>rw[aH]at h;exact absurd aX h
 |some i=>have:=List.mem_of_find?_eq_some aH;rw[XO]at this;exact⟨this,Int.natCast_nonneg i⟩
def aSS(S:List g0)(t:Int)(m:List e6)(f:xE):(B0 S t m f).length=m.length:=by rw[B0];split<;>simp
def aXx{a t:Int}(gJ:0<=t/\t<=2147483648):H4 ⟨a,t,sX⟩:=⟨gJ,by show(-1125899906842624:Int)<= -1125899906842624/\(-1125899906842624:Int)<=1125899906842624;decide,by show(-1125899906842624:Int)<=1125899906842624/\(1125899906842624:Int)<=1125899906842624;decide⟩
def aIC(s:g0)(r:Int):(-1125899906842624<=(J3 s r).bJ/\(J3 s r).bJ<=1125899906842624)/\(-1125899906842624<=(J3 s r).bN/\(J3 s r).bN<=1125899906842624):=by
 rw[J3];split;·exact⟨by decide,by decide⟩
 rename_i h;have a1:=aFV (s:=s) (r:=r) D D;have aF:=a5N (s:=s) D;rw[JL]at aF;split;·
  split;·exact⟨by decide,by decide⟩
  ·dsimp only;omega
 split;·simp only[Cj];omega
 ·simp only[Cj];omega
def aYk{S:List g0}{t:Int}{m:List e6}(f:xE)(h:∀x∈m,H4 x):∀x∈B0 S t m f,H4 x:=by
 rw[B0];split;·
  rename_i V;intro x K;rcases List.mem_or_eq_of_mem_set K with K|rfl;·exact h x K
  ·
   have gJ:0<=t/\t<=2147483648:=by
    rw[yY]at V;split at V;·cases V
    ·omega
   rw[Nw];split;·exact⟨gJ,(aIC _ _).1,(aIC _ _).2⟩
   ·exact aXx gJ
 ·exact h
def a7V{S:List g0}{t:Int}: ∀(l:List xE) {m:List e6},(∀x∈m,H4 x)->(∀x∈l.foldl (B0 S t) m,H4 x)/\(l.foldl (B0 S t) m).length=m.length
 |[],m,h=>⟨h,rfl⟩
 |f::l,m,h=>by
  have:=a7V (S:=S) (t:=t) l (aYk (S:=S) (t:=t) f h)
  exact⟨this.1,this.2.trans (aSS ..)⟩
def aX4:∀(n:Nat) {l:List Int} (d:Int),l.length=n->uB l->(uB (kV l d).held/\(kV l d).held.length<=70)/\d<=(kV l d).fU/\(kV l d).fU<=d+n:=by
 intro n;induction n using Nat.strongRecOn with
 |ind n cA=>
  intro l d bA aT;rcases BC (l=[])with h|h;·subst h;rw[Rw];exact⟨⟨λx K=>(by cases K),rW _⟩,oH _,(by show d<=d+(n:Int);omega)⟩
  ·
   have WJ:=List.length_pos_iff.2 h;have yH:uB l.tail:=λx K=>aT x (aB1 K);have Fb:=cA l.tail.length (by rw[My];omega) (d+1) rfl yH;(have b9Y:((l.tail.length:Nat):Int)+1=n:=by rw[My];omega);rcases BC (z8 l)with G|G;·rw[Bp h (.inl G)];exact⟨Fb.1,by omega,by omega⟩
   ·
    rcases BC (y0 l)with U|U;·rw[Yk h G U];refine⟨⟨aT,?_⟩,oH _,by dsimp only;omega⟩;have K:=aT.at 1;rw[y0]at U;rw[z8]at G;have:¬(1<l.length/\64<l.getD 1 0):=λh=>G (.inr h);dsimp only;omega
    ·
     rcases BC (pZ (HZ l)=LY l)with aO|aO;·rw[Qu h G U aO];have:=cA (l.drop (lM l+6)).length a4K d rfl (λx K=>aT x (Gk K));refine⟨this.1,this.2.1,?_⟩;have bW:=this.2.2;rw[F8]at bW;dsimp only;omega
     ·rw[Bp h (.inr ⟨U,aO⟩)];exact⟨Fb.1,by omega,by omega⟩
section
variable{g:mZ}{p:c0}
def Inv.SI(h:Inv g p){b:List Int}(aT:uB b)(t:Int):Inv g (SI g p b t):=by
 have G:=a7V (S:=g.bO.e8.l) (t:=t) (kV (p.held++b) p.fU).c9 h.Ah;have U:=aX4 _ (l:=p.held++b) p.fU rfl (λx K=>by
  rcases List.mem_append.1 K with K|K;·exact h.held.1 x K
  ·exact aT x K)
 exact{h with fN:=G.2.trans h.fN,Ah:=G.1,held:=U.1}
def aRJ(l:List Int):(IB g p l).time=p.time:=by
 induction l generalizing p with
 |nil=>rfl
 |cons z l cA=>exact cA.trans (aFZ z)
def aJa(kind:Int)(l:List Int):(ET kind p l).time=p.time:=by
 induction l generalizing p with
 |nil=>rfl
 |cons z l cA=>exact cA
def a5h(dX:List Int): ∀k,(sT g dX p k).time=p.time
 |0=>rfl
 |k+1=>by
  rw[sT,QZ]
  split
  ·exact a5h dX k
  ·rw[aFZ];exact a5h dX k
def a0h(t:Int):(cU g p t).time=t:=by rw[cU];rw[a5h,TQ,aJa,aJa];dsimp only;rw[iO,aRJ]
def GW{t:Int}(h:¬sJ p t):p.time<=t/\t<=2147483648:=by rw[sJ]at h;omega
def Inv.b0l(h:Inv g p){b:List Int}(aT:uB b)(t:Int):Inv g (RC g p b t).1:=by
 rw[RC];split;·exact h
 ·rename_i aZ;exact(h.SI aT t).settle (GW aZ).1 (GW aZ).2
def Inv.aKq(h:Inv g p){s sh:Int}(V:zE p.aL g.c4 g.cV s sh=0):Inv g {p with aL:=QN p.aL s sh}:=by
 rw[zE,if_neg (by rw[h.KD];decide)]at V;split at V;·cases V
 rename_i G;split at V;·cases V
 rename_i U;have bE:=aG3 h.KD s.toNat D;have k:u4 p.aL (QN p.aL s sh) p.time:=(u4.refl h.KD p.time).set rfl (.inl rfl) kM (λaO=>by
  dsimp only at aO;split at aO;·exact absurd aO.1 aX
  ·
   rename_i bW;rcases aO.2 with dV|dV;·exact bE.2 ⟨aO.1,.inl dV⟩
   ·exact bW dV)
 exact h.a3x k
def Inv.aZU(h:Inv g p)(s sh t:Int):Inv g (N7 g p s sh t).1:=by
 rw[N7];split;·exact h
 rename_i aZ;split;·exact h
 rename_i V;exact(h.aKq (Decidable.not_not.1 V)).settle (GW aZ).1 (GW aZ).2
def Inv.aZV(h:Inv g p)(a z t:Int):Inv g (N3 g p a z t).1:=by
 rw[N3];split;·exact h
 rename_i aZ;have aF:=h.settle (GW aZ).1 (GW aZ).2;dsimp only;split;·exact aF.FY _ _ _
 ·
  rename_i V;have V:tM g.bO (cU g p t).b1 (iR g (cU g p t)) (cU g p t).aC a z t=0:=Decidable.not_not.1 V;have e:wK g.bO (cU g p t).b1 (iR g (cU g p t)) (cU g p t).aC a z t=⟨z,a,-1,1,t⟩:=by rw[wK,if_pos V]
  have G:Inv g {cU g p t with aC:=wK g.bO (cU g p t).b1 (iR g (cU g p t)) (cU g p t).aC a z t}:=by
   refine{aF with aC:=?_};rw[e];refine⟨by have:=h.time;have:=GW aZ;dsimp only;omega,.inr ?_⟩;rw[tM]at V;split at V;·omega
   split at V;·cases V
   split at V;·cases V
   exact a6H V
  exact G.FY _ _ _
def Inv.b0b(h:Inv g p)(a t:Int):Inv g (NX g p a t).1:=by
 rw[NX];split;·exact h
 rename_i aZ;have aF:=h.settle (GW aZ).1 (GW aZ).2;dsimp only;split;·exact aF.FY _ _ _
 ·
  rename_i V;have V:r6 g.bO (cU g p t).b1 (iR g (cU g p t)) (cU g p t).aC a t=0:=Decidable.not_not.1 V;have G:Inv g {cU g p t with aC:=xK g.bO (cU g p t).b1 (iR g (cU g p t)) (cU g p t).aC a t}:=by refine{aF with aC:=?_};rw[xK,if_pos V];exact⟨by have:=h.time;have:=GW aZ;dsimp only;omega,aF.aC.2⟩
  exact G.FY _ _ _
end
structure dS where
 bO:dY
 time:Int
 held:bP Int
 fU:Int
 fN:bP e6
 gR:bP gW
 b1:bP cY
 fP:jG
 aC:k8
 gN:bP fO
def dS.cells(x:dS):List Value:=[x.bO.c2.aE.places.val,x.bO.c2.aE.Z.val,x.bO.c2.bD.val,x.bO.c2.a8.val,x.bO.e8.val,x.bO.h2.val,x.bO.b0.val,x.bO.m4.val,.int .i64 x.time,x.held.val,.int .i64 x.fU,x.fN.val,x.gR.val,x.b1.val,x.fP.b6.val,x.fP.b0.val,.int .i64 x.fP.eB,.int .i64 x.aC.eR,.int .i64 x.aC.first,.int .i64 x.aC.Mf,.int .i64 x.aC.step,.int .i64 x.aC.time,x.gN.val]
abbrev dS.val(x:dS):Value:=.agg #[x.bO.c2.aE.places.val,x.bO.c2.aE.Z.val,x.bO.c2.bD.val,x.bO.c2.a8.val,x.bO.e8.val,x.bO.h2.val,x.bO.b0.val,x.bO.m4.val,.int .i64 x.time,x.held.val,.int .i64 x.fU,x.fN.val,x.gR.val,x.b1.val,x.fP.b6.val,x.fP.b0.val,.int .i64 x.fP.eB,.int .i64 x.aC.eR,.int .i64 x.aC.first,.int .i64 x.aC.Mf,.int .i64 x.aC.step,.int .i64 x.aC.time,x.gN.val]
structure EW(x:dS)(R:aP):Prop where
 bO:BN x.bO R
 held:aN (k3 x.held) R
 fN:aN (hV x.fN) R
 gR:aN (JU x.gR) R
 b1:aN (AQ x.b1) R
 fP:pY x.fP R
 gN:aN (kO x.gN) R
def EW.mono{x:dS}{R R':aP}(h:EW x R)(k:∀r∈R,aN r R'):EW x R':=⟨h.bO.mono k,h.held.mono k,h.fN.mono k,h.gR.mono k,h.b1.mono k,h.fP.mono k,h.gN.mono k⟩
structure n7(g:mZ)(p:c0)(x:dS):Prop where
 bO:hH x.bO g.bO
 time:x.time=p.time
 held:x.held.l=p.held
 fU:x.fU=p.fU
 fN:x.fN.l=p.fN
 gR:x.gR.l=p.gR
 b1:x.b1.l=p.b1
 aL:x.fP.b6.l=p.aL
 c4:x.fP.b0.l=g.c4
 cV:x.fP.eB=g.cV
 aC:x.aC=p.aC
 gN:x.gN.l=p.gN
def aWx{P:Program}{aV:Operand->Value}{L:aW}{R:aP}{dst:Option Tmp}{ty:TypeId}{pos:String}{after:Array Edge}{guard:Option (Nat×Bool)}(M:nN P){T:TypeId}{x y:Operand}{k:IntKind}{len cap m:Nat}{h:Int}{gH:Option Addr}{e oR fl bt z eK gC pJ mX z2}
 (dF:g5 M.gD T=some ⟨.slice e,oR,fl,bt,z⟩) (c6:g5 M.gD e=some ⟨eK,gC,pJ,mX,z2⟩) (K:aV x=.slice gH len cap) (bB:aV y=.int k h) (bF:h=(m:Int)) (G:1<=m) (bA:m<=len):
 cI P ⟨dst,.slice T x (some y) none none,ty,pos,after,guard⟩ aV L R (.slice (if cap=m then gH else gH.map (·.add (m*gC))) (len-m) (cap-m)):=λ_ w _=>by
 have cZ:=LL (M.ok _ _ dF) rfl
 have V:P.elem T=e:=by simp[Program.elem,cZ]
 have M3:P.underlying T=some (.slice (P.elem T)):=by rw[V];exact cZ
 have aF:=Go.Aw.run_sizeOf (M.ok _ _ c6) w
 simp only at aF
 subst bF
 have G:=run_slice_l (P:=P) w T gH len cap M3 k (m:Int) D D
 rw[V,aF,rD,tZ]at G
 simp[execOp,K,bB,run_sliceAt_slice w T _ _ _ _ M3,G,sliced]
def aGE{w:World}{aD:Nat->Prop}{aI len cap m:Nat}{a:Option Addr}{rows:List (List Value)}{eE:aP}(h:p2 w aD (.mk aI a len cap rows eE))(G:1<=m)(Y:m<=len)(aG:0<aI):p2 w aD (.mk aI (if cap=m then a else a.map (·.add (m*aI))) (len-m) (cap-m) (rows.drop m) eE):=by
 cases h with
 |mk aZ bU a1 cE O aF=>
  refine .mk EB D D (λr O=>cE r (Gk O)) ?_ aF;rcases gX m len with U|U;·
   rcases O with bV|⟨b,off,bX,bE,DC⟩;·exact .inl (by rw[bV];simp)
   ·have b9v:0<m*aI:=Nat.mul_pos G aG;refine .inr ⟨b,off+m*aI,by rw[if_neg D,bX,Ay,Addr.add,if_neg D],bE,λi j aB a6=>?_⟩;have:=DC (i+m) j D a6;(have e:off+m*aI+i*aI+j=off+(i+m)*aI+j:=by rw[Gq];omega);rw[List.getElem?_drop,Mq m i,<-this,e]
  ·exact .inl (Wf D)
abbrev m1{aY:Type}(y:bP aY)(m aI:Nat):bP aY:=⟨if y.cap=m then y.a else y.a.map (·.add (m*aI)),y.cap-m,y.l.drop m⟩
abbrev L8{aY:Type}(y:bP aY)(m:Nat):bP aY:=⟨y.a,y.cap,y.l.take m⟩
def UE{aY:Type}{P n code t L R}{Q:fR}{aI m:Nat}{f:aY->List Value}{eE:aP}{y:bP aY}(b8:aN (y.eJ aI f eE) R)(G:1<=m)(Y:m<=y.l.length)(aG:0<aI)(h:cO P n code t L ((m1 y m aI).eJ aI f eE::R) Q):cO P n code t L R Q:=by
 refine a7r (s:=(m1 y m aI).eJ aI f eE) (λw aD bF=>?_) h;obtain⟨r,O,aF⟩:=b8;have U:=aGE ((bF r O).sub aF) G Y aG;have dH:y.l.length-m=(y.l.drop m).length:=by rw[F8]
 have eH:(y.l.map f).drop m=(y.l.drop m).map f:=by rw[List.map_drop]
 rw[dH,eH]at U;exact U
section
variable{P:Program}{aV:Operand->Value}{L:aW}{R:aP}{dst:Option Tmp}{ty:TypeId}{pos:String}{after:Array Edge}{guard:Option (Nat×Bool)}(M:nN P){T:TypeId}{x y:Operand}
def aS8{aY:Type}{f:aY->List Value}{xs:bP aY}{gC:Nat}{eE:aP}(b8:aN (xs.eJ gC f eE) R)(bV:0<gC)(PQ:0<xs.l.length){c:sH}{w:World}(cW:c5 c L R w):Ij L R xs.val xs.l.length gC (xs.l.flatMap f):=by
 obtain⟨gH,cap,l⟩:=xs;dsimp only at b8 PQ|-;have cE:∀r∈l.map f,r.length=gC:=by
  have pL:=cW;obtain⟨⟨aD,bF,_⟩,_,_⟩:=pL;obtain⟨r,O,mA⟩:=b8;have HF:=(bF.nH r O).sub mA;cases HF with
  |mk _ _ _ cE _ _=>exact cE
 have FM:(l.map f).flatten=l.flatMap f:=Qo _;have iF:(l.map f).flatten.length=l.length*gC:=by rw[aHo cE,pU]
 have aMU:=aGz (L:=L) b8 bV (λc w cW=>by
  obtain⟨⟨aD,bF,_⟩,_,_⟩:=cW;obtain⟨r,O,mA⟩:=b8;have HF:=(bF.nH r O).sub mA;cases HF with
  |mk _ _ _ _ a1 _=>
   rcases a1 with h|⟨b,off,bX,_⟩;·have cD:=congrArg List.length h;simp at cD;rw[cD]at PQ;simp at PQ
   ·exact⟨b,off,bX⟩) iF ⟨c,w,cW⟩
 rw[FM]at aMU;exact aMU
def a7m{aY:Type}{e n fl bt z eK gC pJ mX z2}{f:aY->List Value}(p:J aY)(xs:bP aY){eE:aP}{F:J aY->aW}(dF:g5 M.gD T=some ⟨.slice e,n,fl,bt,z⟩)(c6:g5 M.gD e=some ⟨eK,gC,pJ,mX,z2⟩)(A1:z2.length=gC)(bV:0<gC)
 (K:aV x=p.val) (bB:aV y=xs.val) (bM:p.ok gC f) (b8:aN (xs.eJ gC f eE) R) (uU:tB e f p L F) (G:∀x,(f x).all (·.oneCell')=true) (MQ:(p.l.length+xs.l.length)*(mX+1)<=140737488355328):
 dR P ⟨dst,.call ⟨.builtin .append,#[x,y],#[T,T]⟩,ty,pos,after,guard⟩ aV L R (λv E R'=>∃o:gT,v=(⟨o,p.l++xs.l⟩:J aY).val/\(⟨o,p.l++xs.l⟩:J aY).ok gC f/\F ⟨o,p.l++xs.l⟩=E/\R=R'):=by
 obtain⟨A,B,b3,hR⟩:=uU.split;intro c w cW a1A next Q gK
 have mQ:(p.l.length+xs.l.length)*mX<=140737488355328:=HU (aB2 _ (Nat.le_succ _)) MQ;have DO:p.l.length+xs.l.length<=140737488355328:=HU (aBW _ (Nat.succ_pos _)) MQ;have Fg:aV x=p.o.val p.l.length:=by rw[K,gT.aPu bM];rfl
 rcases a3H xs.l.length with dI|dI;·
  have Ky:xs.l=[]:=NJ dI;have Uw:aV y=.slice xs.a 0 xs.cap:=by rw[bB,bP.val,dI]
  have a2R:F p=L:=by rw[hR,b3]
  cases cM:p.o with
  |nil=>
   have cZ:=LL (M.ok _ _ dF) rfl;obtain⟨hZ,u,l0,FX,i2,i3,i4⟩:=E0 (M.ok _ _ c6);(have dH:execOp aV ⟨dst,.call ⟨.builtin .append,#[x,y],#[T,T]⟩,ty,pos,after,guard⟩=(do pure (.value (<-Builtin.append_ #[T,T] ty #[aV x,aV y]))):=by exact Vx);have O:=aJL w T ty e hZ cZ FX xs.a xs.cap;(have dC:p.l=[]:=by have xU:=bM;rw[J.ok,cM]at xU;exact NJ xU.1);(have xY:aV x=.slice none 0 0:=by rw[K,J.val,cM,dC];rfl);refine EZ (w':=w) (v:=.slice none 0 0) ?_ (gK _ _ _ w ⟨.nil,by rw[Ky,dC];rfl,by rw[Ky,dC];exact⟨rfl,rfl⟩,?_,rfl⟩ cW);·rw[dH,xY,Uw];simp only[s5,O,rD,D8]
   ·rw[<-a2R,Ky,rV,<-cM]
  |own g cap spare=>(have G9:p.l.length<=cap:=by have xU:=bM;rw[J.ok,cM]at xU;exact xU.2.1);(have S9:aV x=.slice (some ⟨g,0,none⟩) p.l.length cap:=by rw[K,J.val,cM];rfl);(refine aYu (L:=L) (R:=R) (dst:=dst) (ty:=ty) (pos:=pos) (after:=after) (guard:=guard) M dF c6 S9 Uw G9 c w cW a1A next Q ?_);rintro v E R' w' ⟨rfl,rfl,rfl⟩ pL;rw[Ky,rV]at gK;exact gK _ _ _ w' ⟨p.o,by rw[J.val,cM];rfl,bM,a2R,rfl⟩ pL
 ·
  have KN:=aS8 (L:=L) b8 bV dI cW;rw[<-bB]at KN;subst b3;refine a74 (dst:=dst) (ty:=ty) (pos:=pos) (after:=after) (guard:=guard) M dF c6 A1 Fg bM (aFy A _ B) KN dI (aEV G _) D mQ c w cW a1A next Q ?_
  rintro v E R' w' ⟨g,cap,spare,rfl,xU,rfl,rfl⟩ pL;have e:p.l.flatMap f++xs.l.flatMap f=(p.l++xs.l).flatMap f:=by simp
  rw[e]at xU;have aZ:(p.l++xs.l).length=p.l.length+xs.l.length:=by simp
  exact aOA
end
section
variable{P:Program}{aV:Operand->Value}{L:aW}{R:aP}{dst:Option Tmp}{ty:TypeId}{pos:String}{after:Array Edge}{guard:Option (Nat×Bool)}(M:nN P){T:TypeId}{x y z:Operand}
def Cz{aY:Type}{u:bP aY}{m aI:Nat}{h:Int}{k:IntKind}{e oR fl bt z eK gC pJ mX z2}(dF:g5 M.gD T=some ⟨.slice e,oR,fl,bt,z⟩)(c6:g5 M.gD e=some ⟨eK,gC,pJ,mX,z2⟩)(K:aV x=u.val)(bB:aV y=.int k h)(bF:h=(m:Int))(G:1<=m)(bA:m<=u.l.length)(cE:gC=aI):
 cI P ⟨dst,.slice T x (some y) none none,ty,pos,after,guard⟩ aV L R (m1 u m aI).val:=by have U:=aWx (aV:=aV) (L:=L) (R:=R) (dst:=dst) (ty:=ty) (pos:=pos) (after:=after) (guard:=guard) M dF c6 K bB bF G bA;subst cE;rw[bP.val,F8];exact U
def a7T{aY:Type}{u:bP aY}{m q aI:Nat}{h l:Int}{k mJ:IntKind}{e oR fl bt b7B eK gC pJ mX z2}(dF:g5 M.gD T=some ⟨.slice e,oR,fl,bt,b7B⟩)(c6:g5 M.gD e=some ⟨eK,gC,pJ,mX,z2⟩)(K:aV x=u.val)(bB:aV y=.int k l)(dI:aV z=.int mJ h)(aZ:l=(m:Int))(bF:h=(m:Int)+(q:Int))(G:1<=m)(bA:m+q<=u.l.length)(bU:u.l.length<=u.cap)(cE:gC=aI):
 cI P ⟨dst,.slice T x (some y) (some z) none,ty,pos,after,guard⟩ aV L R (L8 (m1 u m aI) q).val:=λ_ w _=>by
 subst cE
 subst aZ
 have cZ:=LL (M.ok _ _ dF) rfl
 have V:P.elem T=e:=by simp[Program.elem,cZ]
 have M3:P.underlying T=some (.slice (P.elem T)):=by rw[V];exact cZ
 have aF:=Go.Aw.run_sizeOf (M.ok _ _ c6) w
 simp only at aF
 have aO:=run_slice_lh (P:=P) w T u.a u.l.length u.cap M3 k mJ (m:Int) h D D D
 have dH:h.toNat-m=q:=by omega
 have eH:((u.l.drop m).take q).length=q:=by rw[HS,F8];omega
 rw[V,aF,rD,tZ]at aO
 rw[bP.val,L8,m1,eH]
 simp[execOp,K,bB,dI,run_sliceAt_slice w T _ _ _ _ M3,aO,sliced,dH]
end
def Jf{aY:Type}{P n code t L R}{Q:fR}{aI:Nat}{f:aY->List Value}{eE:aP}{y:bP aY}(b8:aN (y.eJ aI f eE) R)(h:y.l.length<=y.cap->cO P n code t L R Q):cO P n code t L R Q:=λc a w aH aF=>by
 have G9:y.l.length<=y.cap:=by
  have pL:=aF
  obtain⟨⟨aD,bF,_⟩,_,_⟩:=pL
  obtain⟨r,O,mA⟩:=b8
  have HF:=(bF.nH r O).sub mA
  cases HF with
  |mk _ bU _ _ _ _=>exact bU
 exact h G9 c a w aH aF
def a6S{aY:Type}{P n code t L R}{Q:fR}{aI m:Nat}{f:aY->List Value}{eE:aP}{y:bP aY}(q:Nat)(b8:aN (y.eJ aI f eE) R)(G:1<=m)(Y:m<=y.l.length)(aG:0<aI)(h:cO P n code t L ((L8 (m1 y m aI) q).eJ aI f eE::R) Q):cO P n code t L R Q:=by
 refine UE b8 G Y aG ?_;refine aEs q mL ?_;exact sN iP (λr O=>by
  rcases List.mem_cons.1 O with h|h;·exact aU (by rw[h];exact .head _)
  ·exact aU (.tail _ (.tail _ h))) h
section
def aHs(h:A->B:=by exact b7 qW rfl rfl rfl):=h
def aM.b6s{P:Program}{f:FuncId}{args:Array Value}{L:aW}{R:aP}{Post tC:n8}(h:aM P f args L R Post)(k:∀v E R',Post v E R'->∃hA,E.Perm hA/\tC v hA R'):aM P f args L R tC:=
 ⟨h.1,λw aD bF=>(h.2 w aD bF).mono λ_ _ ⟨v,E,R',e,p,s⟩=>let ⟨hA,aG,HO⟩:=k v E R' p;⟨v,hA,R',e,HO,s.yN aG⟩⟩
attribute [local irreducible] cO dG dP aM cI dR fA e2 e5 fB eQ e9 J.L
def QL(x:dS)(bL:J fO)(b:Nat)(k z u:Int)(L:aW)(R:aP)(Y:bL.ok 4 fO.cells)(bA:bL.l.length<=400):
 aM prog 92 [.pointer (some ⟨b,0,none⟩),.int .i64 k,.int .i64 z,.int .i64 u].toArray (⟨b,({x with gN:=bL.W}:dS).cells,132⟩::(bL.L 282 fO.cells++L)) R
  (λv E R'=>∃q:J fO,q.ok 4 fO.cells/\q.l=UQ bL.l ⟨x.time,k,z,u⟩/\⟨b,({x with gN:=q.W}:dS).cells,132⟩::(q.L 282 fO.cells++L)=E/\R=R'):=by
 refine aM.b6s (Post:=λv E R'=>∃q:J fO,q.ok 4 fO.cells/\q.l=UQ bL.l ⟨x.time,k,z,u⟩/\(⟨b,({x with gN:=q.W}:dS).cells,132⟩::(q.L 282 fO.cells++L)=E\/q.L 282 fO.cells++(⟨b,({x with gN:=q.W}:dS).cells,132⟩::L)=E)/\R=R') ?_ (λv E R' ⟨q,G,U,aO,bW⟩=>⟨_,by
  rcases aO with rfl|rfl;·exact Mr _
  ·exact Wg,q,G,U,rfl,bW⟩)
 refine cX 44 call92 func92 rfl rfl rfl ?_;refine cC ?_;refine jV M [9] [0,1,2,3,4,5,6,7,8,9,10,11,12,13] [14,15,16,17] (_) _ mixed aQ bC b9 ?_;refine p4 (mN X2) rfl rfl rfl rfl ?_;apply(CG);refine fE iX rfl rfl rfl rfl ?_;apply(OD);refine fE iX rfl rfl rfl rfl ?_;apply(lS);iterate 3 apply(DY)
 refine fE (l7 (hB:=[(0,(Value.int _ _).cells.toList),(1,(Value.int _ _).cells.toList),(2,(Value.int _ _).cells.toList),(3,(Value.int _ _).cells.toList)]) (c9:=[_,_,_,_]) M rfl rfl rfl rfl) rfl rfl rfl rfl ?_;refine RH Wz rfl rfl rfl ?_;rintro v E R' ⟨b70,rfl,rfl,a8U⟩;replace a8U:=a8U.symm;subst a8U;apply(DA);refine pP (jZ (f:=fO.cells) (p:=bL) (a:=⟨x.time,k,z,u⟩) M rfl rfl rfl rfl (Y) cL j8 rfl kG) rfl rfl rfl ?_;rintro v E R' ⟨yM,rfl,S1,rfl,rfl⟩;apply fI∘Ly∘Cn∘KU;have eZ:(⟨yM,bL.l++[⟨x.time,k,z,u⟩]⟩:J fO).l.length=bL.l.length+1:=by simp
 have WN:(bL.l++[(⟨x.time,k,z,u⟩:fO)]).length=bL.l.length+1:=by simp
 apply(IE);refine aA iX rfl ?_;apply jM∘oD∘q4∘y8;refine aJ ?_ ?_<;>intro bI;·
  obtain⟨hF,n3⟩:∃hF:J fO,hF=⟨yM,bL.l++[⟨x.time,k,z,u⟩]⟩:=⟨_,rfl⟩;have aMy:(bL.l++[(⟨x.time,k,z,u⟩:fO)]).length=hF.l.length:=by rw[n3]
  rw[<-n3]at S1 eZ|-;refine jW (T:=282) (f:=fO.cells) (aI:=4) hF [] cL bH aX S1 eW ?_;refine e7 h3 ?_;refine UE (y:=hF.W) (m:=hF.l.length-400) mL D (by show hF.l.length-400<=hF.l.length;omega) aX ?_;have ZT:(m1 hF.W (hF.l.length-400) 4).l.length<=1000:=by show(hF.l.drop _).length<=_;rw[F8];omega
  apply IE∘iS;refine aA iX rfl ?_;apply(h1);refine aA (Cz (m:=hF.l.length-400) (aI:=4) (u:=hF.W) M rfl rfl rfl rfl D D (by show hF.l.length-400<=hF.l.length;omega) rfl) rfl ?_;refine g2 (rH (f:=fO.cells) (xs:=m1 hF.W (hF.l.length-400) 4) M rfl rfl rfl aX rfl rfl ((aU (.head _))) bH D) rfl ?_;rintro v E R' ⟨W8,rfl,a2D,rfl,rfl⟩;refine aA iX rfl ?_;apply q6∘yP;refine ZC (E:=(⟨W8,hF.l.drop (hF.l.length-400)⟩:J fO).L 282 fO.cells++(⟨b,({x with gN:=(⟨W8,hF.l.drop (hF.l.length-400)⟩:J fO).W}:dS).cells,132⟩::L)) (R':=R) (YF rfl) ?aG ?b3 ?b8;case aG=>exact⟨⟨W8,hF.l.drop (hF.l.length-400)⟩,a2D,by show hF.l.drop _=_;rw[UQ,eZ,n3],.inr rfl,rfl⟩
  case b3=>exact bC
  case b8=>exact λr O=>aU (.tail _ (.tail _ O))
 refine gG ?_;refine ZC (E:=⟨b,({x with gN:=(⟨yM,bL.l++[⟨x.time,k,z,u⟩]⟩:J fO).W}:dS).cells,132⟩::((⟨yM,bL.l++[⟨x.time,k,z,u⟩]⟩:J fO).L 282 fO.cells++L)) (R':=R) (YF rfl) ?aG ?b3 ?b8;case aG=>exact⟨⟨yM,bL.l++[⟨x.time,k,z,u⟩]⟩,S1,by rw[UQ,show bL.l.length+1-400=0 by omega,Na],.inl rfl,rfl⟩
 case b3=>exact bC
 case b8=>exact oV _
def n7.FY{g:mZ}{p:c0}{x:dS}(h:n7 g p x){l:bP fO}{k z u:Int}(aZ:l.l=UQ x.gN.l ⟨x.time,k,z,u⟩):n7 g (sK p k z u) ({x with gN:=l}:dS):={h with gN:=by rw[sK,<-h.gN,<-h.time];exact aZ}
def Pt(x:dS)(t:Int)(L:aW)(R:aP):
 aM prog 84 [x.val,.int .i64 t].toArray L R (λv E R'=>v=.bool (decide (t<x.time\/2147483648<t))/\L=E/\R=R'):=by
 refine cX 13 call84 func84 rfl rfl rfl ?_;apply(fC);intro eN;apply uK∘cJ∘AK;apply dT (aD:=[_,_]) (j:=4) (b4:=9) rfl rfl aK rfl b2 rfl;·intro jP;replace jP:=cP jP;exact(a6V) iA
 intro DU;apply(sP);refine m5 L R ?_;exact aPz
def Qe(x:cH):Bool:=!x.dZ||decide (x.hQ= -1)
def a4R{l:List Int}{f:Int->Bool}(h:∀j:Nat,j<l.length->f (l.getD j 0)=false):l.any f=false:=by rw[List.any_eq_false];intro y bB;obtain⟨j,a6,rfl⟩:=Gm bB;have:=h j a6;rw[lN,w4 a6]at this;rw[show(some l[j]).getD 0=l[j]from rfl]at this;rw[this];decide
def aXW(f:jG)(z:Int)(L:aW)(R:aP)(aH:pY f R)(qA:lA f.b6.l f.b0.l f.eB=0)(dI:0<=z/\z<f.b0.l.length):
 aM prog 129 [f.val,.int .i64 z].toArray L R (λv E R'=>v=.bool ((DG f.b6.l f.b0.l f.eB (f.b0.l.getD z.toNat 0)).any λk=>Qe (f.b6.l.getD k.toNat default))/\L=E/\R=R'):=by
 have pK:=aH.aL;have FW:=aH.c4;have CC:=bR (l:=f.b0.l) (k:=z.toNat) 0 D;refine cX 34 call129 func129 rfl rfl rfl ?_;apply(fC);intro eN;apply l6∘yQ;refine jR M [0,1,2,3,4,5,8,6,7] _ mixed aQ iP ?_;apply aHs∘uH;refine b7 aCB rfl rfl rfl ?_;apply s0∘j7;refine zD rfl (a7D f (f.b0.l.getD z.toNat 0) _ _ aH) rfl rfl ?_;rintro v E R' ⟨q,rfl,g7,eZ,rfl,rfl⟩;refine⟨bC,hC,?_⟩;refine b7 CP rfl rfl rfl ?_;refine jI (bY (iH ?_));refine e3 [(2,.pointer _),(14,.slice _ _ _),(15,.int _ _),(16,.int _ _)] cB λg9=>?_;have aAs:∀y∈q.l,0<=y/\y<f.b6.l.length:=λy bB=>by have:=a5G (aL:=f.b6.l) (c4:=f.b0.l) (cV:=f.eB) (s:=f.b0.l.getD z.toNat 0) (x:=y) (by rw[<-eZ];exact bB);omega
 refine jW (T:=3) (f:=aR) (aI:=1) q [] cL bH aX g7 eW ?_;refine e7 h3 ?_;have a2L:aN (dW q.W) (dW q.W::R):=aU (.head _);have yK:q.l.length<=32:=by rw[eZ];exact aHI
 have b4J:=pK.mono λr O=>aU (R:=dW q.W::R) (.tail _ O);refine lF ([4,6,7]++dJ 16 18) (λg:{k:Nat//k<=q.l.length/\∀j:Nat,j<k->Qe (f.b6.l.getD (q.l.getD j 0).toNat default)=false}=>[(16,.int .i64 ((g.1:Nat):Int))]) (λg=>q.l.length-g.1) (⟨0,by omega,λj a6=>by omega⟩) ?_;rintro⟨k,Y,jX⟩ c1;try dsimp only
 apply(gU);refine aJ ?_ ?_<;>intro bI;·
  have WO:=bR (l:=q.l) (k:=k) 0 D;have aMH:=aAs _ (hS WO);have S6:=bR (l:=f.b6.l) (k:=(q.l.getD k 0).toNat) default D;apply(jK);refine aA rF rfl ?_;apply U3∘h1;refine aA aQC rfl ?_;apply Ma∘dO;intro lT;apply BP∘OB;apply dT (aD:=[_,_,_]) (j:=3) (b4:=28) rfl rfl aK rfl b2 rfl;·exact a4q
  intro m2;apply(dD);refine aJ ?_ ?_<;>intro cK;·
   apply(OH);refine kN (E:=L) (R':=R) (qI rfl EE) ?aG ?b3 ?b8;case aG=>exact⟨by rw[<-eZ,List.any_eq_true.2 ⟨_,hS WO,by rw[Qe];simpa using cK⟩],rfl,rfl⟩
   case b3=>exact bC
   case b8=>exact λr O=>aU (.tail _ O)
  apply(k9);exact lP ⟨k+1,by omega,λj a6=>by
  rcases gX j k with h|h;·exact jX j h
  ·(obtain rfl:j=k:=by omega);rw[Qe];simpa using cK⟩ hM cB bC eX kM
 apply(Iy);refine kN (E:=L) (R':=R) (qI rfl EE) ?aG ?b3 ?b8;case aG=>exact⟨by rw[<-eZ,a4R λj a6=>jX j D],rfl,rfl⟩
 case b3=>exact bC
 case b8=>exact λr O=>aU (.tail _ O)
def aHJ(g:mZ)(p:c0)(x:dS)(fG:J cY)(bL:J fO)(b:Nat)(z:Int)(L:aW)(R:aP)(hP:Inv g p)(K:n7 g p ({x with b1:=fG.W,gN:=bL.W}:dS))(aH:pY x.fP R)(MS:fG.ok 3 cY.cells)(Z2:bL.ok 4 fO.cells)(dI:0<=z/\z<p.b1.length):
 aM prog 126 [.pointer (some ⟨b,0,none⟩),.int .i64 z].toArray (⟨b,({x with b1:=fG.W,gN:=bL.W}:dS).cells,132⟩::(bL.L 282 fO.cells++(fG.L 141 cY.cells++L))) R
  (λv E R'=>∃(f:jG) (q:J fO) (S:aP),q.ok 4 fO.cells/\n7 g (CV g p z) ({x with b1:=fG.W,fP:=f,gN:=q.W}:dS)/\pY f (S++R)/\⟨b,({x with b1:=fG.W,fP:=f,gN:=q.W}:dS).cells,132⟩::(q.L 282 fO.cells++(fG.L 141 cY.cells++L))=E/\S++R=R'):=by
 have jO:fG.l=p.b1:=K.b1;have qN:bL.l=p.gN:=K.gN;have lL:=hP.gN;have KO:x.fP.b0.l=g.c4:=K.c4;have WS:x.fP.b6.l=p.aL:=K.aL;have aMN:x.fP.eB=g.cV:=K.cV;have FV:x.time=p.time:=K.time;have vT:=hP.Nr;have a2d:=hP.MI;have FO:=hP.Ss;have b1Z:z.toNat<fG.l.length:=by rw[jO];omega
 have b5r:z.toNat<x.fP.b0.l.length:=by rw[KO];omega
 have AY:=bR (l:=fG.l) (k:=z.toNat) default b1Z;have CC:=bR (l:=x.fP.b0.l) (k:=z.toNat) 0 b5r;have Fh:=FO.Xm z.toNat D;rw[<-KO,<-WS]at Fh;obtain⟨s,aF⟩:∃s,s=x.fP.b0.l.getD z.toNat 0:=⟨_,rfl⟩;rw[<-aF]at CC Fh;have S6:=bR (l:=x.fP.b6.l) (k:=s.toNat) default D;obtain⟨y,bB⟩:∃y,y=x.fP.b6.l.getD s.toNat default:=⟨_,rfl⟩;rw[<-bB]at S6;obtain⟨c,bU⟩:∃c,c=fG.l.getD z.toNat default:=⟨_,rfl⟩;rw[<-bU]at AY;have IP:AU x.fP.b6.l x.fP.b0.l x.fP.eB s x.time=0:=by rw[KO,WS,aMN,FV,AU,if_neg (by rw[hP.KD];decide),if_neg (by rw[WS]at Fh;omega),if_pos hP.aBE]
 have pK:=aH.aL;have FW:=aH.c4;dsimp only[dS.cells];refine cX 59 call126 func126 rfl rfl rfl ?_;apply RX∘cJ∘iS;refine aA iX rfl ?_;apply(h1);refine aA (iV M (fG) _ rfl rfl rfl rfl bS (i:=z.toNat) c7 iY) rfl ?_;apply(w0);refine aA (rX M (fG) rfl rfl rfl cL bS bH bS aK) rfl ?_;refine dN rfl (QL {x with b1:=fG.W} bL b 1 z c.n4 _ _ Z2 (by rw[qN];exact lL)) rfl ?_;rintro v E R' ⟨q,g7,eZ,rfl,rfl⟩;dsimp only[dS.cells];apply(OC);refine aA iX rfl ?_;apply gF∘h1;refine aA aCB rfl ?_;apply U3∘iS;refine aA iX rfl ?_;apply gF∘h1;refine aA aCA rfl ?_;apply tG∘l6∘j6;refine jR M [0,1,2,3,4,5,6,7,8,9,10,11,12,13,14,15] _ mixed aQ iP ?_;apply N9∘rS∘aHs∘j7∘J6;refine zD rfl (aJe x.fP s x.time _ _ aH) rfl rfl ?_;rintro v E R' ⟨uX,D5,cV,rfl,⟨aAo,aAt⟩,Z4,rfl,rfl⟩;refine⟨bC,hC,?_⟩;refine b7 jE rfl rfl rfl ?_;refine b7 z6 rfl rfl rfl ?_;refine b7 z6 rfl rfl rfl ?_;apply(uZ);intro jN;apply R3∘XB∘cJ∘pG;refine aJ ?_ ?_<;>intro bI;·exact absurd IP bI
 obtain⟨aAp,a2M,rfl⟩:=Z4 IP;refine jW (T:=143) (f:=cH.cells) (aI:=5) uX [] cL bH aX aAo eW ?_;refine e7 h3 ?_;refine jW (T:=3) (f:=aR) (aI:=1) D5 [] cL bH aX aAt eW ?_;refine e7 h3 ?_;have Kq:pY ⟨uX.W,D5.W,x.fP.eB⟩ ([dW D5.W,wA uX.W]++R):=⟨aU (.tail _ (.head _)),aU (.head _)⟩;have WM:q.l=(sK p 1 z (p.b1.getD z.toNat default).n4).gN:=by rw[eZ,sK,<-qN,<-jO,<-bU,<-FV]
 have CD:g.c4.getD z.toNat 0=s:=by rw[aF,KO]
 have aMV:p.aL.getD s.toNat default=y:=by rw[bB,WS]
 have IY:uX.l=uL p.aL s p.time:=by rw[aAp,WS,FV]
 apply gI∘iS;refine aA qW rfl ?_;refine aA iX rfl ?_;apply(gF);refine OR M rfl rfl rfl rfl qV aK aK aK ?_;apply(j6);refine sN (E:=⟨b,({x with b1:=fG.W,fP:=⟨uX.W,D5.W,x.fP.eB⟩,gN:=q.W}:dS).cells,132⟩::(q.L 282 fO.cells++(fG.L 141 cY.cells++L))) bC eX ?_;apply e1∘fD∘dD;refine aJ ?_ ?_<;>intro cK;·
  apply IE∘cJ;refine dN rfl (QL {x with b1:=fG.W,fP:=⟨uX.W,D5.W,x.fP.eB⟩} q b 2 s 0 _ _ g7 (by rw[WM];exact(hP.FY _ _ _).gN)) rfl ?_;rintro v E R' ⟨gP,KK,zP,rfl,rfl⟩;apply(yP);refine ZC (E:=⟨b,({x with b1:=fG.W,fP:=⟨uX.W,D5.W,x.fP.eB⟩,gN:=gP.W}:dS).cells,132⟩::(gP.L 282 fO.cells++(fG.L 141 cY.cells++L))) (R':=[dW D5.W,wA uX.W]++R) (YF rfl) ?aG ?b3 ?b8;case aG=>(have e:CV g p z=sK {sK p 1 z (p.b1.getD z.toNat default).n4 with aL:=uL p.aL s p.time} 2 s 0:=by rw[CV,CD,aMV,if_pos cK]);exact⟨⟨uX.W,D5.W,x.fP.eB⟩,gP,[dW D5.W,wA uX.W],KK,by rw[e];exact{K with aL:=IY,c4:=a2M.trans KO,gN:=by show gP.l=_;rw[zP,WM,FV];rfl},Kq,rfl,rfl⟩
  case b3=>exact bC
  case b8=>exact oV _
 refine gG ?_;refine ZC (E:=⟨b,({x with b1:=fG.W,fP:=⟨uX.W,D5.W,x.fP.eB⟩,gN:=q.W}:dS).cells,132⟩::(q.L 282 fO.cells++(fG.L 141 cY.cells++L))) (R':=[dW D5.W,wA uX.W]++R) (YF rfl) ?aG ?b3 ?b8;case aG=>
  have e:CV g p z={sK p 1 z (p.b1.getD z.toNat default).n4 with aL:=uL p.aL s p.time}:=by rw[CV,CD,aMV,if_neg (by rw[cK];decide)]
  exact⟨⟨uX.W,D5.W,x.fP.eB⟩,q,[dW D5.W,wA uX.W],g7,by rw[e];exact{K with aL:=IY,c4:=a2M.trans KO,gN:=WM},Kq,rfl,rfl⟩
 case b3=>exact bC
 case b8=>exact oV _
end
end Go.Proofs.YtdiajbdaadlfhaaGreatDoor
