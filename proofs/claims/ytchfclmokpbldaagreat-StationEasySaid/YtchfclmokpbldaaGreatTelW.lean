/-
  Merged texts. By an AI agent.
-/
import Derived.Test.YtchfclmokpbldaaGreatData
import Derived.Test.YtchfclmokpbldaaGreatFeedT
import Derived.Test.YtchfclmokpbldaaGreatCutB
import Derived.Test.YtchfclmokpbldaaGreatDraws
set_option linter.all false
set_option maxHeartbeats 4000000
set_option maxRecDepth 20000
variable{A B:Prop}
namespace Go.Proofs.YtchfclmokpbldaaGreat
open Go.Aw Go Go.Proofs.Tryz
def a0k(x:Int)(k:Nat):Int:=x/2^k%2
def a0p(a b:Int):Int:=((a.toNat^^^b.toNat:Nat):Int)
def Kl(r b:Int):Int:=if r/32768=b then 2*r%65536 else a0p (2*r%65536) 4129
def R7(r x:Int):Nat->Int
 |0=>r
 |k+1=>Kl (R7 r x k) (a0k x (7-k))
def a7x(r x:Int):Int:=R7 r x 8
def s3(l:List Int):Int:=l.foldl a7x 65535
def O5(r:Int):Prop:=0<=r/\r<65536
def aW9{r:Int}(b:Int)(h:O5 r):O5 (Kl r b):=by
 obtain⟨O,X⟩:=h;have a3:0<=2*r%65536/\2*r%65536<65536:=by omega
 rw[Kl];split;·exact a3
 ·refine⟨Int.natCast_nonneg _, ?_⟩;have:(2*r%65536).toNat^^^(4129:Int).toNat<2^16:=Nat.xor_lt_two_pow D aW;rw[a0p];omega
def a1j{r:Int}(x:Int)(h:O5 r): ∀k,O5 (R7 r x k)
 |0=>h
 |k+1=>aW9 _ (a1j x h k)
def aJL: ∀(l:List Int) {r:Int},O5 r->O5 (l.foldl a7x r)
 |[],_,h=>h
 |x::l,_,h=>aJL l (a1j x h 8)
def a1b(l:List Int):O5 (s3 l):=aJL l ⟨by decide,by decide⟩
def aEC{l:List Int}{k:Nat}{x:Int}(h:l[k]?=some x):s3 (l.take (k+1))=a7x (s3 (l.take k)) x:=by rw[ME,h,s3,Bu];rfl
structure z4 where
 hX:Int
 kind:Int
 data:List Int
 deriving DecidableEq,Inhabited
def xV(l:List Int):Prop:=l.getD 0 0≠126\/(1<l.length/\64<l.getD 1 0)
instance(l:List Int):Decidable (xV l):=by unfold xV;exact inferInstance
def x1(l:List Int):Prop:=(l.length:Int)<2\/(l.length:Int)<l.getD 1 0+6
instance(l:List Int):Decidable (x1 l):=by unfold x1;exact inferInstance
def jM(l:List Int):Nat:=(l.getD 1 0).toNat
def NN(l:List Int):Int:=l.getD (4+jM l) 0*256+l.getD (5+jM l) 0
def JL(l:List Int):List Int:=(l.take (4+jM l)).drop 1
def Yk(l:List Int):z4:=⟨l.getD 2 0,l.getD 3 0,(l.take (4+jM l)).drop 4⟩
structure aIJ where
 held:List Int
 eK:Int
 dD:List z4
 deriving DecidableEq,Inhabited
def jO(l:List Int)(d:Int):aIJ:=
 if aX:l=[]then⟨[],d,[]⟩
 else if xV l then jO l.tail (d+1)
 else if x1 l then⟨l,d,[]⟩
 else if s3 (JL l)≠NN l then jO l.tail (d+1)
 else⟨(jO (l.drop (jM l+6)) d).held,(jO (l.drop (jM l+6)) d).eK,Yk l::(jO (l.drop (jM l+6)) d).dD⟩
termination_by l.length
decreasing_by
 all_goals have:=List.length_pos_iff.2 aX
 all_goals simp only[Nr,DL];omega
def Ro(d:Int):jO [] d=⟨[],d,[]⟩:=by rw[jO,dif_pos rfl]
def Da{l:List Int}{d:Int}(h:l≠[])(O:xV l\/(¬x1 l/\s3 (JL l)≠NN l)):jO l d=jO l.tail (d+1):=by
 rw[jO,dif_neg h];split;·rfl
 ·
  rename_i X;rcases O with O|⟨aU,cK⟩;·exact absurd O X
  ·rw[if_neg aU,if_pos cK]
def Ri{l:List Int}{d:Int}(h:l≠[])(O:¬xV l)(X:x1 l):jO l d=⟨l,d,[]⟩:=by rw[jO,dif_neg h,if_neg O,if_pos X]
def Yv{l:List Int}{d:Int}(h:l≠[])(O:¬xV l)(X:¬x1 l)(aU:s3 (JL l)=NN l):jO l d=⟨(jO (l.drop (jM l+6)) d).held,(jO (l.drop (jM l+6)) d).eK,Yk l::(jO (l.drop (jM l+6)) d).dD⟩:=by rw[jO,dif_neg h,if_neg O,if_neg X,if_neg (by rw[aU];exact λh=>h rfl)]
def pN(l:List Int):Prop:=∀x∈l,0<=x/\x<=255
def pN.at{l:List Int}(h:pN l)(i:Nat):0<=l.getD i 0/\l.getD i 0<=255:=by
 rcases hF i l.length with aE|aE;·exact h _ (hV (bJ (l:=l) (k:=i) 0 aE))
 ·rw[m8,uF aE];decide
def a49{l:List Int}(h:pN l)(X:¬x1 l):jM l+6<=l.length/\((jM l:Nat):Int)=l.getD 1 0:=by have:=h.at 1;rw[x1]at X;rw[jM];omega
def NO(f:z4):List Int:=126::(f.data.length:Int)::f.hX::f.kind::f.data
def Ko(f:z4):List Int:=NO f++[s3 (NO f).tail/256,s3 (NO f).tail%256]
def aWT(f:z4):(Ko f).length=f.data.length+6:=by simp[Ko,NO]
structure fG where
 time:Int
 kind:Int
 target:Int
 value:Int
 deriving DecidableEq,Inhabited
def fG.cells(x:fG):List Value:=[.int .i64 x.time,.int .i64 x.kind,.int .i64 x.target,.int .i64 x.value]
abbrev iI(x:a4 fG):fJ:=x.gN 4 fG.cells []
structure bZ where
 time:Int
 held:List Int
 eK:Int
 c7:List eE
 eG:List fU
 aV:List b8
 Y:List bS
 aD:jP
 eQ:List fG
structure hL where
 aK:eA
 cI:List Int
 bX:Int
 b0:List Bool
def Ql(S:List gP)(kind target:Int):Option Nat:=(List.range S.length).find? λi=>decide ((S.getD i default).kind=kind/\(S.getD i default).target=target)
def CW(S:List gP)(m:List eE)(t kind target n:Int):Int:=
 match Ql S kind target with
 |none=>-1
 |some i=>if(p6 S m (i:Int) t).bU=(p6 S m (i:Int) t).bW/\0<=(p6 S m (i:Int) t).bU/\(p6 S m (i:Int) t).bU<n then(p6 S m (i:Int) t).bU else -1
def aHz(S:List gP)(m:List eE)(t kind target n:Int)(b1:0<=n):-1<=CW S m t kind target n/\(CW S m t kind target n<n\/CW S m t kind target n= -1):=by
 rw[CW];split;·omega
 ·split<;>omega
def EF(s:eA)(m:List eE)(t:Int)(k:Nat):List Int:=(List.range k).map λ(i:Nat)=>CW s.cO.l m t 5 (i:Int) 3
def HH(s:eA)(m:List eE)(t:Int)(k:Nat):List Int:=(List.range k).map λ(i:Nat)=>CW s.cO.l m t 6 (i:Int) ((s.b0.cM.l.getD i default).hS.l.length:Int)
def UW(s:eA)(m:List eE)(t:Int):Qb:=(EF s m t s.b0.c3.l.length,HH s m t s.b0.cM.l.length)
def HL(s:eA)(A:List Bool)(m:List eE)(t:Int):List bC:=(M2 (ZM s.b0 A (UW s m t)) kH 3 s.cO.l m t).dD
def aZj(s:eA)(m:List eE)(t:Int)(k:Nat):EF s m t (k+1)=EF s m t k++[CW s.cO.l m t 5 (k:Int) 3]:=by rw[EF,IX,u1];rfl
def aHp(s:eA)(m:List eE)(t:Int)(k:Nat):HH s m t (k+1)=HH s m t k++[CW s.cO.l m t 6 (k:Int) ((s.b0.cM.l.getD k default).hS.l.length:Int)]:=by rw[HH,IX,u1];rfl
def a0N(s:eA)(m:List eE)(t:Int)(k:Nat):(EF s m t k).length=k:=by simp[EF]
def Yc(s:eA)(m:List eE)(t:Int)(k:Nat):(HH s m t k).length=k:=by simp[HH]
def a69{s:eA}(m:List eE)(t:Int):l0 s.b0 (Ax (UW s m t))=true:=by
 refine aZA ⟨a0N ..,Yc ..,λi x K=>?_,λi x d K bM=>?_⟩;·have K:(EF s m t s.b0.c3.l.length)[i]? =some x:=K;rw[EF,pA]at K;obtain⟨aE,-⟩:=List.getElem?_eq_some_iff.1 (show(EF s m t s.b0.c3.l.length)[i]?=some x from by rw[EF,pA];exact K);rw[a0N]at aE;rw[KP aE]at K;have e:=yF K;have:=aHz s.cO.l m t 5 (i:Int) 3 aW;dsimp only at e;rw[<-e];omega
 ·have K:(HH s m t s.b0.cM.l.length)[i]? =some x:=K;obtain⟨aE,-⟩:=List.getElem?_eq_some_iff.1 K;rw[Yc]at aE;rw[HH,pA,KP aE]at K;have e:=yF K;have b7:=getD_some (d:=default) bM;have:=aHz s.cO.l m t 6 (i:Int) ((s.b0.cM.l.getD i default).hS.l.length:Int) D;rw[b7]at this;dsimp only at e;rw[<-e,b7];omega
def O7(l:List fG)(e:fG):List fG:=(l++[e]).drop (l.length+1-400)
def aYw{l:List fG}(e:fG):(O7 l e).length<=400:=by rw[O7,DL,l9];simp;omega
def nT(p:bZ)(kind target value:Int):bZ:={p with eQ:=O7 p.eQ ⟨p.time,kind,target,value⟩}
def w4(g:hL)(p:bZ)(z:Int):bZ:=
 let gI:=nT p 1 z (p.aV.getD z.toNat default).i4
 let s:=g.cI.getD z.toNat 0
 let eF:bZ:={gI with Y:=p7 p.Y s p.time}
 if(p.Y.getD s.toNat default).eJ=true then nT eF 2 s 0 else eF
def CZ(g:hL)(p:bZ)(l:List Int):bZ:=l.foldl (w4 g) p
def v3(kind:Int)(p:bZ)(l:List Int):bZ:=l.foldl (λp x=>nT p kind x 0) p
def Rr(g:hL)(Y:List bS)(z:Nat):Bool:=(vU Y g.cI g.bX (g.cI.getD z 0)).any λk=>!(Y.getD k.toNat default).eJ||decide ((Y.getD k.toNat default).c1= -1)
def JH(g:hL)(dR:List Int)(p:bZ)(z:Nat):bZ:=
 if(p.aV.getD z default).off=true\/Rr g p.Y z=false then p
 else w4 g {p with aV:=p.aV.set z ⟨true,(p.aV.getD z default).clear,tL (g.aK.a2.l.getD z default).jN.l dR⟩} (z:Int)
def m5(g:hL)(dR:List Int)(p:bZ):Nat->bZ
 |0=>p
 |k+1=>JH g dR (m5 g dR p k) k
def Ku(c:List b8)(r:jP):Prop:=r.dN= -1\/((0<=r.dN/\r.dN<c.length)/\(c.getD r.dN.toNat default).off=true/\(c.getD r.dN.toNat default).clear≠-1)
instance(c:List b8)(r:jP):Decidable (Ku c r):=by unfold Ku;infer_instance
def nQ(c:List b8)(r:jP):jP:=if Ku c r then r else xK
def e9(g:hL)(p:bZ):List bC:=HL g.aK g.b0 p.c7 p.time
def nR(g:hL)(p:bZ):List Int:=GW g.aK p.c7 p.eG (e9 g p) p.time
def iH(g:hL)(p:bZ):bZ:=
 CZ g {p with eG:=oR g.aK p.c7 p.eG (e9 g p) p.time,aV:=o1 g.aK (nR g p) p.aV p.time} (x6 g.aK (nR g p) p.aV p.time)
def KL(g:hL)(p:bZ):bZ:=
 v3 2 (v3 3 {p with aD:=nQ p.aV p.aD,Y:=(nA p.Y g.bX p.time).Y} (nA p.Y g.bX p.time).bY) (nA p.Y g.bX p.time).RA
def bP(g:hL)(uA:bZ)(t:Int):bZ:=
 let p:={uA with time:=t}
 let q:=KL g (iH g p)
 m5 g (nR g p) q q.aV.length
def nU(p:bZ)(t:Int):Prop:=t<p.time\/2147483648<t
instance(p:bZ)(t:Int):Decidable (nU p t):=by unfold nU;infer_instance
def BG(S:List gP)(qB:Int):Int:=(((List.range S.length).find? λi=>decide ((S.getD i default).hX=qB)).map Int.ofNat).getD (-1)
structure Inv(g:hL)(p:bZ):Prop where
 aK:nO g.aK=0
 xA:lB g.aK.b0.aC g.b0
 time:0<=p.time/\p.time<=2147483648
 c7:p.c7.length=g.aK.cO.l.length
 IK:∀x∈p.c7,v2 x
 Bq:p.eG.length=g.aK.fC.l.length
 Br:∀w∈p.eG,I6 w/\w.A2<=p.time
 BU:p.aV.length=g.aK.a2.l.length
 y6:jS p.Y g.cI g.bX=0
 cZ:∀x∈p.Y,x.cZ<=p.time
 Ik:g.cI.length=g.aK.a2.l.length
 aD:0<=p.aD.time/\(p.aD.dN= -1\/(0<=p.aD.dN/\p.aD.dN<p.aV.length))
 eQ:p.eQ.length<=400
 held:pN p.held/\p.held.length<=70
section
variable{g:hL}{p:bZ}
def Inv.OQ(h:Inv g p):PI g.aK:=JT h.aK
def Inv.ZN(h:Inv g p):aDq p.Y g.cI g.bX:=xZ h.y6
def Inv.b0(h:Inv g p):h5 g.aK.b0=0:=h.OQ.b0
def Inv.Vs(h:Inv g p):JD p.Y p.time:=⟨h.time,h.cZ⟩
def Inv.at(h:Inv g p){t:Int}(O:p.time<=t)(X:t<=2147483648):Inv g {p with time:=t}:=
 {h with time:=⟨by have:=h.time;dsimp only;omega,X⟩,Br:=λw dH=>⟨(h.Br w dH).1,by have:=(h.Br w dH).2;dsimp only;omega⟩,cZ:=λx K=>by have:=h.cZ x K;dsimp only;omega}
def Inv.yC(h:Inv g p)(kind target value:Int):Inv g (nT p kind target value):={h with eQ:=by show(O7 p.eQ _).length<=400;exact aYw _}
def Inv.Nb(h:Inv g p){Y:List bS}(k:tM p.Y Y p.time):Inv g {p with Y:=Y}:=
 {h with y6:=k.jS h.y6 h.time,cZ:=(k.time h.Vs).2}
def Inv.cut(h:Inv g p)(z:Int):Inv g (w4 g p z):=by
 have O:=h.yC 1 z (p.aV.getD z.toNat default).i4;have X:=O.Nb (Y:=p7 p.Y (g.cI.getD z.toNat 0) p.time) ((tM.refl h.y6 p.time).a2Y _);rw[w4];split;·exact X.yC _ _ _
 ·exact X
def aKt: ∀(l:List Int) {p:bZ},Inv g p->Inv g (CZ g p l)
 |[],_,h=>h
 |z::l,_,h=>aKt l (h.cut z)
def Inv.aV(h:Inv g p)(l:List Int):Inv g (CZ g p l):=aKt l h
def aGu(kind:Int): ∀(l:List Int) {p:bZ},Inv g p->Inv g (v3 kind p l)
 |[],_,h=>h
 |z::l,_,h=>aGu kind l (h.yC kind z 0)
def Inv.Az(kind:Int)(h:Inv g p)(l:List Int):Inv g (v3 kind p l):=aGu kind l h
def aH3(z:Int):(w4 g p z).aV=p.aV:=by rw[w4];split<;>rfl
def Inv.a78(h:Inv g p):(e9 g p).length=g.aK.b0.aC.aJ.l.length:=by rw[e9,HL,M2,(a6b ..).1,ZM];exact a1i h.b0 (a69 _ _) h.xA
def aVX{S:List gP}{n:Nat}{c:qM}(h:K1 S n c=0)(aG:c.kind=1):F2 c.nF:=by
 rw[K1]at h;split at h;·omega
 split at h;·omega
 rw[JE]at h;exact a3i
def Inv.Wb(h:Inv g p):pI g.aK p.c7 p.eG (e9 g p) p.time=0:=by
 have fH:=h.time;rw[pI,if_neg (by rw[h.aK];decide),if_neg (by rw[h.c7,h.Bq,h.a78];simp),if_neg D];have:(List.range p.eG.length).findSome? (λi=>xL (CL (g.aK.fC.l.getD i default) (p.eG.getD i default) p.time))=none:=by
  rw[OU];intro i aE;rw[XP]at aE;have dH:=h.Br _ (hV (bJ (l:=p.eG) (k:=i) default aE));have cG:=h.OQ.cond _ (hV (bJ (l:=g.aK.fC.l) (k:=i) default (by rw[<-h.Bq];exact aE)));rw[xL,if_pos];rw[CL];split;·rename_i aG;exact a6Z (aVX cG aG) D dH.1
  ·rfl
 rw[this];rfl
def b0D(l:yW){w:fU}(x:bC){t:Int}(fH:0<=t)(h:I6 w)(aX:w.A2<=t):I6 (v4 l w x t)/\(v4 l w x t).A2<=t:=by
 obtain⟨O,X,aU,cK⟩:=h;rw[v4];repeat' split
 all_goals refine⟨⟨fH,?_,?_,?_⟩,pJ _⟩
 all_goals dsimp only
 all_goals first|omega|exact .inl rfl|exact .inr rfl|(rcases cK with cK|cK;exact .inl cK;simp_all)
def Inv.b7k(h:Inv g p):(nR g p).length=g.aK.fC.l.length:=by rw[nR,GW,if_neg (by rw[h.Wb];decide),sV,aCy,h.Bq]
def Inv.a71(h:Inv g p):pU g.aK (nR g p) p.aV p.time=0:=by have fH:=h.time;rw[pU,if_neg (by rw[h.aK];decide),if_neg (by rw[h.b7k,h.BU];simp),if_neg D]
def Inv.aB6(h:Inv g p):Inv g {p with eG:=oR g.aK p.c7 p.eG (e9 g p) p.time,aV:=o1 g.aK (nR g p) p.aV p.time}:=by
 have dH:(oR g.aK p.c7 p.eG (e9 g p) p.time).length=p.eG.length:=by rw[oR,if_neg (by rw[h.Wb];decide),sV,aCy]
 have cG:(o1 g.aK (nR g p) p.aV p.time).length=p.aV.length:=by rw[o1,if_neg (by rw[h.a71];decide),sV,aCy]
 refine{h with Bq:=dH.trans h.Bq,Br:=λw a3=>?_,BU:=cG.trans h.BU,aD:=by rw[cG];exact h.aD};have a3:w∈oR g.aK p.c7 p.eG (e9 g p) p.time:=a3;rw[oR,if_neg (by rw[h.Wb];decide),List.mem_map]at a3;obtain⟨i,aE,rfl⟩:=a3;rw[XP]at aE;have dH:=h.Br _ (hV (bJ (l:=p.eG) (k:=i) default aE));show I6 (DZ _ _ _ _ _)/\(DZ _ _ _ _ _).A2<=p.time;rw[DZ];split;·exact b0D _ _ h.time.1 dH.1 dH.2
 ·exact dH
def Inv.iH(h:Inv g p):Inv g (iH g p):=h.aB6.aV _
def a7K(c:List b8)(r:jP)(h:0<=r.time):0<=(nQ c r).time/\((nQ c r).dN= -1\/(0<=(nQ c r).dN/\(nQ c r).dN<c.length)):=by
 rw[nQ];split;·rename_i aG;rw[Ku]at aG;exact⟨h,aG.imp_right λh=>h.1⟩
 ·exact⟨by decide,.inl rfl⟩
def Inv.KL(h:Inv g p):Inv g (KL g p):=by have O:Inv g {p with aD:=nQ p.aV p.aD}:={h with aD:=a7K _ _ h.aD.1};have X:=O.Nb (Y:=(nA p.Y g.bX p.time).Y) (Ix h.y6 _ (iK _));exact(X.Az 3 _).Az 2 _
def Inv.b1w(h:Inv g p)(dR:List Int)(z:Nat):Inv g (JH g dR p z):=by
 rw[JH];split;·exact h
 ·refine Inv.cut (p:={p with aV:=p.aV.set z ⟨true,(p.aV.getD z default).clear,tL (g.aK.a2.l.getD z default).jN.l dR⟩}) ?_ _;exact{h with BU:=by show(p.aV.set _ _).length=_;rw[q0];exact h.BU,aD:=by show _/\(_\/(_/\_<((p.aV.set _ _).length:Int)));rw[q0];exact h.aD}
def Inv.m5(h:Inv g p)(dR:List Int): ∀k,Inv g (m5 g dR p k)
 |0=>h
 |k+1=>(Inv.m5 h dR k).b1w dR k
def Inv.settle(h:Inv g p){t:Int}(O:p.time<=t)(X:t<=2147483648):Inv g (bP g p t):=((h.at O X).iH.KL).m5 _ _
def aHh(z:Int):(w4 g p z).time=p.time:=by rw[w4];split<;>rfl
end
section
attribute [local irreducible] cQ dF dV aM cP eC e5 e1 e2 e6 eX e4 J.L
def V5(k:Int):Int:=if k=6 then 5 else if k=5 then 2 else 1
def Cy(s:gP)(r:Int):bC:=⟨s.offset+s.GV*r/1000-s.error,s.offset+ -((-(s.GV*r))/1000)+s.error⟩
def BH(s:gP)(r:Int):bC:=
 if p5 s≠0\/¬(0<=r/\r<=65535)then kH
 else if 4<=s.kind then if V5 s.kind<r then kH else⟨r,r⟩
 else if s.kind=1\/s.kind=2 then⟨max (Cy s r).bU 0,max (Cy s r).bW 0⟩else Cy s r
def a0T{s:gP}(h:p5 s=0):DW s:=by
 rw[p5]at h;split at h;·omega
 exact a3i
def a60{s:gP}{r:Int}(h:p5 s=0)(M:0<=r/\r<=65535):-65535000000<=s.GV*r/\s.GV*r<=65535000000:=by have aH:=a0T h;rw[DW]at aH;have O:s.GV*r<=1000000*r:=a3o D M.1;have X:-1000000*r<=s.GV*r:=a3o D M.1;omega
def aUl(s:gP)(r:Int)(L:aR)(R:aO):
 aM prog 262 [s.val,.int .i64 r].toArray L R (λv E G=>v=(BH s r).val/\L=E/\R=G):=by
 refine b6 67 call262 func262 rfl rfl rfl ?_;apply(dB);intro eH;apply(dZ);intro eD;apply(rF);refine aI q1 rfl ?_;refine cD rfl (Yr s _ _) ?_;apply(p9);apply cA (Z:=[_,_,_]) (j:=3) (a9:=10) rfl rfl aB rfl aY rfl;·intro eR;replace eR:=bB eR;apply(cE);refine cD rfl Xj ?_;exact I0
 intro h8;apply(b9);refine U ?_ ?_<;>intro aQ;·apply(dC);refine cD rfl G5 ?_;apply(CR);refine bQ L R kS ?_;exact⟨by rw[BH,if_pos Og],rfl,rfl⟩
 have c5:¬(p5 s≠0\/¬(0<=r/\r<=65535)):=by simp at aQ;omega
 have pG:=a60 (s:=s) (r:=r) D D;have xH:=a0T (s:=s) D;rw[DW]at xH;apply(D5);refine cD rfl (aFo _ _ _) ?_;apply(b9);refine U ?_ ?_<;>intro bL;·
  apply PU∘fD∘nJ;refine F3 [5] ((⟨λg=>[(5,.int .i64 g.1)],λ_=>⟨eD,[.int .i64 0,.int .i64 0],90⟩::⟨eH,s.cells,88⟩::L,λ_=>R,λ_=>0⟩:fB {n:Int//n=if s.kind=5 then 2 else 1})) ?_ ?_;·
   skip
   refine U ?_ ?_<;>intro cC;·apply eB∘Dp;exact wU ⟨2,by rw[if_pos cC]⟩
   refine eP ?_;exact wU ⟨1,by rw[if_neg cC]⟩
  rintro⟨OG,AS⟩ cH;try dsimp only
  apply tD∘fD∘nJ;refine F3 [5] ((⟨λg=>[(5,.int .i64 g.1)],λ_=>⟨eD,[.int .i64 0,.int .i64 0],90⟩::⟨eH,s.cells,88⟩::L,λ_=>R,λ_=>0⟩:fB {n:Int//n=V5 s.kind})) ?_ ?_;·
   skip
   refine U ?_ ?_<;>intro dX;·apply eB∘Dp;exact wU ⟨5,by rw[V5,if_pos dX]⟩
   refine eP ?_;exact wU ⟨OG,by rw[V5,if_neg dX,AS]⟩
  rintro⟨Mo,WQ⟩ cH;try dsimp only
  apply FR∘Ds∘b9;refine U ?_ ?_<;>intro dY;·apply(dC);refine cD rfl G5 ?_;apply(jZ);refine eZ (a8 (iY (gB (gB ?_))));refine bQ L R kS ?_;exact⟨by rw[BH,if_neg c5,if_pos bL,if_pos D],rfl,rfl⟩
  apply e0∘lD∘A4∘CR;refine bQ L R kS ?_;exact⟨by rw[BH,if_neg c5,if_pos bL,if_neg D],rfl,rfl⟩
 apply(wW);refine gZ N [0,1,2,3,4,5,8,9,11,12,13,14,15,16,19,20,6,7,10,17,18,21,22,23,24] ([bN.mk eH _ _]) dO bI bA ?_;apply g7∘l1∘Hl∘g7∘g7∘l1∘Hl∘g7;refine lW rfl (aEU (s.GV*r) 1000 _ _ D aW) ?_;apply GR∘vQ;refine lW rfl (aH2 (s.GV*r) 1000 _ _ D aW) ?_;apply GR∘GR;refine bE Oe rfl rfl rfl ?_;apply(qH);intro i1;apply uC∘L4∘fD;refine cD rfl (aEQ _ _ _) ?_;apply(b9);refine U ?_ ?_<;>intro h1;·apply eB∘fD;refine aI E1 rfl ?_;apply(fD);refine aI E1 rfl ?_;apply vZ∘NB∘JP;refine bQ L R kS ?_;exact⟨by rw[BH,if_neg c5,if_neg bL,if_pos D];try rfl,rfl,rfl⟩
 apply e0∘JP;refine bQ L R kS ?_;exact⟨by rw[BH,if_neg c5,if_neg bL,if_neg D];try rfl,rfl,rfl⟩
end
def uG(S:List gP)(f:z4)(t:Int):Int:=
 if t<0\/2147483648<t then 8
 else if BG S f.hX<0\/p5 (S.getD (BG S f.hX).toNat default)≠0 then 9
 else if f.kind≠1/\f.kind≠2 then 5
 else if f.kind=1/\f.data.length≠2\/f.kind=2/\f.data.length≠0 then 6 else 0
def Jl(S:List gP)(f:z4)(t:Int):eE:=
 ⟨BG S f.hX,t,if f.kind=1 then BH (S.getD (BG S f.hX).toNat default) (f.data.getD 0 0*256+f.data.getD 1 0)else kH⟩
def HD(S:List gP)(t:Int)(m:List eE)(f:z4):List eE:=if uG S f t=0 then m.set (BG S f.hX).toNat (Jl S f t)else m
def QD(g:hL)(p:bZ)(b:List Int)(t:Int):bZ:=
 {p with held:=(jO (p.held++b) p.eK).held,eK:=(jO (p.held++b) p.eK).eK,c7:=(jO (p.held++b) p.eK).dD.foldl (HD g.aK.cO.l t) p.c7}
def FD(g:hL)(p:bZ)(b:List Int)(t:Int):bZ×Int:=if nU p t then(p,8)else(bP g (QD g p b t) t,0)
def FC(g:hL)(p:bZ)(t:Int):bZ×Int:=if nU p t then(p,8)else(bP g p t,0)
def AF(g:hL)(p:bZ)(s sh t:Int):bZ×Int:=
 if nU p t then(p,8)else if q6 p.Y g.cI g.bX s sh≠0 then(p,q6 p.Y g.cI g.bX s sh)else(bP g {p with Y:=JV p.Y s sh} t,0)
def x0(g:hL)(p:bZ)(Hj dN t:Int):bZ×Int:=
 if nU p t then(p,8)
 else
  let q:=bP g p t
  let e:=oZ g.aK q.aV (e9 g q) q.aD Hj dN t
  if e≠0 then(nT q 7 dN e,e)else(nT {q with aD:=s9 g.aK q.aV (e9 g q) q.aD Hj dN t} 4 dN Hj,0)
def z1(g:hL)(p:bZ)(Hj t:Int):bZ×Int:=
 if nU p t then(p,8)
 else
  let q:=bP g p t
  let e:=rV g.aK q.aV (e9 g q) q.aD Hj t
  if e≠0 then(nT q 7 q.aD.dN e,e)else(nT {q with aD:=tU g.aK q.aV (e9 g q) q.aD Hj t} 5 q.aD.dN Hj,0)
def nY(g:hL)(p:bZ):hJ:=⟨⟨none,0,p.Y⟩,⟨none,0,g.cI⟩,g.bX⟩
def zU(g:hL)(p:bZ)(t:Int):bZ×Int:=
 if nU p t then(p,8)
 else
  let q:=bP g p t
  let e:=qL g.aK q.aV (e9 g q) q.aD (nY g q) t
  if e≠0 then(nT q 7 q.aD.dN e,e)
  else(nT {q with aD:=x4 g.aK q.aV (e9 g q) q.aD (nY g q) t,aV:=AE g.aK q.aV (e9 g q) q.aD (nY g q) t,Y:=BR g.aK q.aV (e9 g q) q.aD (nY g q) t} 6 (v5 (nY g q) q.aD.dN) 0,0)
def Ef(l:yW)(w:fU):Int:=if JE l≠0\/w.cZ<0 then 1099511627776 else w.cZ+l.Ej
def yL(g:hL)(p:bZ):Nat->Int->Int
 |0,v=>v
 |k+1,v=>if(g.aK.fC.l.getD k default).kind=1 then min (yL g p k v) (Ef (g.aK.fC.l.getD k default).nF (p.eG.getD k default))else yL g p k v
def a4D(g:hL)(p:bZ):Bool:=(List.range g.aK.cO.l.length).any λi=>decide (p6 g.aK.cO.l p.c7 (i:Int) p.time≠kH)
def Rf(g:hL)(p:bZ):Int:=if a4D g p=true then min (yL g p g.aK.fC.l.length (M0 p.Y g.bX)) p.time else yL g p g.aK.fC.l.length (M0 p.Y g.bX)
def Ja(g:hL)(p:bZ):Int:=if Rf g p<=p.time then p.time+1 else Rf g p
def aX0{S:List gP}{qB:Int}(h:¬BG S qB<0):(BG S qB).toNat<S.length/\0<=BG S qB:=by
 rw[BG]at h|-;cases aF:(List.range S.length).find? (λi=>decide ((S.getD i default).hX=qB))with
 |none=>rw[aF]at h;exact absurd aW h
 |some i=>have:=List.mem_of_find?_eq_some aF;rw[XP]at this;exact⟨this,Int.natCast_nonneg i⟩
def aZz(S:List gP)(t:Int)(m:List eE)(f:z4):(HD S t m f).length=m.length:=by rw[HD];split<;>simp
def aYs{a t:Int}(fH:0<=t/\t<=2147483648):v2 ⟨a,t,kH⟩:=⟨fH,by show(-1125899906842624:Int)<= -1125899906842624/\(-1125899906842624:Int)<=1125899906842624;decide,by show(-1125899906842624:Int)<=1125899906842624/\(1125899906842624:Int)<=1125899906842624;decide⟩
def aKF(s:gP)(r:Int):(-1125899906842624<=(BH s r).bU/\(BH s r).bU<=1125899906842624)/\(-1125899906842624<=(BH s r).bW/\(BH s r).bW<=1125899906842624):=by
 rw[BH];split;·exact⟨by decide,by decide⟩
 rename_i h;have a3:=a60 (s:=s) (r:=r) D D;have aH:=a0T (s:=s) D;rw[DW]at aH;split;·
  split;·exact⟨by decide,by decide⟩
  ·dsimp only;omega
 split;·simp only[Cy];omega
 ·simp only[Cy];omega
def aXy{S:List gP}{t:Int}{m:List eE}(f:z4)(h:∀x∈m,v2 x):∀x∈HD S t m f,v2 x:=by
 rw[HD];split;·
  rename_i W;intro x K;rcases List.mem_or_eq_of_mem_set K with K|rfl;·exact h x K
  ·
   have fH:0<=t/\t<=2147483648:=by
    rw[uG]at W;split at W;·cases W
    ·omega
   rw[Jl];split;·exact⟨fH,(aKF _ _).1,(aKF _ _).2⟩
   ·exact aYs fH
 ·exact h
def a1u{S:List gP}{t:Int}: ∀(l:List z4) {m:List eE},(∀x∈m,v2 x)->(∀x∈l.foldl (HD S t) m,v2 x)/\(l.foldl (HD S t) m).length=m.length
 |[],m,h=>⟨h,rfl⟩
 |f::l,m,h=>by
  have:=a1u (S:=S) (t:=t) l (aXy (S:=S) (t:=t) f h)
  exact⟨this.1,this.2.trans (aZz ..)⟩
def aI8:∀(n:Nat) {l:List Int} (d:Int),l.length=n->pN l->(pN (jO l d).held/\(jO l d).held.length<=70)/\d<=(jO l d).eK/\(jO l d).eK<=d+n:=by
 intro n;induction n using Nat.strongRecOn with
 |ind n c6=>
  intro l d b1 a5;rcases DM (l=[])with h|h;·subst h;rw[Ro];exact⟨⟨λx K=>(by cases K),EZ _⟩,pJ _,(by show d<=d+(n:Int);omega)⟩
  ·
   have WV:=List.length_pos_iff.2 h;have C6:pN l.tail:=λx K=>a5 x (aCo K);have Gu:=c6 l.tail.length (by rw[Nr];omega) (d+1) rfl C6;(have b96:((l.tail.length:Nat):Int)+1=n:=by rw[Nr];omega);rcases DM (xV l)with O|O;·rw[Da h (.inl O)];exact⟨Gu.1,by omega,by omega⟩
   ·
    rcases DM (x1 l)with X|X;·rw[Ri h O X];refine⟨⟨a5,?_⟩,pJ _,by dsimp only;omega⟩;have K:=a5.at 1;rw[x1]at X;rw[xV]at O;have:¬(1<l.length/\64<l.getD 1 0):=λh=>O (.inr h);dsimp only;omega
    ·
     rcases DM (s3 (JL l)=NN l)with aU|aU;·rw[Yv h O X aU];have:=c6 (l.drop (jM l+6)).length (by rw[DL];omega) d rfl (λx K=>a5 x (Cb K));refine⟨this.1,this.2.1,?_⟩;have cK:=this.2.2;rw[DL]at cK;dsimp only;omega
     ·rw[Da h (.inr ⟨X,aU⟩)];exact⟨Gu.1,by omega,by omega⟩
section
variable{g:hL}{p:bZ}
def Inv.QD(h:Inv g p){b:List Int}(a5:pN b)(t:Int):Inv g (QD g p b t):=by
 have O:=a1u (S:=g.aK.cO.l) (t:=t) (jO (p.held++b) p.eK).dD h.IK;have X:=aI8 _ (l:=p.held++b) p.eK rfl (λx K=>by
  rcases List.mem_append.1 K with K|K;·exact h.held.1 x K
  ·exact a5 x K)
 exact{h with c7:=O.2.trans h.c7,IK:=O.1,held:=X.1}
def aHA(l:List Int):(CZ g p l).time=p.time:=by
 induction l generalizing p with
 |nil=>rfl
 |cons z l c6=>exact c6.trans (aHh z)
def aKk(kind:Int)(l:List Int):(v3 kind p l).time=p.time:=by
 induction l generalizing p with
 |nil=>rfl
 |cons z l c6=>exact c6
def a6e(dR:List Int): ∀k,(m5 g dR p k).time=p.time
 |0=>rfl
 |k+1=>by
  rw[m5,JH]
  split
  ·exact a6e dR k
  ·rw[aHh];exact a6e dR k
def aY4(t:Int):(bP g p t).time=t:=by rw[bP];rw[a6e,KL,aKk,aKk];dsimp only;rw[iH,aHA]
def uH{t:Int}(h:¬nU p t):p.time<=t/\t<=2147483648:=by rw[nU]at h;omega
def Inv.b1J(h:Inv g p){b:List Int}(a5:pN b)(t:Int):Inv g (FD g p b t).1:=by
 rw[FD];split;·exact h
 ·rename_i aX;exact(h.QD a5 t).settle (uH aX).1 (uH aX).2
def Inv.b7b(h:Inv g p)(t:Int):Inv g (FC g p t).1:=by
 rw[FC];split;·exact h
 ·rename_i aX;exact h.settle (uH aX).1 (uH aX).2
def Inv.a7S(h:Inv g p){s sh:Int}(W:q6 p.Y g.cI g.bX s sh=0):Inv g {p with Y:=JV p.Y s sh}:=by
 rw[q6,if_neg (by rw[h.y6];decide)]at W;split at W;·cases W
 rename_i O;split at W;·cases W
 rename_i X;have b7:=aK5 h.y6 s.toNat D;have k:tM p.Y (JV p.Y s sh) p.time:=(tM.refl h.y6 p.time).set rfl (.inl rfl) hO (λaU=>by
  dsimp only at aU;split at aU;·exact absurd aU.1 aW
  ·
   rename_i cK;rcases aU.2 with fY|fY;·exact b7.2 ⟨aU.1,.inl fY⟩
   ·exact cK fY)
 exact h.Nb k
def Inv.b09(h:Inv g p)(s sh t:Int):Inv g (AF g p s sh t).1:=by
 rw[AF];split;·exact h
 rename_i aX;split;·exact h
 rename_i W;exact(h.a7S (Decidable.not_not.1 W)).settle (uH aX).1 (uH aX).2
def Inv.b1c(h:Inv g p)(a z t:Int):Inv g (x0 g p a z t).1:=by
 rw[x0];split;·exact h
 rename_i aX;have aH:=h.settle (uH aX).1 (uH aX).2;dsimp only;split;·exact aH.yC _ _ _
 ·
  rename_i W;have W:oZ g.aK (bP g p t).aV (e9 g (bP g p t)) (bP g p t).aD a z t=0:=Decidable.not_not.1 W;have e:s9 g.aK (bP g p t).aV (e9 g (bP g p t)) (bP g p t).aD a z t=⟨z,a,-1,1,t⟩:=by rw[s9,if_pos W]
  have O:Inv g {bP g p t with aD:=s9 g.aK (bP g p t).aV (e9 g (bP g p t)) (bP g p t).aD a z t}:=by
   refine{aH with aD:=?_};rw[e];refine⟨by have:=h.time;have:=uH aX;dsimp only;omega,.inr ?_⟩;rw[oZ]at W;split at W;·omega
   split at W;·cases W
   split at W;·cases W
   exact Yd W
  exact O.yC _ _ _
def Inv.b1t(h:Inv g p)(a t:Int):Inv g (z1 g p a t).1:=by
 rw[z1];split;·exact h
 rename_i aX;have aH:=h.settle (uH aX).1 (uH aX).2;dsimp only;split;·exact aH.yC _ _ _
 ·
  rename_i W;have W:rV g.aK (bP g p t).aV (e9 g (bP g p t)) (bP g p t).aD a t=0:=Decidable.not_not.1 W;have O:Inv g {bP g p t with aD:=tU g.aK (bP g p t).aV (e9 g (bP g p t)) (bP g p t).aD a t}:=by refine{aH with aD:=?_};rw[tU,if_pos W];exact⟨by have:=h.time;have:=uH aX;dsimp only;omega,aH.aD.2⟩
  exact O.yC _ _ _
def Inv.close(h:Inv g p)(t:Int):Inv g (zU g p t).1:=by
 rw[zU];split;·exact h
 rename_i aX;have aH:=h.settle (uH aX).1 (uH aX).2;dsimp only;generalize cJ:bP g p t=q at aH|-;have fH:q.time=t:=by rw[<-cJ];exact aY4 ..
 split;·exact aH.yC _ _ _
 ·
  rename_i W;have W:qL g.aK q.aV (e9 g q) q.aD (nY g q) t=0:=Decidable.not_not.1 W;have k:tM q.Y (BR g.aK q.aV (e9 g q) q.aD (nY g q) t) q.time:=by rw[BR,if_neg Xt,Kr];exact(tM.refl aH.y6 q.time).set rfl (.inr fH.symm) (by show(-1:Int)<=0/\(0:Int)<=1;decide) g2
  have cG:(AE g.aK q.aV (e9 g q) q.aD (nY g q) t).length=q.aV.length:=by rw[AE,if_neg Xt];split<;>simp
  have M:0<=(x4 g.aK q.aV (e9 g q) q.aD (nY g q) t).time/\((x4 g.aK q.aV (e9 g q) q.aD (nY g q) t).dN= -1\/(0<=(x4 g.aK q.aV (e9 g q) q.aD (nY g q) t).dN/\(x4 g.aK q.aV (e9 g q) q.aD (nY g q) t).dN<(AE g.aK q.aV (e9 g q) q.aD (nY g q) t).length)):=by
   rw[cG,x4,if_neg Xt];split;·exact⟨by decide,.inl rfl⟩
   ·exact⟨by have:=h.time;have:=uH aX;dsimp only;omega,aH.aD.2⟩
  exact Inv.yC (p:={q with aD:=x4 g.aK q.aV (e9 g q) q.aD (nY g q) t,aV:=AE g.aK q.aV (e9 g q) q.aD (nY g q) t,Y:=BR g.aK q.aV (e9 g q) q.aD (nY g q) t}) {(aH.Nb k)with BU:=cG.trans aH.BU,aD:=M} _ _ _
end
structure cL where
 aK:eA
 time:Int
 held:a4 Int
 eK:Int
 c7:a4 eE
 eG:a4 fU
 aV:a4 b8
 cU:hJ
 aD:jP
 eQ:a4 fG
def cL.cells(x:cL):List Value:=[x.aK.b0.aC.places.val,x.aK.b0.aC.aJ.val,x.aK.b0.c3.val,x.aK.b0.cM.val,x.aK.cO.val,x.aK.fC.val,x.aK.a2.val,x.aK.lM.val,.int .i64 x.time,x.held.val,.int .i64 x.eK,x.c7.val,x.eG.val,x.aV.val,x.cU.aZ.val,x.cU.a2.val,.int .i64 x.cU.cB,.int .i64 x.aD.dN,.int .i64 x.aD.first,.int .i64 x.aD.Hq,.int .i64 x.aD.step,.int .i64 x.aD.time,x.eQ.val]
abbrev cL.val(x:cL):Value:=.agg #[x.aK.b0.aC.places.val,x.aK.b0.aC.aJ.val,x.aK.b0.c3.val,x.aK.b0.cM.val,x.aK.cO.val,x.aK.fC.val,x.aK.a2.val,x.aK.lM.val,.int .i64 x.time,x.held.val,.int .i64 x.eK,x.c7.val,x.eG.val,x.aV.val,x.cU.aZ.val,x.cU.a2.val,.int .i64 x.cU.cB,.int .i64 x.aD.dN,.int .i64 x.aD.first,.int .i64 x.aD.Hq,.int .i64 x.aD.step,.int .i64 x.aD.time,x.eQ.val]
structure kU(x:cL)(R:aO):Prop where
 aK:zY x.aK R
 held:aL (gX x.held) R
 c7:aL (gT x.c7) R
 eG:aL (CJ x.eG) R
 aV:aL (sE x.aV) R
 cU:k0 x.cU R
 eQ:aL (iI x.eQ) R
def kU.mono{x:cL}{R G:aO}(h:kU x R)(k:∀r∈R,aL r G):kU x G:=⟨h.aK.mono k,h.held.mono k,h.c7.mono k,h.eG.mono k,h.aV.mono k,h.cU.mono k,h.eQ.mono k⟩
structure h3(g:hL)(p:bZ)(x:cL):Prop where
 aK:fX x.aK g.aK
 time:x.time=p.time
 held:x.held.l=p.held
 eK:x.eK=p.eK
 c7:x.c7.l=p.c7
 eG:x.eG.l=p.eG
 aV:x.aV.l=p.aV
 Y:x.cU.aZ.l=p.Y
 cI:x.cU.a2.l=g.cI
 bX:x.cU.cB=g.bX
 aD:x.aD=p.aD
 eQ:x.eQ.l=p.eQ
section
variable{P:Program}{bF:Operand->Value}{L:aR}{R:aO}{dst:Option Tmp}{ty:TypeId}{pos:String}{after:Array Edge}{guard:Option (Nat×Bool)}{T iZ:TypeId}{x y z:Operand}{a b c:Int}{k fS:IntKind}
def Ju(K:bF x=.int fS a)(aS:bF y=.int k b)(a5:0<=b)(W:a.fdiv (2^(min b.toNat fS.bits))=c):cP P ⟨dst,.binOp .shr T x y iZ,ty,pos,after,guard⟩ bF L R (.int fS c):=λ_ _ _=>by
 have a5:Op.shift .shr fS a k b=(pure (.int fS c):Sem Value):=by
  unfold Op.shift
  rw[if_neg D,<-W]
 simp[execOp,K,aS,eqGuard,binOp,a5]
def a6O(K:bF x=.int fS a)(aS:bF y=.int k b)(a5:0<=b)(W:fS.wrap (a*2^(min b.toNat fS.bits))=c):cP P ⟨dst,.binOp .shl T x y iZ,ty,pos,after,guard⟩ bF L R (.int fS c):=λ_ _ _=>by
 have a5:Op.shift .shl fS a k b=(pure (.int fS c):Sem Value):=by
  unfold Op.shift
  rw[if_neg D,<-W]
 simp[execOp,K,aS,eqGuard,binOp,a5]
def Pj(K:bF x=.int fS a)(aS:bF y=.int fS b)(W:fS.wrap ((BitVec.ofInt fS.bits a &&& BitVec.ofInt fS.bits b).toNat:Int)=c):cP P ⟨dst,.binOp .and T x y iZ,ty,pos,after,guard⟩ bF L R (.int fS c):=λ_ _ _=>by
 have a5:Op.intBits .and fS a b=(pure (.int fS c):Sem Value):=by
  unfold Op.intBits
  rw[<-W]
 simp[execOp,K,aS,eqGuard,binOp,a5]
def aTJ(K:bF x=.int fS a)(aS:bF y=.int fS b)(W:fS.wrap ((BitVec.ofInt fS.bits a|||BitVec.ofInt fS.bits b).toNat:Int)=c):cP P ⟨dst,.binOp .or T x y iZ,ty,pos,after,guard⟩ bF L R (.int fS c):=λ_ _ _=>by
 have a5:Op.intBits .or fS a b=(pure (.int fS c):Sem Value):=by
  unfold Op.intBits
  rw[<-W]
 simp[execOp,K,aS,eqGuard,binOp,a5]
def aZJ(K:bF x=.int fS a)(aS:bF y=.int fS b)(W:fS.wrap ((BitVec.ofInt fS.bits a^^^BitVec.ofInt fS.bits b).toNat:Int)=c):cP P ⟨dst,.binOp .xor T x y iZ,ty,pos,after,guard⟩ bF L R (.int fS c):=λ_ _ _=>by
 have a5:Op.intBits .xor fS a b=(pure (.int fS c):Sem Value):=by
  unfold Op.intBits
  rw[<-W]
 simp[execOp,K,aS,eqGuard,binOp,a5]
end
def aBO(n w:Nat)(h:n<2^w):(BitVec.ofInt w (n:Int)).toNat=n:=by rw[BitVec.ofInt_natCast,BitVec.toNat_ofNat,Wm h]
def YR(n:Nat)(h:n<2^64):(BitVec.ofInt IntKind.i64.bits (n:Int)).toNat=n:=aBO n 64 h
def Kt{n:Nat}(h:n<2^62):IntKind.i64.wrap (n:Int)=(n:Int):=by unfold IntKind.wrap;simp[IntKind.bits,IntKind.signed];omega
def aEp{a:Int}(h:0<=a/\a<1048576):IntKind.i64.wrap ((BitVec.ofInt IntKind.i64.bits a &&& BitVec.ofInt IntKind.i64.bits 65535).toNat:Int)=a%65536:=by
 obtain⟨n,rfl⟩:∃n:Nat,a=(n:Int):=⟨a.toNat,by omega⟩;have O:(BitVec.ofInt IntKind.i64.bits (n:Int) &&& BitVec.ofInt IntKind.i64.bits 65535).toNat=n%65536:=by rw[a3s,YR n D,show(BitVec.ofInt IntKind.i64.bits 65535).toNat=65535 from YR 65535 aW];exact a3q n 16
 rw[O,Kt D];omega
def aD0{a:Int}(h:0<=a/\a<1048576):IntKind.i64.wrap ((BitVec.ofInt IntKind.i64.bits a &&& BitVec.ofInt IntKind.i64.bits 1).toNat:Int)=a%2:=by
 obtain⟨n,rfl⟩:∃n:Nat,a=(n:Int):=⟨a.toNat,by omega⟩;have O:(BitVec.ofInt IntKind.i64.bits (n:Int) &&& BitVec.ofInt IntKind.i64.bits 1).toNat=n%2:=by rw[a3s,YR n D,show(BitVec.ofInt IntKind.i64.bits 1).toNat=1 from YR 1 aW];exact a3q n 1
 rw[O,Kt D];omega
def aW0{a:Int}(h:0<=a/\a<65536):IntKind.i64.wrap ((BitVec.ofInt IntKind.i64.bits a^^^BitVec.ofInt IntKind.i64.bits 4129).toNat:Int)=a0p a 4129:=by
 obtain⟨n,rfl⟩:∃n:Nat,a=(n:Int):=⟨a.toNat,by omega⟩;have O:(BitVec.ofInt IntKind.i64.bits (n:Int)^^^BitVec.ofInt IntKind.i64.bits 4129).toNat=n^^^4129:=by rw[BitVec.toNat_xor,YR n D,show(BitVec.ofInt IntKind.i64.bits 4129).toNat=4129 from YR 4129 aW]
 have X:n^^^4129<2^16:=Nat.xor_lt_two_pow D aW;rw[O,Kt D,a0p];rfl
def aFu{n:Nat}(h:n<256):IntKind.u8.wrap (n:Int)=(n:Int):=by unfold IntKind.wrap;simp[IntKind.bits,IntKind.signed];omega
def aWc{a:Int}(h:0<=a/\a<256):IntKind.u8.wrap ((BitVec.ofInt IntKind.u8.bits a &&& BitVec.ofInt IntKind.u8.bits 1).toNat:Int)=a%2:=by
 obtain⟨n,rfl⟩:∃n:Nat,a=(n:Int):=⟨a.toNat,by omega⟩;have O:(BitVec.ofInt IntKind.u8.bits (n:Int) &&& BitVec.ofInt IntKind.u8.bits 1).toNat=n%2:=by rw[a3s,show(BitVec.ofInt IntKind.u8.bits (n:Int)).toNat=n from aBO n 8 D,show(BitVec.ofInt IntKind.u8.bits 1).toNat=1 from aBO 1 8 aW];exact a3q n 1
 rw[O,aFu D];omega
def aXg{a b:Int}(bT:0<=a/\a<256)(a5:0<=b/\b<256):IntKind.i64.wrap ((BitVec.ofInt IntKind.i64.bits (a*256)|||BitVec.ofInt IntKind.i64.bits b).toNat:Int)=a*256+b:=by
 obtain⟨n,rfl⟩:∃n:Nat,a=(n:Int):=⟨a.toNat,by omega⟩;obtain⟨m,rfl⟩:∃m:Nat,b=(m:Int):=⟨b.toNat,by omega⟩;have O:(BitVec.ofInt IntKind.i64.bits ((n:Int)*256)|||BitVec.ofInt IntKind.i64.bits (m:Int)).toNat=n*256+m:=by
  rw[BitVec.toNat_or,show((n:Int)*256)=((n*256:Nat):Int) by omega,YR (n*256) D,YR m D];have X:2^8*n|||m=2^8*n+m:=(Nat.two_pow_add_eq_or_of_lt D n).symm
  rw[a3D n 256];exact X
 rw[O,Kt D];omega
def aUV{a:Int}(bT:0<=a/\a<256):IntKind.i64.wrap (a*2^(min (8:Int).toNat IntKind.i64.bits))=a*256:=by
 obtain⟨n,rfl⟩:∃n:Nat,a=(n:Int):=⟨a.toNat,by omega⟩;have:(n:Int)*2^(min (8:Int).toNat IntKind.i64.bits)=((n*256:Nat):Int):=by show(n:Int)*2^8=_;omega
 rw[this,Kt D];omega
def aJO{a:Int}(bT:0<=a/\a<65536):IntKind.i64.wrap (a*2^(min (1:Int).toNat IntKind.i64.bits))=2*a:=by
 obtain⟨n,rfl⟩:∃n:Nat,a=(n:Int):=⟨a.toNat,by omega⟩;have:(n:Int)*2^(min (1:Int).toNat IntKind.i64.bits)=((2*n:Nat):Int):=by show(n:Int)*2^1=_;omega
 rw[this,Kt D];omega
def aEy{a:Int}:a.fdiv (2^(min (15:Int).toNat IntKind.i64.bits))=a/32768:=by show a.fdiv (2^15)=_;rw[a3u _ aW];rfl
def aXX{a:Int}{j:Nat}(a6:j<=7):a.fdiv (2^(min ((j:Int)).toNat IntKind.u8.bits))=a/2^j:=by
 have:min ((j:Int)).toNat IntKind.u8.bits=j:=by show min j 8=j;omega
 rw[this,a3u _ (by exact Int.le_of_lt (Int.pow_pos aW))]
section
attribute [local irreducible] cQ dF dV aM cP eC e5 e1 e2 e6 eX e4 J.L
def aEm(h:A->B:=by exact aI pL rfl):=h
def aWS(h:B:=by exact hP ⟨z-1,by omega⟩ gW (by dsimp only;rw[cT,Kl,if_neg (show¬r/32768=a0k x z.toNat from cC)];exact⟨rfl,rfl,trivial⟩) bA eN hO):=h
def aDJ(h:B:=by exact hP ⟨z-1,by omega⟩ gW (by dsimp only;rw[cT,Kl,if_pos (show r/32768=a0k x z.toNat from Decidable.not_not.1 cC)];exact⟨rfl,rfl,trivial⟩) bA eN hO):=h
def aDZ(h:B:=by exact hP ⟨k+1,by omega⟩ gW (by dsimp only;rw[rY];exact⟨rfl,rfl,trivial⟩) bA eN hO):=h
def aEK{x:Int}(h:0<=x/\x<=255)(j:Nat):0<=x/2^j/\x/2^j<256:=by have X:(0:Int)<2^j:=Int.pow_pos aW;refine⟨Nu h.1 (Int.le_of_lt X),?_⟩;have:=Nt (2^j) h.1;omega
def aF8{r x z:Int}(eW:0<=z/\z<=7):R7 r x (7-(z-1)).toNat=Kl (R7 r x (7-z).toNat) (a0k x z.toNat):=by
 have e:(7-(z-1)).toNat=(7-z).toNat+1:=by omega
 have fN:7-(7-z).toNat=z.toNat:=by omega
 rw[e,R7,fN]
def aHi{x z:Int}(eW:0<=z/\z<=7):x.fdiv (2^(min z.toNat IntKind.u8.bits))=x/2^z.toNat:=by obtain⟨j,rfl⟩:∃j:Nat,z=(j:Int):=⟨z.toNat,by omega⟩;exact aXX D
def aVi(l:a4 Int)(L:aR)(R:aO)(aX:aL (gX l) R)(a5:pN l.l):
 aM prog 116 [l.val].toArray L R (λv E G=>v=.int .i64 (s3 l.l)/\L=E/\R=G):=by
 refine m1 call116 aX λj1=>?_;refine b6 35 call116 func116 rfl rfl rfl ?_;apply m3∘j8∘hH∘BN;refine dS [(3,.int _ _),(8,.slice _ _ _),(9,.int _ _),(10,.int _ _)] bV λfK=>?_;refine gY ([3,5,6,7]++cN 10 24) (λg:{k:Nat//k<=l.l.length}=>[(10,.int .i64 ((g.1:Nat):Int)),(3,.int .i64 (s3 (l.l.take g.1)))]) (λg=>l.l.length-g.1) (⟨0,by omega⟩) ?_;rintro⟨k,aG⟩ cH;try dsimp only
 apply(h0);refine U ?_ ?_<;>intro aQ;·
  have b7:=bJ (l:=l.l) (k:=k) 0 D;have Ar:=a5.at k;have rY:=aEC b7;obtain⟨x,K⟩:∃x,x=l.l.getD k 0:=⟨_,rfl⟩;rw[<-K]at b7 Ar rY;apply j9∘aEm∘VU∘nP;refine gY ([3,6,7]++cN 14 19) (λg:{z:Int// -1<=z/\z<=7}=>[(6,.int .i64 g.1),(3,.int .i64 (R7 (s3 (l.l.take k)) x (7-g.1).toNat))]) (λg=>(g.1+1).toNat) (⟨7,by omega⟩) ?_;rintro⟨z,eW⟩ cH;try dsimp only
  apply(VX);refine U ?_ ?_<;>intro bL;·
   have cG:=a1j x (a1b (l.l.take k)) (7-z).toNat;have bM:=aEK Ar z.toNat;have cT:=aF8 (r:=(s3 (l.l.take k))) (x:=x) (z:=z) D;obtain⟨r,M⟩:∃r,r=R7 (s3 (l.l.take k)) x (7-z).toNat:=⟨_,rfl⟩;rw[<-M]at cG cT|-;rw[O5]at cG;apply(oJ);refine aI (Ju rfl rfl aW aEy) rfl ?_;apply(rS);refine aI (a6O rfl rfl aW (aJO cG)) rfl ?_;refine aI (Pj rfl rfl (aEp D)) rfl ?_;apply(mO);(iterate 3 apply(cE));apply(A5);refine aI (Ju rfl rfl D (aHi D)) rfl ?_;apply(A5);refine aI (Pj rfl rfl (aD0 D)) rfl ?_;apply(rR);refine U ?_ ?_<;>intro cC;·exact aS1
   exact(Kg) aDJ
  obtain rfl:z= -1:=by omega
  refine mD (mF (xY (mB (hI (a8 (c2 ?_))))));exact(s6) aDZ
 exact aSS
def aKw(l:a4 Int)(L:aR)(R:aO)(aX:aL (gX l) R)(a5:pN l.l):
 aM prog 161 [l.val].toArray L R (λv E G=>v=.int .i64 (s3 l.l)/\L=E/\R=G):=by
 refine m1 call161 aX λj1=>?_;refine b6 37 call161 func161 rfl rfl rfl ?_;apply m3∘j8∘hH∘nP;refine dS [(0,.slice _ _ _),(3,.int _ _),(4,.int _ _)] bV λfK=>?_;refine gY (cN 3 33) (λg:{k:Nat//k<=l.l.length}=>[(4,.int .i64 ((g.1:Nat):Int)),(3,.int .i64 (s3 (l.l.take g.1)))]) (λg=>l.l.length-g.1) (⟨0,by omega⟩) ?_;rintro⟨k,aG⟩ cH;try dsimp only
 apply(uM);refine U ?_ ?_<;>intro aQ;·
  have b7:=bJ (l:=l.l) (k:=k) 0 D;have Ar:=a5.at k;have rY:=aEC b7;obtain⟨x,K⟩:∃x,x=l.l.getD k 0:=⟨_,rfl⟩;rw[<-K]at b7 Ar rY;apply j9∘nP;refine gY ([3,5,6]++cN 13 23) (λg:{z:Int// -1<=z/\z<=7}=>[(5,.int .i64 g.1),(3,.int .i64 (R7 (s3 (l.l.take k)) x (7-g.1).toNat))]) (λg=>(g.1+1).toNat) (⟨7,by omega⟩) ?_;rintro⟨z,eW⟩ cH;try dsimp only
  apply(VX);refine U ?_ ?_<;>intro bL;·
   have cG:=a1j x (a1b (l.l.take k)) (7-z).toNat;have bM:=aEK Ar z.toNat;have cT:=aF8 (r:=(s3 (l.l.take k))) (x:=x) (z:=z) D;obtain⟨r,M⟩:∃r,r=R7 (s3 (l.l.take k)) x (7-z).toNat:=⟨_,rfl⟩;rw[<-M]at cG cT|-;rw[O5]at cG;apply(oJ);refine aI (Ju rfl rfl aW aEy) rfl ?_;refine aI (Pj rfl rfl ((aD0 D).trans (show r/32768%2=r/32768 by omega))) rfl ?_;apply(rS);refine aI (a6O rfl rfl aW (aJO cG)) rfl ?_;refine aI (Pj rfl rfl (aEp D)) rfl ?_;apply rS∘h9∘aEm∘jG∘cE∘A5;refine aI (Ju rfl rfl D (aHi D)) rfl ?_;refine aI (Pj rfl rfl (aWc D)) rfl ?_;apply A5∘rR;refine U ?_ ?_<;>intro cC;·exact aS1
   exact(Kg) aDJ
  obtain rfl:z= -1:=by omega
  refine mD (mF (xY (mB (hI (a8 (c2 ?_))))));exact(M8) aDZ
 exact aSS
end
end Go.Proofs.YtchfclmokpbldaaGreat
