-- By an AI agent; no person has read it.
import Derived.Test.YtchfclmokpbldaaGreatAwAll
set_option linter.all false
set_option maxHeartbeats 4000000
namespace Go.Aw
open Go
def ML{e:bN}{L:aR}:E6 e (e::L):=.lT
def MM{e x:bN}{L:aR}(h:E6 e L):E6 e (x::L):=.cons h
def MN{e:bN}{gC L:aR}(h:E6 e L):E6 e (gC++L):=.s7 h
def b8g{b:Nat}{cs hR:List Value}{T:TypeId}{L:aR}:s1 b cs T hR (⟨b,cs,T⟩::L) (⟨b,hR,T⟩::L):=.lT
def b8h{b:Nat}{cs hR:List Value}{T:TypeId}{x:bN}{L E:aR}(h:s1 b cs T hR L E):s1 b cs T hR (x::L) (x::E):=.cons h
def b8i{b:Nat}{cs hR:List Value}{T:TypeId}{gC L E:aR}(h:s1 b cs T hR L E):s1 b cs T hR (gC++L) (gC++E):=.s7 h
def Cp(L:aR):L.Sublist L:=rH L
def Oo(L:aR):[].Sublist L:=List.nil_sublist L
def Im{x:bN}{A B:aR}(h:A.Sublist B):(x::A).Sublist (x::B):=h.cons_cons x
def Cq{x:bN}{A B:aR}(h:A.Sublist B):A.Sublist (x::B):=h.cons x
def Oq{A B gC:aR}(h:A.Sublist B):(gC++A).Sublist (gC++B):=a3t hA h
def Ot{A B gC:aR}(h:A.Sublist B):A.Sublist (gC++B):=h.trans (XT _ _)
def aCZ(a b:Bool):((a && b)=true)=(a=true/\b=true):=nH a b
def aC0(a b:Bool):((a||b)=true)=(a=true\/b=true):=Nq a b
def aC1{a b:Bool}:((a && b)=false)↔(a=false\/b=false):=Bool.and_eq_false_iff
def aC2{a b:Bool}:((a||b)=false)↔(a=false/\b=false):=Bool.or_eq_false_iff
def aC3{p:Prop}[Decidable p]:(decide p=true)=p:=decide_eq_true_eq
def aC4{p:Prop}[Decidable p]:(decide p=false)↔¬p:=decide_eq_false_iff_not
def aC5(a:Bool):((!a)=true)=(a=false):=Wj a
def aC6(a:Bool):((!a)=false)=(a=true):=Bool.not_eq_false' a
def X5{R:aO}{r:fJ}(h:r∈R):aL r R:=aT h
structure a4(a7:Type) where
 a:Option Addr
 cap:Nat
 l:List a7
deriving Inhabited
abbrev a4.val{a7:Type}(x:a4 a7):Value:=.slice x.a x.l.length x.cap
abbrev a4.gN{a7:Type}(x:a4 a7)(aN:Nat)(f:a7->List Value)(eU:aO):fJ:=.mk aN x.a x.l.length x.cap (x.l.map f) eU
def a1(n:Int):List Value:=[.int .i64 n]
structure bC where
 bU:Int
 bW:Int
deriving DecidableEq,Inhabited
def bC.cells(s:bC):List Value:=[.int .i64 s.bU,.int .i64 s.bW]
abbrev bC.val(s:bC):Value:=.agg #[.int .i64 s.bU,.int .i64 s.bW]
structure yX where
 a9A:Int
 tG:Bool
deriving DecidableEq,Inhabited
def yX.cells(p:yX):List Value:=[.int .i64 p.a9A,.bool p.tG]
structure qN where
 cR:Int
 to:Int
 len:Int
 s8:Int
 Ni:Bool
 eJ:Bool
 aD:bC
 k9:bC
deriving DecidableEq,Inhabited
def qN.cells(r:qN):List Value:=[.int .i64 r.cR,.int .i64 r.to,.int .i64 r.len,.int .i64 r.s8,.bool r.Ni,.bool r.eJ,.int .i64 r.aD.bU,.int .i64 r.aD.bW,.int .i64 r.k9.bU,.int .i64 r.k9.bW]
structure j6 where
 dP:Int
 c8:Int
deriving DecidableEq,Inhabited
def j6.cells(p:j6):List Value:=[.int .i64 p.dP,.int .i64 p.c8]
abbrev j6.val(p:j6):Value:=.agg #[.int .i64 p.dP,.int .i64 p.c8]
abbrev qN.val(r:qN):Value:=.agg #[.int .i64 r.cR,.int .i64 r.to,.int .i64 r.len,.int .i64 r.s8,.bool r.Ni,.bool r.eJ,.int .i64 r.aD.bU,.int .i64 r.aD.bW,.int .i64 r.k9.bU,.int .i64 r.k9.bW]
structure lR where
 cV:Int
 n4:Bool
 Kz:Bool
 iA:a4 j6
deriving Inhabited
def lR.cells(f:lR):List Value:=[.int .i64 f.cV,.bool f.n4,.bool f.Kz,f.iA.val]
abbrev lR.val(f:lR):Value:=.agg #[.int .i64 f.cV,.bool f.n4,.bool f.Kz,f.iA.val]
abbrev lR.gN(f:lR):fJ:=f.iA.gN 2 j6.cells []
structure kI where
 cV:Int
 zJ:Int
 hS:a4 Int
deriving Inhabited
def kI.cells(d:kI):List Value:=[.int .i64 d.cV,.int .i64 d.zJ,d.hS.val]
abbrev kI.val(d:kI):Value:=.agg #[.int .i64 d.cV,.int .i64 d.zJ,d.hS.val]
abbrev kI.gN(d:kI):fJ:=d.hS.gN 1 a1 []
structure h4 where
 places:a4 yX
 aJ:a4 qN
def h4.cells(m:h4):List Value:=[m.places.val,m.aJ.val]
abbrev h4.val(m:h4):Value:=.agg #[m.places.val,m.aJ.val]
structure b3 where
 aC:h4
 c3:a4 lR
 cM:a4 kI
def b3.cells(x:b3):List Value:=[x.aC.places.val,x.aC.aJ.val,x.c3.val,x.cM.val]
abbrev b3.val(x:b3):Value:=.agg #[x.aC.places.val,x.aC.aJ.val,x.c3.val,x.cM.val]
structure cS where
 c3:a4 Int
 cM:a4 Int
def cS.cells(s:cS):List Value:=[s.c3.val,s.cM.val]
abbrev cS.val(s:cS):Value:=.agg #[s.c3.val,s.cM.val]
structure SG where
 c8:a4 Int
 vI:a4 Int
abbrev OM(x:a4 yX):fJ:=x.gN 2 yX.cells []
abbrev Bm(x:a4 qN):fJ:=x.gN 10 qN.cells []
abbrev Em(x:a4 lR):fJ:=x.gN 4 lR.cells (x.l.map lR.gN)
abbrev V8(x:a4 kI):fJ:=x.gN 3 kI.cells (x.l.map kI.gN)
abbrev dU(x:a4 Int):fJ:=x.gN 1 a1 []
structure K4(m:h4)(R:aO):Prop where
 places:aL (OM m.places) R
 aJ:aL (Bm m.aJ) R
structure mZ(x:b3)(R:aO):Prop where
 places:aL (OM x.aC.places) R
 aJ:aL (Bm x.aC.aJ) R
 c3:aL (Em x.c3) R
 cM:aL (V8 x.cM) R
structure pQ(s:cS)(R:aO):Prop where
 c3:aL (dU s.c3) R
 cM:aL (dU s.cM) R
def mZ.T1{x:b3}{R:aO}(h:mZ x R):K4 x.aC R:=⟨h.places,h.aJ⟩
def aL.sub{s r:fJ}{R:aO}(h:aL r R)(k:Sub s r):aL s R:=by
 obtain⟨q,cJ,aH⟩:=h;refine⟨q,cJ,?_⟩;clear cJ;induction aH with
 |lT=>exact k
 |S3 K _ c6=>exact .S3 K c6
def aL.qR{x:a4 lR}{R:aO}(h:aL (Em x) R){i:Nat}{f:lR}(aE:x.l[i]?=some f):aL f.gN R:=
 h.sub (.S3 (List.mem_map.2 ⟨f,hV aE,rfl⟩) .lT)
def aL.H4{x:a4 kI}{R:aO}(h:aL (V8 x) R){i:Nat}{d:kI}(aE:x.l[i]?=some d):aL d.gN R:=
 h.sub (.S3 (List.mem_map.2 ⟨d,hV aE,rfl⟩) .lT)
def aL.mono{s:fJ}{R G:aO}(h:aL s R)(k:∀r∈R,aL r G):aL s G:=by obtain⟨r,M,aH⟩:=h;exact(k r M).sub aH
def Km{a7:Type}{l:List a7}{k:Nat}{x:a7}(h:l[k]?=some x):l.drop k=x::l.drop (k+1):=by obtain⟨aG,K⟩:=List.getElem?_eq_some_iff.1 h;rw[List.drop_eq_getElem_cons aG,K]
def jW{a7:Type}{l:List a7}{k:Nat}(h:k<l.length):∃x,l[k]?=some x:=⟨_,DN h⟩
def aTH{P n x A B t L R}{Q:gF}{b:Bool}(cG:iT t x=.bool b)(a5:b=true)(fH:cQ P n A t L R Q):cQ P n (.cond x A B) t L R Q:=vS (by rw[cG,a5]) fH
def Zq{P n x A B t L R}{Q:gF}{b:Bool}(cG:iT t x=.bool b)(a5:b=false)(fH:cQ P n B t L R Q):cQ P n (.cond x A B) t L R Q:=MX (by rw[cG,a5]) fH
def hP{lO:Type}{ws:List Nat}{kZ t:Nat->Value}{bM:fB lO}{wQ:Nat}{Q:gF}{L:aR}{R:aO}(g:lO)(dG:kT ws kZ t)(aH:CX t (bM.tF g))(dI:(bM.L g).Sublist L)(bO:∀r∈bM.R g,aL r R)(a3:bM.m g<wQ):
 e2 ws kZ bM wQ Q .normal t L R:=⟨g,dG,aH,dI,bO,a3⟩
def sB.aLv{w:World}{Z:Nat->Prop}{aN len cap:Nat}{a:Option Addr}{rows:List (List Value)}{eU:aO}(h:sB w Z (.mk aN a len cap rows eU)):len<=cap/\cap<9223372036854775808:=by cases h with|mk aX cG a3 _ _ _=>exact⟨cG,a3⟩
def m1{P f args L R}{Post:oK}{aN len cap:Nat}{a:Option Addr}{rows:List (List Value)}{eU:aO}(Tc:∀(xs:Array Value) (w:World),(callFunc f xs).run P w=.ok (.enter f xs) w)(bO:aL (.mk aN a len cap rows eU) R)(h:len<9223372036854775808->aM P f args L R Post):aM P f args L R Post:=by refine⟨Tc,λw Z b4=>?_⟩;obtain⟨r,M,lU⟩:=bO;have:=((b4.o8 r M).sub lU).aLv;exact(h D).2 w Z b4
abbrev FS{a7 rK:Type}(f:a7->Option rK)(l:List a7):={k:Nat//k<=l.length/\l.findSome? f=(l.drop k).findSome? f}
def y0{a7 rK:Type}(f:a7->Option rK)(l:List a7):0<=l.length/\l.findSome? f=(l.drop 0).findSome? f:=⟨EZ _,by rw[Bx]⟩
def x5{a7 rK:Type}{f:a7->Option rK}{l:List a7}{k:Nat}{x:a7}(h:l.findSome? f=(l.drop k).findSome? f)(K:l[k]?=some x)(aF:f x=none):k+1<=l.length/\l.findSome? f=(l.drop (k+1)).findSome? f:=by obtain⟨aG,_⟩:=List.getElem?_eq_some_iff.1 K;refine⟨aG,?_⟩;rw[h,Km K,List.findSome?_cons,aF]
def yT{a7 rK:Type}{f:a7->Option rK}{l:List a7}{k:Nat}{x:a7}{e:rK}(h:l.findSome? f=(l.drop k).findSome? f)(K:l[k]?=some x)(aF:f x=some e):l.findSome? f=some e:=by rw[h,Km K,List.findSome?_cons,aF]
def y1{a7 rK:Type}{f:a7->Option rK}{l:List a7}{k:Nat}(h:l.findSome? f=(l.drop k).findSome? f)(aG:l.length<=k):l.findSome? f=none:=by rw[h,a3C aG];rfl
abbrev E5{rK:Type}(f:Nat->Option rK)(n:Nat):={k:Nat//k<=n/\(List.range n).findSome? f=((List.range n).drop k).findSome? f}
def EC{rK:Type}(f:Nat->Option rK)(n:Nat):0<=n/\(List.range n).findSome? f=((List.range n).drop 0).findSome? f:=⟨EZ _,by rw[Bx]⟩
def aH8{n k:Nat}(h:k<n):(List.range n)[k]?=some k:=by simp[KP h]
def z2{rK:Type}{f:Nat->Option rK}{n k:Nat}(h:(List.range n).findSome? f=((List.range n).drop k).findSome? f)(aG:k<n)(aF:f k=none):k+1<=n/\(List.range n).findSome? f=((List.range n).drop (k+1)).findSome? f:=
 ⟨aG,(x5 h (aH8 aG) aF).2⟩
def wH{rK:Type}{f:Nat->Option rK}{n k:Nat}{e:rK}(h:(List.range n).findSome? f=((List.range n).drop k).findSome? f)(aG:k<n)(aF:f k=some e):(List.range n).findSome? f=some e:=yT h (aH8 aG) aF
def HV{rK:Type}{f:Nat->Option rK}{n k:Nat}(h:(List.range n).findSome? f=((List.range n).drop k).findSome? f)(aG:n<=k):(List.range n).findSome? f=none:=y1 h DQ
def bJ{a7:Type}{l:List a7}{k:Nat}(d:a7)(h:k<l.length):l[k]?=some (l.getD k d):=by rw[m8,DN h];rfl
def getD_some{a7:Type}{l:List a7}{k:Nat}{x d:a7}(h:l[k]?=some x):l.getD k d=x:=by rw[m8,h];rfl
def dS{P n code t L R}{Q:gF}(gN:List (Nat×Value))(b2:CX t gN)(h:∀t',cQ P n code (zQ t' gN) L R Q):cQ P n code t L R Q:=by have:=h t;rwa[Is b2]at this
def FP{P n code t kZ L R}{Q:gF}(ws:List Nat)(dG:kT ws kZ t)(gN:List (Nat×Value))(b2:CX t gN)(h:∀cH,cQ P n code (zQ (x7 ws kZ cH) gN) L R Q):cQ P n code t L R Q:=by have:=h t;rwa[Pq dG,Is b2]at this
def kT.left{ws:List Nat}{kZ t:Nat->Value}{l:List (Nat×Value)}(bM:l.all (λp=>xX p.1 ws)=true)(h:kT ws kZ t):kT ws (Aw.zQ kZ l) t:=λk aG=>by
 rw[h k aG]
 exact((kT.zQ bM (kT.refl (ws:=ws) (t:=kZ))) k aG).symm
def a7q{lO:Type}{P n body t L R}{Q:gF}(ws:List Nat)(tF:lO->List (Nat×Value))(m:lO->Nat)(a0:lO)(b2:CX t (tF a0))
 (Gw:∀g cH,cQ P n body (zQ (x7 ws t cH) (tF g)) L R (e2 ws t ⟨tF,λ_=>L,λ_=>R,m⟩ (m g) Q)):cQ P n (.loop body) t L R Q:=
 qK ws ⟨tF,λ_=>L,λ_=>R,m⟩ a0 b2 hA eN Gw
structure BJ where
 qR:lR
 state:Int
deriving Inhabited
def BJ.cells(b:BJ):List Value:=[.int .i64 b.qR.cV,.bool b.qR.n4,.bool b.qR.Kz,b.qR.iA.val,.int .i64 b.state]
structure lI where
 cV:qN
 pY:Int
 c3:a4 BJ
deriving Inhabited
def lI.cells(p:lI):List Value:=[.int .i64 p.cV.cR,.int .i64 p.cV.to,.int .i64 p.cV.len,.int .i64 p.cV.s8,.bool p.cV.Ni,.bool p.cV.eJ,.int .i64 p.cV.aD.bU,.int .i64 p.cV.aD.bW,.int .i64 p.cV.k9.bU,.int .i64 p.cV.k9.bW,.int .i64 p.pY,p.c3.val]
abbrev lI.val(p:lI):Value:=.agg #[.int .i64 p.cV.cR,.int .i64 p.cV.to,.int .i64 p.cV.len,.int .i64 p.cV.s8,.bool p.cV.Ni,.bool p.cV.eJ,.int .i64 p.cV.aD.bU,.int .i64 p.cV.aD.bW,.int .i64 p.cV.k9.bU,.int .i64 p.cV.k9.bW,.int .i64 p.pY,p.c3.val]
abbrev lI.gN(p:lI):fJ:=p.c3.gN 5 BJ.cells (p.c3.l.map λb=>b.qR.gN)
def aL.b1q{p:lI}{R:aO}(h:aL p.gN R){i:Nat}{b:BJ}(aE:p.c3.l[i]?=some b):aL b.qR.gN R:=
 h.sub (.S3 (List.mem_map.2 ⟨b,hV aE,rfl⟩) .lT)
abbrev Rs(l:List Int):List Value:=l.map (Value.int .i64)
def a5N(b i:Nat):n6 (some ⟨b,0,none⟩) 1 i 0=i:=by simp[n6,Ky]
def aFe{l:List Int}{b i:Nat}{x:Int}(h:l[i]?=some x):(Rs l)[n6 (some ⟨b,0,none⟩) 1 i 0]?=some (.int .i64 x):=by rw[a5N,pA,h];rfl
def aT1{l:List Int}{b i:Nat}(h:i<l.length):Nat.blt (n6 (some ⟨b,0,none⟩) 1 i 0) (Rs l).length=true:=by rw[a5N,sV];simpa using h
def b02{l:List Int}{b i:Nat}{x:Int}:(Rs l).set (n6 (some ⟨b,0,none⟩) 1 i 0) (.int .i64 x)=Rs (l.set i x):=by rw[a5N];unfold Rs;rw[List.map_set]
end Go.Aw
