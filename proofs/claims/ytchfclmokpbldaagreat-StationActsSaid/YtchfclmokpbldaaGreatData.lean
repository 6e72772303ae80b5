--By an AI agent.
import Derived.Test.YtchfclmokpbldaaGreatAwAll
set_option linter.all false
set_option maxHeartbeats 0
namespace Go.Aw
open Go
def Xh{e:a5}{L:aP}:H2 e (e::L):=.mW
def Xi{e x:a5}{L:aP}(h:H2 e L):H2 e (x::L):=.cons h
def Xj{e:a5}{fQ L:aP}(h:H2 e L):H2 e (fQ++L):=.xJ h
def bH3{b:Nat}{cs gH:List Value}{T:TypeId}{L:aP}:uS b cs T gH (⟨b,cs,T⟩::L) (⟨b,gH,T⟩::L):=.mW
def bH4{b:Nat}{cs gH:List Value}{T:TypeId}{x:a5}{L E:aP}(h:uS b cs T gH L E):uS b cs T gH (x::L) (x::E):=.cons h
def bH5{b:Nat}{cs gH:List Value}{T:TypeId}{fQ L E:aP}(h:uS b cs T gH L E):uS b cs T gH (fQ++L) (fQ++E):=.xJ h
def LU(L:aP):L.Sublist L:=oR L
def PR(L:aP):[].Sublist L:=List.nil_sublist L
def NS{x:a5}{A B:aP}(h:A.Sublist B):(x::A).Sublist (x::B):=h.cons_cons x
def LV{x:a5}{A B:aP}(h:A.Sublist B):A.Sublist (x::B):=h.cons x
def PS{A B fQ:aP}(h:A.Sublist B):(fQ++A).Sublist (fQ++B):=a8G g3 h
def PT{A B fQ:aP}(h:A.Sublist B):A.Sublist (fQ++B):=h.trans (YL _ _)
def a3g(a b:Bool):((a && b)=true)=(a=true/\b=true):=oS a b
def a3h(a b:Bool):((a||b)=true)=(a=true\/b=true):=Qj a b
def a3i{a b:Bool}:((a && b)=false)↔(a=false\/b=false):=Bool.and_eq_false_iff
def a3j{a b:Bool}:((a||b)=false)↔(a=false/\b=false):=Bool.or_eq_false_iff
def a3k{p:Prop}[Decidable p]:(decide p=true)=p:=decide_eq_true_eq
def a3l{p:Prop}[Decidable p]:(decide p=false)↔¬p:=decide_eq_false_iff_not
def a3m(a:Bool):((!a)=true)=(a=false):=a2N a
def a3n(a:Bool):((!a)=false)=(a=true):=Bool.not_eq_false' a
def Dh{R:aJ}{r:fG}(h:r∈R):aH r R:=aM h
structure a0(aV:Type) where
 a:Option Addr
 cap:Nat
 l:List aV
deriving Inhabited
abbrev a0.val{aV:Type}(x:a0 aV):Value:=.slice x.a x.l.length x.cap
abbrev a0.fI{aV:Type}(x:a0 aV)(aR:Nat)(f:aV->List Value)(eQ:aJ):fG:=.mk aR x.a x.l.length x.cap (x.l.map f) eQ
def aL(n:Int):List Value:=[.int .i64 n]
structure a9 where
 bG:Int
 bO:Int
deriving DecidableEq,Inhabited
def a9.cells(s:a9):List Value:=[.int .i64 s.bG,.int .i64 s.bO]
abbrev a9.val(s:a9):Value:=.agg #[.int .i64 s.bG,.int .i64 s.bO]
structure kR where
 Ns:Int
 r3:Bool
deriving DecidableEq,Inhabited
def kR.cells(p:kR):List Value:=[.int .i64 p.Ns,.bool p.r3]
structure eL where
 bK:Int
 to:Int
 len:Int
 n7:Int
 Wp:Bool
 dM:Bool
 aB:a9
 jO:a9
deriving DecidableEq,Inhabited
def eL.cells(r:eL):List Value:=[.int .i64 r.bK,.int .i64 r.to,.int .i64 r.len,.int .i64 r.n7,.bool r.Wp,.bool r.dM,.int .i64 r.aB.bG,.int .i64 r.aB.bO,.int .i64 r.jO.bG,.int .i64 r.jO.bO]
structure h6 where
 dB:Int
 bY:Int
deriving DecidableEq,Inhabited
def h6.cells(p:h6):List Value:=[.int .i64 p.dB,.int .i64 p.bY]
abbrev h6.val(p:h6):Value:=.agg #[.int .i64 p.dB,.int .i64 p.bY]
abbrev eL.val(r:eL):Value:=.agg #[.int .i64 r.bK,.int .i64 r.to,.int .i64 r.len,.int .i64 r.n7,.bool r.Wp,.bool r.dM,.int .i64 r.aB.bG,.int .i64 r.aB.bO,.int .i64 r.jO.bG,.int .i64 r.jO.bO]
structure hY where
 b9:Int
 nB:Bool
 Tn:Bool
 hJ:a0 h6
deriving Inhabited
def hY.cells(f:hY):List Value:=[.int .i64 f.b9,.bool f.nB,.bool f.Tn,f.hJ.val]
abbrev hY.val(f:hY):Value:=.agg #[.int .i64 f.b9,.bool f.nB,.bool f.Tn,f.hJ.val]
abbrev hY.fI(f:hY):fG:=f.hJ.fI 2 h6.cells []
structure g9 where
 b9:Int
 yV:Int
 hH:a0 Int
deriving Inhabited
def g9.cells(d:g9):List Value:=[.int .i64 d.b9,.int .i64 d.yV,d.hH.val]
abbrev g9.val(d:g9):Value:=.agg #[.int .i64 d.b9,.int .i64 d.yV,d.hH.val]
abbrev g9.fI(d:g9):fG:=d.hH.fI 1 aL []
structure hZ where
 places:a0 kR
 aD:a0 eL
def hZ.cells(m:hZ):List Value:=[m.places.val,m.aD.val]
abbrev hZ.val(m:hZ):Value:=.agg #[m.places.val,m.aD.val]
structure bR where
 Y:hZ
 a3:a0 hY
 aX:a0 g9
def bR.cells(x:bR):List Value:=[x.Y.places.val,x.Y.aD.val,x.a3.val,x.aX.val]
abbrev bR.val(x:bR):Value:=.agg #[x.Y.places.val,x.Y.aD.val,x.a3.val,x.aX.val]
structure cE where
 a3:a0 Int
 aX:a0 Int
def cE.cells(s:cE):List Value:=[s.a3.val,s.aX.val]
abbrev cE.val(s:cE):Value:=.agg #[s.a3.val,s.aX.val]
structure q2 where
 bY:a0 Int
 g8:a0 Int
def q2.cells(s:q2):List Value:=[s.bY.val,s.g8.val]
abbrev q2.val(s:q2):Value:=.agg #[s.bY.val,s.g8.val]
abbrev O8(x:a0 kR):fG:=x.fI 2 kR.cells []
abbrev YI(x:a0 eL):fG:=x.fI 10 eL.cells []
abbrev Q1(x:a0 hY):fG:=x.fI 4 hY.cells (x.l.map hY.fI)
abbrev MN(x:a0 g9):fG:=x.fI 3 g9.cells (x.l.map g9.fI)
abbrev cZ(x:a0 Int):fG:=x.fI 1 aL []
abbrev Vu(x:a0 h6):fG:=x.fI 2 h6.cells []
structure N1(m:hZ)(R:aJ):Prop where
 places:aH (O8 m.places) R
 aD:aH (YI m.aD) R
structure nT(x:bR)(R:aJ):Prop where
 places:aH (O8 x.Y.places) R
 aD:aH (YI x.Y.aD) R
 a3:aH (Q1 x.a3) R
 aX:aH (MN x.aX) R
structure o2(s:cE)(R:aJ):Prop where
 a3:aH (cZ s.a3) R
 aX:aH (cZ s.aX) R
structure aAJ(s:q2)(R:aJ):Prop where
 bY:aH (cZ s.bY) R
 g8:aH (cZ s.g8) R
def nT.YB{x:bR}{R:aJ}(h:nT x R):N1 x.Y R:=⟨h.places,h.aD⟩
def aH.sub{s r:fG}{R:aJ}(h:aH r R)(k:Sub s r):aH s R:=by
 obtain⟨q,hq,hs⟩:=h;refine⟨q,hq,?_⟩;clear hq;induction hs with
 |mW=>exact k
 |XE K _ cM=>exact .XE K cM
def aH.nD{x:a0 hY}{R:aJ}(h:aH (Q1 x) R){i:Nat}{f:hY}(aA:x.l[i]?=some f):aH f.fI R:=
 h.sub (.XE (List.mem_map.2 ⟨f,gU aA,rfl⟩) .mW)
def aH.uD{x:a0 g9}{R:aJ}(h:aH (MN x) R){i:Nat}{d:g9}(aA:x.l[i]?=some d):aH d.fI R:=
 h.sub (.XE (List.mem_map.2 ⟨d,gU aA,rfl⟩) .mW)
def aH.mono{s:fG}{R G:aJ}(h:aH s R)(k:∀r∈R,aH r G):aH s G:=by obtain⟨r,M,hs⟩:=h;exact(k r M).sub hs
def So{aV:Type}{l:List aV}{k:Nat}{x:aV}(h:l[k]?=some x):l.drop k=x::l.drop (k+1):=by obtain⟨hk,K⟩:=List.getElem?_eq_some_iff.1 h;rw[List.drop_eq_getElem_cons hk,K]
def IA{aV:Type}{l:List aV}{k:Nat}(h:k<l.length):∃x,l[k]?=some x:=⟨_,ET h⟩
def mP{aV:Type}(l:List aV)(k:Nat)(h:k<l.length:=by exact D):∃x,l[k]?=some x:=IA (l:=l) (k:=k) (h:=h)
def b6L{P n x A B t L R}{Q:gA}{b:Bool}(hc:h9 t x=.bool b)(hb:b=true)(dS:cH P n A t L R Q):cH P n (.cond x A B) t L R Q:=wR (by rw[hc,hb]) dS
def a5G{P n x A B t L R}{Q:gA}{b:Bool}(hc:h9 t x=.bool b)(hb:b=false)(dS:cH P n B t L R Q):cH P n (.cond x A B) t L R Q:=QK (by rw[hc,hb]) dS
def oT{lZ:Type}{ws:List Nat}{k0 t:Nat->Value}{hd:dV lZ}{xZ:Nat}{Q:gA}{L:aP}{R:aJ}(g:lZ)(ho:lD ws k0 t)(hs:DR t (hd.uP g))(c2:(hd.L g).Sublist L)(bD:∀r∈hd.R g,aH r R)(hm:hd.m g<xZ):
 e1 ws k0 hd xZ Q .normal t L R:=⟨g,ho,hs,c2,bD,hm⟩
def oQ{lZ:Type}{ws:List Nat}{k0 t:Nat->Value}{hd:dV lZ}{xZ:Nat}{Q:gA}{L:aP}{R:aJ}(g:lZ)(ho:lD ws k0 t:=by exact kG)(hs:DR t (hd.uP g):=by exact bP)(c2:(hd.L g).Sublist L:=by exact a2)(bD:∀r∈hd.R g,aH r R:=by exact fF)(hm:hd.m g<xZ:=by exact k1):e1 ws k0 hd xZ Q .normal t L R:=oT (g:=g) (ho:=ho) (hs:=hs) (c2:=c2) (bD:=bD) (hm:=hm)
def tW.aRU{w:World}{aC:Nat->Prop}{aR len cap:Nat}{a:Option Addr}{rows:List (List Value)}{eQ:aJ}(h:tW w aC (.mk aR a len cap rows eQ)):len<=cap/\cap<9223372036854775808:=by cases h with|mk hl hc hm _ _ _=>exact⟨hc,hm⟩
def nN{P f args L R}{Post:oY}{aR len cap:Nat}{a:Option Addr}{rows:List (List Value)}{eQ:aJ}(Gt:∀(xs:Array Value) (w:World),(callFunc f xs).run P w=.ok (.enter f xs) w)(bD:aH (.mk aR a len cap rows eQ) R)(h:len<9223372036854775808->aI P f args L R Post):aI P f args L R Post:=by refine⟨Gt,λw aC bX=>?_⟩;obtain⟨r,M,l6⟩:=bD;have:=((bX.p3 r M).sub l6).aRU;exact(h D).2 w aC bX
abbrev FS{aV r4:Type}(f:aV->Option r4)(l:List aV):={k:Nat//k<=l.length/\l.findSome? f=(l.drop k).findSome? f}
def BL{aV r4:Type}(f:aV->Option r4)(l:List aV):0<=l.length/\l.findSome? f=(l.drop 0).findSome? f:=⟨AY _,by rw[Jd]⟩
def CO{aV r4:Type}{f:aV->Option r4}{l:List aV}{k:Nat}{x:aV}(h:l.findSome? f=(l.drop k).findSome? f)(K:l[k]?=some x)(hf:f x=none):k+1<=l.length/\l.findSome? f=(l.drop (k+1)).findSome? f:=by obtain⟨hk,_⟩:=List.getElem?_eq_some_iff.1 K;refine⟨hk,?_⟩;rw[h,So K,aH4,hf]
def A6{aV r4:Type}{f:aV->Option r4}{l:List aV}{k:Nat}{x:aV}{e:r4}(h:l.findSome? f=(l.drop k).findSome? f)(K:l[k]?=some x)(hf:f x=some e):l.findSome? f=some e:=by rw[h,So K,aH4,hf]
def BC{aV r4:Type}{f:aV->Option r4}{l:List aV}{k:Nat}(h:l.findSome? f=(l.drop k).findSome? f)(hk:l.length<=k):l.findSome? f=none:=by rw[h,a8Q hk];rfl
abbrev H0{r4:Type}(f:Nat->Option r4)(n:Nat):={k:Nat//k<=n/\(List.range n).findSome? f=((List.range n).drop k).findSome? f}
def G9{r4:Type}(f:Nat->Option r4)(n:Nat):0<=n/\(List.range n).findSome? f=((List.range n).drop 0).findSome? f:=⟨AY _,by rw[Jd]⟩
def aO7{n k:Nat}(h:k<n):(List.range n)[k]?=some k:=by simp[LN h]
def KH{r4:Type}{f:Nat->Option r4}{n k:Nat}(h:(List.range n).findSome? f=((List.range n).drop k).findSome? f)(hk:k<n)(hf:f k=none):k+1<=n/\(List.range n).findSome? f=((List.range n).drop (k+1)).findSome? f:=
 ⟨hk,(CO h (aO7 hk) hf).2⟩
def zC{r4:Type}{f:Nat->Option r4}{n k:Nat}{e:r4}(h:(List.range n).findSome? f=((List.range n).drop k).findSome? f)(hk:k<n)(hf:f k=some e):(List.range n).findSome? f=some e:=A6 h (aO7 hk) hf
def KO{r4:Type}{f:Nat->Option r4}{n k:Nat}(h:(List.range n).findSome? f=((List.range n).drop k).findSome? f)(hk:n<=k):(List.range n).findSome? f=none:=BC h B6
def iL{aV:Type}{l:List aV}{k:Nat}(d:aV)(h:k<l.length):l[k]?=some (l.getD k d):=by rw[iW,ET h];rfl
def bJ{aV:Type}(l:List aV)(k:Nat)(d:aV)(h:k<l.length:=by exact D):l[k]?=some (l.getD k d):=iL (l:=l) (k:=k) (d:=d) (h:=h)
def getD_some{aV:Type}{l:List aV}{k:Nat}{x d:aV}(h:l[k]?=some x):l.getD k d=x:=by rw[iW,h];rfl
def c7{P n code t L R}{Q:gA}(fI:List (Nat×Value))(bQ:DR t fI)(h:∀t',cH P n code (B5 t' fI) L R Q):cH P n code t L R Q:=by have:=h t;rwa[Rh bQ]at this
def zY{P n code t k0 L R}{Q:gA}(ws:List Nat)(ho:lD ws k0 t)(fI:List (Nat×Value))(bQ:DR t fI)(h:∀bZ,cH P n code (B5 (AH ws k0 bZ) fI) L R Q):cH P n code t L R Q:=by have:=h t;rwa[Yo ho,Rh bQ]at this
def lD.left{ws:List Nat}{k0 t:Nat->Value}{l:List (Nat×Value)}(hd:l.all (λp=>AA p.1 ws)=true)(h:lD ws k0 t):lD ws (Aw.B5 k0 l) t:=λk hk=>by
 rw[h k hk]
 exact((lD.B5 hd (lD.refl (ws:=ws) (t:=k0))) k hk).symm
def aAm{lZ:Type}{P n body t L R}{Q:gA}(ws:List Nat)(uP:lZ->List (Nat×Value))(m:lZ->Nat)(a1:lZ)(bQ:DR t (uP a1))
 (Pa:∀g bZ,cH P n body (B5 (AH ws t bZ) (uP g)) L R (e1 ws t ⟨uP,λ_=>L,λ_=>R,m⟩ (m g) Q)):cH P n (.loop body) t L R Q:=
 mC ws ⟨uP,λ_=>L,λ_=>R,m⟩ a1 bQ g3 fF Pa
structure DZ where
 nD:hY
 state:Int
deriving Inhabited
def DZ.cells(b:DZ):List Value:=[.int .i64 b.nD.b9,.bool b.nD.nB,.bool b.nD.Tn,b.nD.hJ.val,.int .i64 b.state]
structure mK where
 b9:eL
 rC:Int
 a3:a0 DZ
deriving Inhabited
def mK.cells(p:mK):List Value:=[.int .i64 p.b9.bK,.int .i64 p.b9.to,.int .i64 p.b9.len,.int .i64 p.b9.n7,.bool p.b9.Wp,.bool p.b9.dM,.int .i64 p.b9.aB.bG,.int .i64 p.b9.aB.bO,.int .i64 p.b9.jO.bG,.int .i64 p.b9.jO.bO,.int .i64 p.rC,p.a3.val]
abbrev mK.val(p:mK):Value:=.agg #[.int .i64 p.b9.bK,.int .i64 p.b9.to,.int .i64 p.b9.len,.int .i64 p.b9.n7,.bool p.b9.Wp,.bool p.b9.dM,.int .i64 p.b9.aB.bG,.int .i64 p.b9.aB.bO,.int .i64 p.b9.jO.bG,.int .i64 p.b9.jO.bO,.int .i64 p.rC,p.a3.val]
abbrev mK.fI(p:mK):fG:=p.a3.fI 5 DZ.cells (p.a3.l.map λb=>b.nD.fI)
def aH.bAt{p:mK}{R:aJ}(h:aH p.fI R){i:Nat}{b:DZ}(aA:p.a3.l[i]?=some b):aH b.nD.fI R:=
 h.sub (.XE (List.mem_map.2 ⟨b,gU aA,rfl⟩) .mW)
abbrev a0E(l:List Int):List Value:=l.map (Value.int .i64)
def a9H(b i:Nat):pJ (some ⟨b,0,none⟩) 1 i 0=i:=by simp[pJ,Tm]
def aLD{l:List Int}{b i:Nat}{x:Int}(h:l[i]?=some x):(a0E l)[pJ (some ⟨b,0,none⟩) 1 i 0]?=some (.int .i64 x):=by rw[a9H,pF,h];rfl
def b7w{l:List Int}{b i:Nat}(h:i<l.length):Nat.blt (pJ (some ⟨b,0,none⟩) 1 i 0) (a0E l).length=true:=by rw[a9H,uQ];simpa using h
def b8f{l:List Int}{b i:Nat}{x:Int}:(a0E l).set (pJ (some ⟨b,0,none⟩) 1 i 0) (.int .i64 x)=a0E (l.set i x):=by rw[a9H];unfold a0E;rw[List.map_set]
end Go.Aw
