-- By an AI agent; no person has read it.
import Derived.Test.YtdiajbdaadlfhaaGreatDoorAwAll
set_option linter.all false
set_option maxHeartbeats 4000000
namespace Go.Aw
open Go
def aQi{e:bQ}{L:aW}:EI e (e::L):=.lK
def aQj{e x:bQ}{L:aW}(h:EI e L):EI e (x::L):=.cons h
def aQk{e:bQ}{X L:aW}(h:EI e L):EI e (X++L):=.wJ h
def aC2{b:Nat}{cs gM:List Value}{T:TypeId}{L:aW}:q0 b cs T gM (⟨b,cs,T⟩::L) (⟨b,gM,T⟩::L):=.lK
def aC3{b:Nat}{cs gM:List Value}{T:TypeId}{x:bQ}{L E:aW}(h:q0 b cs T gM L E):q0 b cs T gM (x::L) (x::E):=.cons h
def aC4{b:Nat}{cs gM:List Value}{T:TypeId}{X L E:aW}(h:q0 b cs T gM L E):q0 b cs T gM (X++L) (X++E):=.wJ h
def TZ(L:aW):L.Sublist L:=oU L
def X3(L:aW):[].Sublist L:=aCe L
def T0{x:bQ}{A B:aW}(h:A.Sublist B):(x::A).Sublist (x::B):=h.cons_cons x
def T1{x:bQ}{A B:aW}(h:A.Sublist B):A.Sublist (x::B):=h.cons x
def X4{A B X:aW}(h:A.Sublist B):(X++A).Sublist (X++B):=a3J iP h
def X5{A B X:aW}(h:A.Sublist B):A.Sublist (X++B):=h.trans (XR _ _)
def aCI(a b:Bool):((a && b)=true)=(a=true/\b=true):=lY a b
def aCJ(a b:Bool):((a||b)=true)=(a=true\/b=true):=Wd a b
def aCK{a b:Bool}:((a && b)=false)↔(a=false\/b=false):=Bool.and_eq_false_iff
def aCL{a b:Bool}:((a||b)=false)↔(a=false/\b=false):=Bool.or_eq_false_iff
def aCM{p:Prop}[Decidable p]:(decide p=true)=p:=decide_eq_true_eq
def aCN{p:Prop}[Decidable p]:(decide p=false)↔¬p:=decide_eq_false_iff_not
def aCO(a:Bool):((!a)=true)=(a=false):=Gt a
def aCP(a:Bool):((!a)=false)=(a=true):=Bool.not_eq_false' a
def Xm{R:aP}{r:eT}(h:r∈R):aN r R:=aU h
structure bP(aY:Type) where
 a:Option Addr
 cap:Nat
 l:List aY
deriving Inhabited
abbrev bP.val{aY:Type}(x:bP aY):Value:=.slice x.a x.l.length x.cap
abbrev bP.eJ{aY:Type}(x:bP aY)(aI:Nat)(f:aY->List Value)(eE:aP):eT:=.mk aI x.a x.l.length x.cap (x.l.map f) eE
def aR(n:Int):List Value:=[.int .i64 n]
structure bG where
 bJ:Int
 bN:Int
deriving DecidableEq,Inhabited
def bG.cells(s:bG):List Value:=[.int .i64 s.bJ,.int .i64 s.bN]
abbrev bG.val(s:bG):Value:=.agg #[.int .i64 s.bJ,.int .i64 s.bN]
structure gL where
 tQ:Int
 m7:Bool
deriving DecidableEq,Inhabited
def gL.cells(p:gL):List Value:=[.int .i64 p.tQ,.bool p.m7]
structure cR where
 bK:Int
 to:Int
 len:Int
 h6:Int
 qD:Bool
 dZ:Bool
 aC:bG
 fQ:bG
deriving DecidableEq,Inhabited
def cR.cells(r:cR):List Value:=[.int .i64 r.bK,.int .i64 r.to,.int .i64 r.len,.int .i64 r.h6,.bool r.qD,.bool r.dZ,.int .i64 r.aC.bJ,.int .i64 r.aC.bN,.int .i64 r.fQ.bJ,.int .i64 r.fQ.bN]
structure hU where
 c8:Int
 b5:Int
deriving DecidableEq,Inhabited
def hU.cells(p:hU):List Value:=[.int .i64 p.c8,.int .i64 p.b5]
abbrev hU.val(p:hU):Value:=.agg #[.int .i64 p.c8,.int .i64 p.b5]
abbrev cR.val(r:cR):Value:=.agg #[.int .i64 r.bK,.int .i64 r.to,.int .i64 r.len,.int .i64 r.h6,.bool r.qD,.bool r.dZ,.int .i64 r.aC.bJ,.int .i64 r.aC.bN,.int .i64 r.fQ.bJ,.int .i64 r.fQ.bN]
structure hT where
 aS:Int
 hX:Bool
 Jp:Bool
 hJ:bP hU
deriving Inhabited
def hT.cells(f:hT):List Value:=[.int .i64 f.aS,.bool f.hX,.bool f.Jp,f.hJ.val]
abbrev hT.val(f:hT):Value:=.agg #[.int .i64 f.aS,.bool f.hX,.bool f.Jp,f.hJ.val]
abbrev hT.eJ(f:hT):eT:=f.hJ.eJ 2 hU.cells []
structure gV where
 aS:Int
 sC:Int
 hY:bP Int
deriving Inhabited
def gV.cells(d:gV):List Value:=[.int .i64 d.aS,.int .i64 d.sC,d.hY.val]
abbrev gV.val(d:gV):Value:=.agg #[.int .i64 d.aS,.int .i64 d.sC,d.hY.val]
abbrev gV.eJ(d:gV):eT:=d.hY.eJ 1 aR []
structure eC where
 places:bP gL
 Z:bP cR
def eC.cells(m:eC):List Value:=[m.places.val,m.Z.val]
abbrev eC.val(m:eC):Value:=.agg #[m.places.val,m.Z.val]
structure bT where
 aE:eC
 bD:bP hT
 a8:bP gV
def bT.cells(x:bT):List Value:=[x.aE.places.val,x.aE.Z.val,x.bD.val,x.a8.val]
abbrev bT.val(x:bT):Value:=.agg #[x.aE.places.val,x.aE.Z.val,x.bD.val,x.a8.val]
structure cG where
 bD:bP Int
 a8:bP Int
def cG.cells(s:cG):List Value:=[s.bD.val,s.a8.val]
abbrev cG.val(s:cG):Value:=.agg #[s.bD.val,s.a8.val]
structure tE where
 b5:bP Int
 iC:bP Int
def tE.cells(s:tE):List Value:=[s.b5.val,s.iC.val]
abbrev tE.val(s:tE):Value:=.agg #[s.b5.val,s.iC.val]
abbrev zW(x:bP gL):eT:=x.eJ 2 gL.cells []
abbrev F4(x:bP cR):eT:=x.eJ 10 cR.cells []
abbrev SJ(x:bP hT):eT:=x.eJ 4 hT.cells (x.l.map hT.eJ)
abbrev O1(x:bP gV):eT:=x.eJ 3 gV.cells (x.l.map gV.eJ)
abbrev dW(x:bP Int):eT:=x.eJ 1 aR []
abbrev Lt(x:bP hU):eT:=x.eJ 2 hU.cells []
structure oY(m:eC)(R:aP):Prop where
 places:aN (zW m.places) R
 Z:aN (F4 m.Z) R
structure qF(x:bT)(R:aP):Prop where
 places:aN (zW x.aE.places) R
 Z:aN (F4 x.aE.Z) R
 bD:aN (SJ x.bD) R
 a8:aN (O1 x.a8) R
structure u3(s:cG)(R:aP):Prop where
 bD:aN (dW s.bD) R
 a8:aN (dW s.a8) R
structure a5U(s:tE)(R:aP):Prop where
 b5:aN (dW s.b5) R
 iC:aN (dW s.iC) R
def qF.TE{x:bT}{R:aP}(h:qF x R):oY x.aE R:=⟨h.places,h.Z⟩
def aN.sub{s r:eT}{R:aP}(h:aN r R)(k:Sub s r):aN s R:=by
 obtain⟨q,bZ,aF⟩:=h;refine⟨q,bZ,?_⟩;clear bZ;induction aF with
 |lK=>exact k
 |SG K _ cA=>exact .SG K cA
def aN.nF{x:bP hT}{R:aP}(h:aN (SJ x) R){i:Nat}{f:hT}(aB:x.l[i]?=some f):aN f.eJ R:=
 h.sub (.SG (List.mem_map.2 ⟨f,hS aB,rfl⟩) .lK)
def aN.tN{x:bP gV}{R:aP}(h:aN (O1 x) R){i:Nat}{d:gV}(aB:x.l[i]?=some d):aN d.eJ R:=
 h.sub (.SG (List.mem_map.2 ⟨d,hS aB,rfl⟩) .lK)
def aN.mono{s:eT}{R R':aP}(h:aN s R)(k:∀r∈R,aN r R'):aN s R':=by obtain⟨r,O,aF⟩:=h;exact(k r O).sub aF
def OT{aY:Type}{l:List aY}{k:Nat}{x:aY}(h:l[k]?=some x):l.drop k=x::l.drop (k+1):=by obtain⟨Y,K⟩:=List.getElem?_eq_some_iff.1 h;rw[List.drop_eq_getElem_cons Y,K]
def lQ{aY:Type}{l:List aY}{k:Nat}(h:k<l.length):∃x,l[k]?=some x:=⟨_,w4 h⟩
def aUR{P n x A B t L R}{Q:fR}{b:Bool}(bU:iL t x=.bool b)(aT:b=true)(gJ:cO P n A t L R Q):cO P n (.cond x A B) t L R Q:=yX (by rw[bU,aT]) gJ
def OU{P n x A B t L R}{Q:fR}{b:Bool}(bU:iL t x=.bool b)(aT:b=false)(gJ:cO P n B t L R Q):cO P n (.cond x A B) t L R Q:=CT (by rw[bU,aT]) gJ
def lP{lH:Type}{ws:List Nat}{t0 t:Nat->Value}{a7:e0 lH}{sA:Nat}{Q:fR}{L:aW}{R:aP}(g:lH)(cM:kH ws t0 t)(aF:BX t (a7.rT g))(b3:(a7.L g).Sublist L)(b8:∀r∈a7.R g,aN r R)(a1:a7.m g<sA):
 e5 ws t0 a7 sA Q .normal t L R:=⟨g,cM,aF,b3,b8,a1⟩
def p2.aKz{w:World}{aD:Nat->Prop}{aI len cap:Nat}{a:Option Addr}{rows:List (List Value)}{eE:aP}(h:p2 w aD (.mk aI a len cap rows eE)):len<=cap/\cap<9223372036854775808:=by cases h with|mk aZ bU a1 _ _ _=>exact⟨bU,a1⟩
def rZ{P f args L R}{Post:n8}{aI len cap:Nat}{a:Option Addr}{rows:List (List Value)}{eE:aP}(Tj:∀(xs:Array Value) (w:World),(callFunc f xs).run P w=.ok (.enter f xs) w)(b8:aN (.mk aI a len cap rows eE) R)(h:len<9223372036854775808->aM P f args L R Post):aM P f args L R Post:=by refine⟨Tj,λw aD bF=>?_⟩;obtain⟨r,O,mA⟩:=b8;have:=((bF.nH r O).sub mA).aKz;exact(h D).2 w aD bF
abbrev FS{aY qE:Type}(f:aY->Option qE)(l:List aY):={k:Nat//k<=l.length/\l.findSome? f=(l.drop k).findSome? f}
def N5{aY qE:Type}(f:aY->Option qE)(l:List aY):0<=l.length/\l.findSome? f=(l.drop 0).findSome? f:=⟨rW _,by rw[Na]⟩
def LH{aY qE:Type}{f:aY->Option qE}{l:List aY}{k:Nat}{x:aY}(h:l.findSome? f=(l.drop k).findSome? f)(K:l[k]?=some x)(aH:f x=none):k+1<=l.length/\l.findSome? f=(l.drop (k+1)).findSome? f:=by obtain⟨Y,_⟩:=List.getElem?_eq_some_iff.1 K;refine⟨Y,?_⟩;rw[h,OT K,List.findSome?_cons,aH]
def GV{aY qE:Type}{f:aY->Option qE}{l:List aY}{k:Nat}{x:aY}{e:qE}(h:l.findSome? f=(l.drop k).findSome? f)(K:l[k]?=some x)(aH:f x=some e):l.findSome? f=some e:=by rw[h,OT K,List.findSome?_cons,aH]
def LI{aY qE:Type}{f:aY->Option qE}{l:List aY}{k:Nat}(h:l.findSome? f=(l.drop k).findSome? f)(Y:l.length<=k):l.findSome? f=none:=by rw[h,Wf Y];rfl
abbrev X7{qE:Type}(f:Nat->Option qE)(n:Nat):={k:Nat//k<=n/\(List.range n).findSome? f=((List.range n).drop k).findSome? f}
def UN{qE:Type}(f:Nat->Option qE)(n:Nat):0<=n/\(List.range n).findSome? f=((List.range n).drop 0).findSome? f:=⟨rW _,by rw[Na]⟩
def aDD{n k:Nat}(h:k<n):(List.range n)[k]?=some k:=by simp[P8 h]
def OY{qE:Type}{f:Nat->Option qE}{n k:Nat}(h:(List.range n).findSome? f=((List.range n).drop k).findSome? f)(Y:k<n)(aH:f k=none):k+1<=n/\(List.range n).findSome? f=((List.range n).drop (k+1)).findSome? f:=
 ⟨Y,(LH h (aDD Y) aH).2⟩
def GU{qE:Type}{f:Nat->Option qE}{n k:Nat}{e:qE}(h:(List.range n).findSome? f=((List.range n).drop k).findSome? f)(Y:k<n)(aH:f k=some e):(List.range n).findSome? f=some e:=GV h (aDD Y) aH
def QU{qE:Type}{f:Nat->Option qE}{n k:Nat}(h:(List.range n).findSome? f=((List.range n).drop k).findSome? f)(Y:n<=k):(List.range n).findSome? f=none:=LI h EB
def bR{aY:Type}{l:List aY}{k:Nat}(d:aY)(h:k<l.length):l[k]?=some (l.getD k d):=by rw[lN,w4 h];rfl
def getD_some{aY:Type}{l:List aY}{k:Nat}{x d:aY}(h:l[k]?=some x):l.getD k d=x:=by rw[lN,h];rfl
def e3{P n code t L R}{Q:fR}(eJ:List (Nat×Value))(bV:BX t eJ)(h:∀t',cO P n code (yT t' eJ) L R Q):cO P n code t L R Q:=by have:=h t;rwa[Jn bV]at this
def ON{P n code t t0 L R}{Q:fR}(ws:List Nat)(cM:kH ws t0 t)(eJ:List (Nat×Value))(bV:BX t eJ)(h:∀c1,cO P n code (yT (xO ws t0 c1) eJ) L R Q):cO P n code t L R Q:=by have:=h t;rwa[Oi cM,Jn bV]at this
def kH.left{ws:List Nat}{t0 t:Nat->Value}{l:List (Nat×Value)}(a7:l.all (λp=>xA p.1 ws)=true)(h:kH ws t0 t):kH ws (Aw.yT t0 l) t:=λk Y=>by
 rw[h k Y]
 exact((kH.yT a7 (kH.refl (ws:=ws) (t:=t0))) k Y).symm
def a1e{lH:Type}{P n body t L R}{Q:fR}(ws:List Nat)(rT:lH->List (Nat×Value))(m:lH->Nat)(cT:lH)(bV:BX t (rT cT))
 (Fc:∀g c1,cO P n body (yT (xO ws t c1) (rT g)) L R (e5 ws t ⟨rT,λ_=>L,λ_=>R,m⟩ (m g) Q)):cO P n (.loop body) t L R Q:=
 oM ws ⟨rT,λ_=>L,λ_=>R,m⟩ cT bV iP eX Fc
structure AH where
 nF:hT
 state:Int
deriving Inhabited
def AH.cells(b:AH):List Value:=[.int .i64 b.nF.aS,.bool b.nF.hX,.bool b.nF.Jp,b.nF.hJ.val,.int .i64 b.state]
structure k7 where
 aS:cR
 o9:Int
 bD:bP AH
deriving Inhabited
def k7.cells(p:k7):List Value:=[.int .i64 p.aS.bK,.int .i64 p.aS.to,.int .i64 p.aS.len,.int .i64 p.aS.h6,.bool p.aS.qD,.bool p.aS.dZ,.int .i64 p.aS.aC.bJ,.int .i64 p.aS.aC.bN,.int .i64 p.aS.fQ.bJ,.int .i64 p.aS.fQ.bN,.int .i64 p.o9,p.bD.val]
abbrev k7.val(p:k7):Value:=.agg #[.int .i64 p.aS.bK,.int .i64 p.aS.to,.int .i64 p.aS.len,.int .i64 p.aS.h6,.bool p.aS.qD,.bool p.aS.dZ,.int .i64 p.aS.aC.bJ,.int .i64 p.aS.aC.bN,.int .i64 p.aS.fQ.bJ,.int .i64 p.aS.fQ.bN,.int .i64 p.o9,p.bD.val]
abbrev k7.eJ(p:k7):eT:=p.bD.eJ 5 AH.cells (p.bD.l.map λb=>b.nF.eJ)
def aN.aZ8{p:k7}{R:aP}(h:aN p.eJ R){i:Nat}{b:AH}(aB:p.bD.l[i]?=some b):aN b.nF.eJ R:=
 h.sub (.SG (List.mem_map.2 ⟨b,hS aB,rfl⟩) .lK)
abbrev Oc(l:List Int):List Value:=l.map (Value.int .i64)
def a6T(b i:Nat):n0 (some ⟨b,0,none⟩) 1 i 0=i:=by simp[n0,Jo]
def aIT{l:List Int}{b i:Nat}{x:Int}(h:l[i]?=some x):(Oc l)[n0 (some ⟨b,0,none⟩) 1 i 0]?=some (.int .i64 x):=by rw[a6T,pW,h];rfl
def aSW{l:List Int}{b i:Nat}(h:i<l.length):Nat.blt (n0 (some ⟨b,0,none⟩) 1 i 0) (Oc l).length=true:=by rw[a6T,pU];simpa using h
def aSY{l:List Int}{b i:Nat}{x:Int}:(Oc l).set (n0 (some ⟨b,0,none⟩) 1 i 0) (.int .i64 x)=Oc (l.set i x):=by rw[a6T];unfold Oc;rw[List.map_set]
end Go.Aw
