/-
  The program's data as Lean data, and how they lie in memory. By an AI agent; no person has read it.
-/
import Derived.Test.YtchfclmokpbldaaGreatAwAll
set_option linter.all false
set_option maxHeartbeats 4000000
namespace Go.Aw
open Go
def zi0 {e:Blk} {L:LB}:In1 e (e :: L):=.here
def zi1 {e x:Blk} {L:LB} (h:In1 e L):In1 e (x :: L):=.cons h
def zi2 {e:Blk} {X L:LB} (h:In1 e L):In1 e (X ++ L):=.app h
def zu0 {b:Nat} {cs cs':List Value} {T:TypeId} {L:LB}:Upd1 b cs T cs' (⟨b,cs,T⟩ :: L) (⟨b,cs',T⟩ :: L):=.here
def zu1 {b:Nat} {cs cs':List Value} {T:TypeId} {x:Blk} {L M:LB} (h:Upd1 b cs T cs' L M):Upd1 b cs T cs' (x :: L) (x :: M):=.cons h
def zu2 {b:Nat} {cs cs':List Value} {T:TypeId} {X L M:LB} (h:Upd1 b cs T cs' L M):Upd1 b cs T cs' (X ++ L) (X ++ M):=.app h
def zs0 (L:LB):L.Sublist L:=yx L
def zs1 (L:LB):[].Sublist L:=ypa L
def zs2 {x:Blk} {A B:LB} (h:A.Sublist B):(x :: A).Sublist (x :: B):=h.cons_cons x
def zs3 {x:Blk} {A B:LB} (h:A.Sublist B):A.Sublist (x :: B):=h.cons x
def zs4 {A B X:LB} (h:A.Sublist B):(X ++ A).Sublist (X ++ B):=yNa ye h
def zs5 {A B X:LB} (h:A.Sublist B):A.Sublist (X ++ B):=h.trans (yW _ _)
def zb1 (a b:Bool):((a && b)=true)=(a=true∧b=true):=yn a b
def zb2 (a b:Bool):((a || b)=true)=(a=true∨b=true):=yQb a b
def zb3 {a b:Bool}:((a && b)=false)↔(a=false∨b=false):=Bool.and_eq_false_iff
def zb4 {a b:Bool}:((a || b)=false)↔(a=false∧b=false):=Bool.or_eq_false_iff
def zb5 {p:Prop} [Decidable p]:(decide p=true)=p:=decide_eq_true_eq
def zb6 {p:Prop} [Decidable p]:(decide p=false)↔¬ p:=decide_eq_false_iff_not
def zb7 (a:Bool):((!a)=true)=(a=false):=yhb a
def zb8 (a:Bool):((!a)=false)=(a=true):=Bool.not_eq_false' a
def zr {R:LS} {r:Sl} (h:r∈R):InR r R:=Ja h
structure Arr (α:Type) where
 a:Option Addr
 cap:Nat
 l:List α
deriving Inhabited
abbrev Arr.val {α:Type} (x:Arr α):Value:=.slice x.a x.l.length x.cap
abbrev Arr.sl {α:Type} (x:Arr α) (wd:Nat) (f:α→List Value) (subs:LS):Sl:=.mk wd x.a x.l.length x.cap (x.l.map f) subs
def Jo (n:Int):List Value:=[.int .i64 n]
structure XSpan where
 low:Int
 high:Int
deriving DecidableEq,Inhabited
def XSpan.cells (s:XSpan):List Value:=[.int .i64 s.low,.int .i64 s.high]
abbrev XSpan.val (s:XSpan):Value:=.agg #[.int .i64 s.low,.int .i64 s.high]
structure XPlace where
 height:Int
 surface:Bool
deriving DecidableEq,Inhabited
def XPlace.cells (p:XPlace):List Value:=[.int .i64 p.height,.bool p.surface]
structure XRoad where
 fr:Int
 to:Int
 len:Int
 area:Int
 walk:Bool
 closed:Bool
 rest:XSpan
 lift:XSpan
deriving DecidableEq,Inhabited
def XRoad.cells (r:XRoad):List Value:=[.int .i64 r.fr,.int .i64 r.to,.int .i64 r.len,.int .i64 r.area,.bool r.walk,.bool r.closed,.int .i64 r.rest.low,.int .i64 r.rest.high,.int .i64 r.lift.low,.int .i64 r.lift.high]
structure XPoint where
 flow:Int
 pres:Int
deriving DecidableEq,Inhabited
def XPoint.cells (p:XPoint):List Value:=[.int .i64 p.flow,.int .i64 p.pres]
abbrev XPoint.val (p:XPoint):Value:=.agg #[.int .i64 p.flow,.int .i64 p.pres]
abbrev XRoad.val (r:XRoad):Value:=.agg #[.int .i64 r.fr,.int .i64 r.to,.int .i64 r.len,.int .i64 r.area,.bool r.walk,.bool r.closed,.int .i64 r.rest.low,.int .i64 r.rest.high,.int .i64 r.lift.low,.int .i64 r.lift.high]
structure XFan where
 road:Int
 back:Bool
 aux:Bool
 curve:Arr XPoint
deriving Inhabited
def XFan.cells (f:XFan):List Value:=[.int .i64 f.road,.bool f.back,.bool f.aux,f.curve.val]
abbrev XFan.val (f:XFan):Value:=.agg #[.int .i64 f.road,.bool f.back,.bool f.aux,f.curve.val]
abbrev XFan.sl (f:XFan):Sl:=f.curve.sl 2 XPoint.cells []
structure XDoor where
 road:Int
 other:Int
 rests:Arr Int
deriving Inhabited
def XDoor.cells (d:XDoor):List Value:=[.int .i64 d.road,.int .i64 d.other,d.rests.val]
abbrev XDoor.val (d:XDoor):Value:=.agg #[.int .i64 d.road,.int .i64 d.other,d.rests.val]
abbrev XDoor.sl (d:XDoor):Sl:=d.rests.sl 1 Jo []
structure XMine where
 places:Arr XPlace
 roads:Arr XRoad
def XMine.cells (m:XMine):List Value:=[m.places.val,m.roads.val]
abbrev XMine.val (m:XMine):Value:=.agg #[m.places.val,m.roads.val]
structure XAir where
 mine:XMine
 fans:Arr XFan
 doors:Arr XDoor
def XAir.cells (x:XAir):List Value:=[x.mine.places.val,x.mine.roads.val,x.fans.val,x.doors.val]
abbrev XAir.val (x:XAir):Value:=.agg #[x.mine.places.val,x.mine.roads.val,x.fans.val,x.doors.val]
structure XSetting where
 fans:Arr Int
 doors:Arr Int
def XSetting.cells (s:XSetting):List Value:=[s.fans.val,s.doors.val]
abbrev XSetting.val (s:XSetting):Value:=.agg #[s.fans.val,s.doors.val]
structure XState where
 pres:Arr Int
 flows:Arr Int
abbrev psl (x:Arr XPlace):Sl:=x.sl 2 XPlace.cells []
abbrev rsl (x:Arr XRoad):Sl:=x.sl 10 XRoad.cells []
abbrev fsl (x:Arr XFan):Sl:=x.sl 4 XFan.cells (x.l.map XFan.sl)
abbrev dsl (x:Arr XDoor):Sl:=x.sl 3 XDoor.cells (x.l.map XDoor.sl)
abbrev isl (x:Arr Int):Sl:=x.sl 1 Jo []
structure MineR (m:XMine) (R:LS):Prop where
 places:InR (psl m.places) R
 roads:InR (rsl m.roads) R
structure AirR (x:XAir) (R:LS):Prop where
 places:InR (psl x.mine.places) R
 roads:InR (rsl x.mine.roads) R
 fans:InR (fsl x.fans) R
 doors:InR (dsl x.doors) R
structure SetR (s:XSetting) (R:LS):Prop where
 fans:InR (isl s.fans) R
 doors:InR (isl s.doors) R
def AirR.mineR {x:XAir} {R:LS} (h:AirR x R):MineR x.mine R:=⟨h.places,h.roads⟩
def InR.sub {s r:Sl} {R:LS} (h:InR r R) (k:Sub s r):InR s R:=by
 obtain ⟨q,hq,hs⟩:=h;refine ⟨q,hq,?_⟩;clear hq;induction hs with
 | here=>exact k
 | deep hx _ ih=>exact .deep hx ih
def InR.fan {x:Arr XFan} {R:LS} (h:InR (fsl x) R) {i:Nat} {f:XFan} (hi:x.l[i]?=some f):InR f.sl R:=
 h.sub (.deep (List.mem_map.2 ⟨f,yj hi,rfl⟩) .here)
def InR.door {x:Arr XDoor} {R:LS} (h:InR (dsl x) R) {i:Nat} {d:XDoor} (hi:x.l[i]?=some d):InR d.sl R:=
 h.sub (.deep (List.mem_map.2 ⟨d,yj hi,rfl⟩) .here)
def InR.mono {s:Sl} {R U:LS} (h:InR s R) (k:∀r∈R,InR r U):InR s U:=by obtain ⟨r,hr,hs⟩:=h;exact (k r hr).sub hs
def Yva {α:Type} {l:List α} {k:Nat} {x:α} (h:l[k]?=some x):l.drop k=x :: l.drop (k + 1):=by obtain ⟨hk,hx⟩:=List.getElem?_eq_some_iff.1 h;rw [List.drop_eq_getElem_cons hk,hx]
def Ky {α:Type} {l:List α} {k:Nat} (h:k < l.length):∃x,l[k]?=some x:=⟨_,yC h⟩
def Vye {P n x A B t L R} {Q:Kt} {b:Bool} (hc:ev t x=.bool b) (hb:b=true) (ht:CJ P n A t L R Q):CJ P n (.cond x A B) t L R Q:=Ua (by rw [hc,hb]) ht
def Jrb {P n x A B t L R} {Q:Kt} {b:Bool} (hc:ev t x=.bool b) (hb:b=false) (ht:CJ P n B t L R Q):CJ P n (.cond x A B) t L R Q:=Y7 (by rw [hc,hb]) ht
def Kr {γ:Type} {ws:List Nat} {t0 t:Nat→Value} {hd:Head γ} {m0:Nat} {Q:Kt} {L:LB} {R:LS} (g:γ) (ho:Off ws t0 t) (hs:Yea t (hd.slots g)) (hL:(hd.L g).Sublist L) (hR:∀r∈hd.R g,InR r R) (hm:hd.m g < m0):
 Kj ws t0 hd m0 Q .normal t L R:=⟨g,ho,hs,hL,hR,hm⟩
def Rep.bounds {w:World} {G:Nat→Prop} {wd len cap:Nat} {a:Option Addr} {rows:List (List Value)} {subs:LS} (h:Rep w G (.mk wd a len cap rows subs)):len≤cap∧cap < 9223372036854775808:=by cases h with | mk hl hc hm _ _ _=>exact ⟨hc,hm⟩
def Vo {P f args L R} {Post:Yy} {wd len cap:Nat} {a:Option Addr} {rows:List (List Value)} {subs:LS} (hcall:∀(xs:Array Value) (w:World),(callFunc f xs).run P w=.ok (.enter f xs) w) (hR:InR (.mk wd a len cap rows subs) R) (h:len < 9223372036854775808→Tri P f args L R Post):Tri P f args L R Post:=by refine ⟨hcall,fun w G hh=>?_⟩;obtain ⟨r,hr,hsub⟩:=hR;have:=((hh.rep r hr).sub hsub).bounds;exact (h za).2 w G hh
abbrev FS {α β:Type} (f:α→Option β) (l:List α):={k:Nat // k≤l.length∧l.findSome? f=(l.drop k).findSome? f}
def K1a {α β:Type} (f:α→Option β) (l:List α):0≤l.length∧l.findSome? f=(l.drop 0).findSome? f:=⟨yT _,by rw [yAb]⟩
def Kba {α β:Type} {f:α→Option β} {l:List α} {k:Nat} {x:α} (h:l.findSome? f=(l.drop k).findSome? f) (hx:l[k]?=some x) (hf:f x=none):k + 1≤l.length∧l.findSome? f=(l.drop (k + 1)).findSome? f:=by obtain ⟨hk,_⟩:=List.getElem?_eq_some_iff.1 hx;refine ⟨hk,?_⟩;rw [h,Yva hx,List.findSome?_cons,hf]
def Zm {α β:Type} {f:α→Option β} {l:List α} {k:Nat} {x:α} {e:β} (h:l.findSome? f=(l.drop k).findSome? f) (hx:l[k]?=some x) (hf:f x=some e):l.findSome? f=some e:=by rw [h,Yva hx,List.findSome?_cons,hf]
def Kaa {α β:Type} {f:α→Option β} {l:List α} {k:Nat} (h:l.findSome? f=(l.drop k).findSome? f) (hk:l.length≤k):l.findSome? f=none:=by rw [h,ycb hk];rfl
abbrev FSR {β:Type} (f:Nat→Option β) (n:Nat):={k:Nat // k≤n∧(List.range n).findSome? f=((List.range n).drop k).findSome? f}
def Kna {β:Type} (f:Nat→Option β) (n:Nat):0≤n∧(List.range n).findSome? f=((List.range n).drop 0).findSome? f:=⟨yT _,by rw [yAb]⟩
def Yyc {n k:Nat} (h:k < n):(List.range n)[k]?=some k:=by simp [yN h]
def Zk {β:Type} {f:Nat→Option β} {n k:Nat} (h:(List.range n).findSome? f=((List.range n).drop k).findSome? f) (hk:k < n) (hf:f k=none):k + 1≤n∧(List.range n).findSome? f=((List.range n).drop (k + 1)).findSome? f:=
 ⟨hk,(Kba h (Yyc hk) hf).2⟩
def Yb {β:Type} {f:Nat→Option β} {n k:Nat} {e:β} (h:(List.range n).findSome? f=((List.range n).drop k).findSome? f) (hk:k < n) (hf:f k=some e):(List.range n).findSome? f=some e:=Zm h (Yyc hk) hf
def J0a {β:Type} {f:Nat→Option β} {n k:Nat} (h:(List.range n).findSome? f=((List.range n).drop k).findSome? f) (hk:n≤k):(List.range n).findSome? f=none:=Kaa h zD
def Jw {α:Type} {l:List α} {k:Nat} (d:α) (h:k < l.length):l[k]?=some (l.getD k d):=by rw [yh,yC h];rfl
def getD_some {α:Type} {l:List α} {k:Nat} {x d:α} (h:l[k]?=some x):l.getD k d=x:=by rw [yh,h];rfl
def Jp {P n code t L R} {Q:Kt} (sl:List (Nat×Value)) (h0:Yea t sl) (h:∀t',CJ P n code (updL t' sl) L R Q):CJ P n code t L R Q:=by have:=h t;rwa [Y5 h0] at this
def Y6 {P n code t t0 L R} {Q:Kt} (ws:List Nat) (ho:Off ws t0 t) (sl:List (Nat×Value)) (h0:Yea t sl) (h:∀junk,CJ P n code (updL (havoc ws t0 junk) sl) L R Q):CJ P n code t L R Q:=by have:=h t;rwa [Z8 ho,Y5 h0] at this
def Off.left {ws:List Nat} {t0 t:Nat→Value} {l:List (Nat×Value)} (hd:l.all (fun p=>Z3b p.1 ws)=true) (h:Off ws t0 t):Off ws (Aw.updL t0 l) t:=fun k hk=>by
 rw [h k hk]
 exact ((Off.updL hd (Off.refl (ws:=ws) (t:=t0))) k hk).symm
def K4c {γ : Type} {P n body t L R} {Q : Kt} (ws : List Nat) (slots : γ → List (Nat × Value)) (m : γ → Nat) (g0 : γ) (h0 : Yea t (slots g0))
 (hstep:∀g junk,CJ P n body (updL (havoc ws t junk) (slots g)) L R (Kj ws t ⟨slots,fun _=>L,fun _=>R,m⟩ (m g) Q)):CJ P n (.loop body) t L R Q:=
 Vx ws ⟨slots,fun _=>L,fun _=>R,m⟩ g0 h0 ye ztb hstep
structure XBlow where
 fan:XFan
 state:Int
deriving Inhabited
def XBlow.cells (b:XBlow):List Value:=[.int .i64 b.fan.road,.bool b.fan.back,.bool b.fan.aux,b.fan.curve.val,.int .i64 b.state]
structure XPipe where
 road:XRoad
 num:Int
 fans:Arr XBlow
deriving Inhabited
def XPipe.cells (p:XPipe):List Value:=[.int .i64 p.road.fr,.int .i64 p.road.to,.int .i64 p.road.len,.int .i64 p.road.area,.bool p.road.walk,.bool p.road.closed,.int .i64 p.road.rest.low,.int .i64 p.road.rest.high,.int .i64 p.road.lift.low,.int .i64 p.road.lift.high,.int .i64 p.num,p.fans.val]
abbrev XPipe.val (p:XPipe):Value:=.agg #[.int .i64 p.road.fr,.int .i64 p.road.to,.int .i64 p.road.len,.int .i64 p.road.area,.bool p.road.walk,.bool p.road.closed,.int .i64 p.road.rest.low,.int .i64 p.road.rest.high,.int .i64 p.road.lift.low,.int .i64 p.road.lift.high,.int .i64 p.num,p.fans.val]
abbrev XPipe.sl (p:XPipe):Sl:=p.fans.sl 5 XBlow.cells (p.fans.l.map fun b=>b.fan.sl)
def InR.blow {p:XPipe} {R:LS} (h:InR p.sl R) {i:Nat} {b:XBlow} (hi:p.fans.l[i]?=some b):InR b.fan.sl R:=
 h.sub (.deep (List.mem_map.2 ⟨b,yj hi,rfl⟩) .here)
abbrev Y4f (l:List Int):List Value:=l.map (Value.int .i64)
def Kig (b i:Nat):eo (some ⟨b,0,none⟩) 1 i 0=i:=by simp [eo,adO]
def U9a {l:List Int} {b i:Nat} {x:Int} (h:l[i]?=some x):(Y4f l)[eo (some ⟨b,0,none⟩) 1 i 0]?=some (.int .i64 x):=by rw [Kig,yt,h];rfl
def Y9a {l:List Int} {b i:Nat} (h:i < l.length):Nat.blt (eo (some ⟨b,0,none⟩) 1 i 0) (Y4f l).length=true:=by rw [Kig,yz];simpa using h
def Zaa {l:List Int} {b i:Nat} {x:Int}:(Y4f l).set (eo (some ⟨b,0,none⟩) 1 i 0) (.int .i64 x)=Y4f (l.set i x):=by rw [Kig];unfold Y4f;rw [List.map_set]
end Go.Aw
