/-
  Flows: RefFits, PipeOf, Mono, Spec, Codes, in one text. By an AI agent; no person has read it.
-/
import Derived.Test.YtchfclmokpbldaaGreatFans
set_option linter.all false
set_option maxHeartbeats 4000000
section
namespace Go.Proofs.YtchfclmokpbldaaGreat
open Go.Aw Go
set_option maxRecDepth 20000
attribute [local irreducible] CJ LJ DJ Tri YV Gives U7 Kb Kp U8 RV Ke
def Um (p:Int):Option Int:=if p < -70368744177664∨70368744177664 < p then some 1 else none
def Yma (q:Int):Option Int:=if q < -1048576∨1048576 < q then some 1 else none
def Jcb (a : XAir) (x : XState) : Nat → List Int
 | 0=>List.replicate x.pres.l.length 0
 | k + 1=>
  let l1:=(Jcb a x k).set (a.mine.roads.l.getD k default).fr.toNat ((Jcb a x k).getD (a.mine.roads.l.getD k default).fr.toNat 0 + x.flows.l.getD k 0)
  l1.set (a.mine.roads.l.getD k default).to.toNat (l1.getD (a.mine.roads.l.getD k default).to.toNat 0 - x.flows.l.getD k 0)
def Zp (a:XAir) (s:XSetting) (x:XState) (i:Nat):Option Int:=
 let r:=a.mine.roads.l.getD i default
 let d:=x.pres.l.getD r.fr.toNat 0 - x.pres.l.getD r.to.toNat 0
 if (r.closed=true∧x.flows.l.getD i 0≠0)∨(r.closed=false∧(d < (Uc a s i (x.flows.l.getD i 0)).low∨(Uc a s i (x.flows.l.getD i 0)).high < d)) then some 10 else none
def Yt (a:XAir) (x:XState) (net:List Int) (i:Nat):Option Int:=
 if ((a.mine.places.l.getD i default).surface=true∧x.pres.l.getD i 0≠0)∨((a.mine.places.l.getD i default).surface=false∧net.getD i 0≠0) then some 10 else none
def Y6c (a:XAir) (s:XSetting) (x:XState):Int:=
 if Ko a≠0 then Ko a else if J8a a s=false then 21
 else if x.pres.l.length≠a.mine.places.l.length∨x.flows.l.length≠a.mine.roads.l.length then 11
 else match x.pres.l.findSome? Um with
  | some e=>e
  | none=>match x.flows.l.findSome? Yma with
   | some e=>e
   | none=>match (List.range x.flows.l.length).findSome? (Zp a s x) with
    | some e=>e
    | none=>((List.range x.pres.l.length).findSome? (Yt a x (Jcb a x x.flows.l.length))).getD 0
def Znc (a : XAir) (x : XState) : ∀ k, (Jcb a x k).length = x.pres.l.length
 | 0=>by simp [Jcb]
 | k + 1=>by simp only [Jcb,yN];exact Znc a x k
def Vjc {a:XAir} {s:XSetting} {x:XState} (h0:Ko a=0) (h1:J8a a s=true) (h2:¬ (x.pres.l.length≠a.mine.places.l.length∨x.flows.l.length≠a.mine.roads.l.length)):
 Y6c a s x=match x.pres.l.findSome? Um with
 | some e=>e
 | none=>match x.flows.l.findSome? Yma with
  | some e=>e
  | none=>match (List.range x.flows.l.length).findSome? (Zp a s x) with
   | some e=>e
   | none=>((List.range x.pres.l.length).findSome? (Yt a x (Jcb a x x.flows.l.length))).getD 0:=by rw [Y6c,if_neg (by simp [h0]),if_neg (by simp [h1]),if_neg h2]
end Go.Proofs.YtchfclmokpbldaaGreat
end
section
namespace Go.Proofs.YtchfclmokpbldaaGreat
open Go.Aw Go
def blowsTo (a : XAir) (s : XSetting) (r : Int) : Nat → List XBlow
 | 0=>[]
 | k + 1=>if s.fans.l.getD k 0≠0∧(a.fans.l.getD k default).road=r then blowsTo a s r k ++ [⟨a.fans.l.getD k default,s.fans.l.getD k 0⟩] else blowsTo a s r k
structure PipeIs (a:XAir) (s:XSetting) (r:Int) (p:XPipe):Prop where
 road:p.road={ a.mine.roads.l.getD r.toNat default with rest:=Uj a s r a.doors.l.length }
 num:p.num=r
 fans:p.fans.l=blowsTo a s r a.fans.l.length
def K8g (q:Int) (s:XSpan) (b:XBlow):XSpan:=⟨s.low - (Uy b.fan b.state q).high,s.high - (Uy b.fan b.state q).low⟩
def Zmb (p : XPipe) (q : Int) : ∀ k, k ≤ p.fans.l.length → Joa p q k = (p.fans.l.take k).foldl (K8g q) (Joa p q 0)
 | 0,_=>by simp
 | k + 1,hk=>by
  have hx:=Js (l:=p.fans.l) (k:=k) default zc
  have e:p.fans.l.take (k + 1)=p.fans.l.take k ++ [p.fans.l.getD k default]:=by
   rw [yta,hx];rfl
  rw [e,yeb,← Zmb p q k zc]
  rfl
def Une (f:XFan) (q:Int):Uy f 0 q=⟨0,0⟩:=by rw [Uy,if_neg zj,if_neg zj,if_neg zj]
def U3b (a : XAir) (s : XSetting) (r q : Int) : ∀ k, innerTo a s r q k = (blowsTo a s r k).foldl (K8g q) (innerTo a s r q 0)
 | 0=>rfl
 | k + 1=>by
  have ih:=U3b a s r q k
  rw [innerTo.eq_2,blowsTo.eq_2]
  by_cases hr:(a.fans.l.getD k default).road=r
  ·by_cases h0 : s.fans.l.getD k 0 = 0
   ·rw [if_pos hr, if_neg (fun h => h.1 h0), h0, Une, ← ih]
    simp only [Int.sub_zero]
   ·rw [if_pos hr, if_pos ⟨h0, hr⟩, yeb, ← ih]
    rfl
  ·rw [if_neg hr,if_neg (fun h=>hr h.2),← ih]
def Vdd {a:XAir} {s:XSetting} {r:Int} {p:XPipe} (h:PipeIs a s r p) (q:Int):Jdb p q=Uc a s r q:=by
 have e0:Joa p q 0=innerTo a s r q 0:=by
  by_cases hq:q < 0;·rw [Ueb hq,U9a hq,h.road,yvb,yvb,yua,yua]
  ·rw [Kyb hq,Vfa hq,h.road,yua,yua]
 rw [Jdb,Zmb p q _ (yn _),yZb,e0,h.fans,Uc,U3b a s r q a.fans.l.length]
def Vra {a : XAir} {s : XSetting} {r : Int} : ∀ (k : Nat), k ≤ a.fans.l.length → ∀ b ∈ blowsTo a s r k, ∃ i : Nat, a.fans.l[i]? = some b.fan
 | 0,_,b,hb=>by simp [blowsTo] at hb
 | k + 1,hk,b,hb=>by
  rw [blowsTo] at hb
  split at hb
  ·rcases List.mem_append.1 hb with h | h
   ·exact Vra k zc b h
   ·rw [List.mem_singleton.1 h];exact ⟨k,Js default zc⟩
  ·exact Vra k zc b hb
def Ufa {a : XAir} {s : XSetting} {r : Int} : ∀ (k : Nat), (blowsTo a s r k).length ≤ k
 | 0=>by simp [blowsTo]
 | k + 1=>by
  have:=Ufa (a:=a) (s:=s) (r:=r) k
  rw [blowsTo]
  split
  ·simp;omega
  ·omega
def Zoc {a:XAir} {s:XSetting} {r:Int} {p:XPipe} (ha:AirOk a) (hr:0≤r∧r < a.mine.roads.l.length) (h:PipeIs a s r p):PipeOk p:=by
 have hro:=ha.mine.road r.toNat _ zwc;have hrb:=Yf (s:=s) ha hr a.doors.l.length (yn _);have hnd:=ha.ndoors;have hnf:=ha.nfans;have hl:=Ufa (a:=a) (s:=s) (r:=r) a.fans.l.length;refine ⟨?_,?_,?_,fun i b hb=>?_⟩;·rw [h.road];dsimp only;omega
 ·rw [h.road];exact hro.lift
 ·rw [h.fans];omega
 ·rw [h.fans] at hb;obtain ⟨j,hj⟩:=Vra a.fans.l.length (yn _) b (yi hb);exact (ha.fan j _ hj).1
def Rises (f:Int→Int):Prop:=∀x y:Int,-1048577≤x→x < y→y≤1048577→f x < f y
end Go.Proofs.YtchfclmokpbldaaGreat
end
section
namespace Go.Proofs.YtchfclmokpbldaaGreat
open Go.Aw Go
def LeS (s t:XSpan):Prop:=s.low≤t.low∧s.high≤t.high
def Y9b {a b:XPoint} {q:Int} (hw:a.flow < b.flow):(Vf a b q).low=a.pres + (-((a.pres - b.pres) * (q - a.flow))) / (b.flow - a.flow):=by rw [Vzb zc];unfold Vf;dsimp only;omega
def V1c {a b:XPoint} {q q':Int} (hp:b.pres≤a.pres) (hw:a.flow < b.flow) (h:q≤q'):LeS (Vf a b q') (Vf a b q):=by
 have hm:(a.pres - b.pres) * (q - a.flow)≤(a.pres - b.pres) * (q' - a.flow):=ypa zc zc;constructor;·rw [Y9b hw, Y9b hw];have:=Int.ediv_le_ediv (a:= -((a.pres - b.pres) * (q' - a.flow))) (b:= -((a.pres - b.pres) * (q - a.flow))) (c:=b.flow - a.flow) zc zc;omega
 ·have := Int.ediv_le_ediv (a := (a.pres - b.pres) * (q - a.flow)) (b := (a.pres - b.pres) * (q' - a.flow)) (c := b.flow - a.flow) zc hm;unfold Vf;dsimp only;omega
def Ujb : ∀ (l : List XPoint) (p : XPoint) (q q' : Int), CurveOk (p :: l) → p.flow ≤ q → q ≤ q' → LeS (Y7 p l q') (Y7 p l q)
 | [],p,q,q',_,_,_=>⟨yI _,yI _⟩
 | r :: rest,p,q,q',h,hq,hqq=>by
  have h0:=h.pt 0 p rfl
  have h1:=h.pt 1 r rfl
  have h2:=h.st 0 p r rfl rfl
  have ok':CurveOk (r :: rest):=⟨fun i=>h.pt (i + 1),fun i=>h.st (i + 1)⟩
  unfold Y7
  by_cases c1:q≤r.flow
  ·by_cases c2 : q' ≤ r.flow
   ·rw [if_pos c1,if_pos c2];exact V1c h2.2 h2.1 hqq
   ·rw [if_pos c1, if_neg c2]
    have b1:=Z6a (a:=p) (b:=r) (q:=q) zc zc
    have b2:=Z0 rest r q' ok' zc
    exact ⟨by omega,by omega⟩
  ·rw [if_neg c1, if_neg zc]
   exact Ujb rest r q q' ok' zc hqq
def Zsb {l:List XPoint} (h:CurveOk l) {q q':Int} (hqq:q≤q'):LeS (Yl l q') (Yl l q):=by
 cases l with
 | nil=>exact ⟨yI _,yI _⟩
 | cons p rest=>
  unfold Yl;dsimp only;by_cases c1:q≤p.flow;·
   by_cases c2 : q' ≤ p.flow;·rw [if_pos c1,if_pos c2];exact ⟨yI _,yI _⟩
   ·rw [if_pos c1, if_neg c2];have b2:=Z0 rest p q' h zc;exact ⟨by dsimp only;omega,by dsimp only;omega⟩
  ·rw [if_neg c1, if_neg zc];exact Ujb rest p q q' h zc hqq
def Vua {l:List XPoint} (h:CurveOk l) (back:Bool) {q q':Int} (hqq:q≤q'):LeS (Yy l back q') (Yy l back q):=by
 unfold Yy;cases back with
 | false=>exact Zsb h hqq
 | true=>have:=Zsb h (q:= -q') (q':= -q) zc;exact ⟨by simp only [if_true,Jof];have:=this.2;omega,by simp only [if_true,Jof];have:=this.1;omega⟩
def Kmd {f:XFan} (h:CurveOk f.curve.l) (s:Int) {q q':Int} (hqq:q≤q'):LeS (Uy f s q') (Uy f s q):=by
 have m1:=Vua h f.back hqq;have m2:=Vua h (!f.back) hqq;have m3:=Vua h false hqq;have m4:=Vua h true hqq;unfold LeS at *;unfold Uy;split;·exact m1
 ·
  split;·exact m2
  ·
   split;·dsimp only;omega
   ·exact ⟨yI _,yI _⟩
def LtS (s t:XSpan):Prop:=s.low < t.low∧s.high < t.high
def Yad {r x y:Int} (hr:0 < r) (hx:0≤x) (h:x < y):r * x * x < r * y * y:=by have h1:r * x≤r * y:=ypa zc zc;have h0:0≤r * x:=yR zc hx;have h2:r * x * x≤r * x * y:=ypa zc h0;have h3:r * x < r * y:=Int.mul_lt_mul_of_pos_left h hr;have h4:r * x * y < r * y * y:=Int.mul_lt_mul_of_pos_right h3 zc;omega
def Zgd {rest lift:XSpan} (hr:1≤rest.low∧rest.low≤rest.high) {q q':Int} (h:q < q'):LtS (Jkc rest lift q) (Jkc rest lift q'):=by
 unfold Jkc LtS;have neg:∀(r x:Int),r * x * x=r * (-x) * (-x):=fun r x=>by rw [yub (r * -x),yub r,yvb,Int.neg_neg]
 by_cases c1:q < 0;·
  by_cases c2 : q' < 0;·rw [if_pos c1, if_pos c2];have a1:=Yad (r:=rest.high) (x:= -q') (y:= -q) zc zc zc;have a2:=Yad (r:=rest.low) (x:= -q') (y:= -q) zc zc zc;rw [← neg,← neg] at a1 a2;dsimp only;omega
  ·rw [if_pos c1, if_neg c2];have a1:=Yad (r:=rest.high) (x:=0) (y:= -q) zc zc zc;have a2:=Yad (r:=rest.low) (x:=0) (y:= -q) zc zc zc;rw [← neg] at a1 a2;have b1:0≤rest.low * q' * q':=yR (yR zc zc) zc;have b2:0≤rest.high * q' * q':=yR (yR zc zc) zc;simp only [ydc] at a1 a2;dsimp only;omega
 ·rw [if_neg c1, if_neg zc];have a1:=Yad (r:=rest.high) (x:=q) (y:=q') zc zc h;have a2:=Yad (r:=rest.low) (x:=q) (y:=q') zc zc h;dsimp only;omega
def Usb {a : XAir} {s : XSetting} (ha : AirOk a) {r : Int} (hr : 0 ≤ r ∧ r < a.mine.roads.l.length) {q q' : Int} (h : q < q') : ∀ k, k ≤ a.fans.l.length → LtS (innerTo a s r q k) (innerTo a s r q' k)
 | 0,_=>by
  have hb:=Yf (s:=s) ha hr a.doors.l.length (yn _)
  exact Zgd ⟨hb.1,hb.2.1⟩ h
 | k + 1,hk=>by
  have ih:=Usb (s:=s) ha hr h k zc
  have m:=Kmd (ha.fan k _ zwc).1.ok (s.fans.l.getD k 0) (show q≤q' by omega)
  unfold LtS LeS at *
  rw [innerTo.eq_2,innerTo.eq_2]
  split
  ·dsimp only;omega
  ·exact ih
def Ynb {a:XAir} {s:XSetting} (ha:AirOk a) {r:Int} (hr:0≤r∧r < a.mine.roads.l.length) {q q':Int} (h:q < q'):LtS (Uc a s r q) (Uc a s r q'):=Usb ha hr h _ (yn _)
end Go.Proofs.YtchfclmokpbldaaGreat
end
section
namespace Go.Proofs.YtchfclmokpbldaaGreat
open Go.Aw Go
def Rises.le {f:Int→Int} (h:Rises f) {x y:Int} (h1:-1048577≤x) (h2:x≤y) (h3:y≤1048577):f x≤f y:=by
 rcases Int.lt_or_eq_of_le h2 with h' | h';·exact Int.le_of_lt (h x y h1 h' h3)
 ·rw [h'];exact yI _
def U1c {f:Int→Int} {pr:Int} (hf:Rises f):∀(n:Nat) (lo hi:Int),(hi - lo).toNat=n→-1048577≤lo→lo≤hi→hi≤1048577→
 lo≤Ybc f pr lo hi∧Ybc f pr lo hi≤hi∧(∀x,lo < x→x≤Ybc f pr lo hi→f x≤pr)∧(∀x,Ybc f pr lo hi < x→x≤hi→pr < f x)
 | n,lo,hi,hn,h1,hle,h2=>by
  by_cases h:lo < hi
  ·have he := Uia (x := hi - lo + 1) zc
   by_cases hc:f (lo + (hi - lo + 1).tdiv 2)≤pr
   ·rw [Uhd h hc]
    obtain ⟨a1,a2,a3,a4⟩:=U1c (pr:=pr) hf _ (lo + (hi - lo + 1).tdiv 2) hi rfl zc zc h2
    refine ⟨by omega,a2,fun x hx1 hx2=>?_,a4⟩
    rcases yka (lo + (hi - lo + 1).tdiv 2) x with hx | hx
    ·exact a3 x hx hx2
    ·exact Int.le_trans (hf.le zc hx zc) hc
   ·rw [K4d h hc]
    obtain ⟨a1,a2,a3,a4⟩:=U1c (pr:=pr) hf _ lo (lo + (hi - lo + 1).tdiv 2 - 1) rfl h1 zc zc
    refine ⟨a1,by omega,a3,fun x hx1 hx2=>?_⟩
    rcases yka (lo + (hi - lo + 1).tdiv 2 - 1) x with hx | hx
    ·have := hf.le (x := lo + (hi - lo + 1).tdiv 2) (y := x) zc zc zc
     omega
    ·exact a4 x hx1 hx
  ·rw [Vac h]
   exact ⟨by omega,by omega,fun x _ _=>by omega,fun x _ _=>by omega⟩
termination_by n=>n
decreasing_by all_goals (have:=Uia (x:=hi - lo + 1) zc;omega)
def Vyb {f:Int→Int} {pr:Int} (hf:Rises f):∀(n:Nat) (lo hi:Int),(hi - lo).toNat=n→-1048577≤lo→lo≤hi→hi≤1048577→
 lo≤Yra f pr lo hi∧Yra f pr lo hi≤hi∧(∀x,lo≤x→x < Yra f pr lo hi→f x < pr)∧(∀x,Yra f pr lo hi≤x→x < hi→pr≤f x)
 | n,lo,hi,hn,h1,hle,h2=>by
  by_cases h:lo < hi
  ·have he := Uia (x := hi - lo) zc
   by_cases hc:pr≤f (lo + (hi - lo).tdiv 2)
   ·rw [Uyc h hc]
    obtain ⟨a1,a2,a3,a4⟩:=Vyb (pr:=pr) hf _ lo (lo + (hi - lo).tdiv 2) rfl h1 zc zc
    refine ⟨a1,by omega,a3,fun x hx1 hx2=>?_⟩
    rcases yka x (lo + (hi - lo).tdiv 2) with hx | hx
    ·exact a4 x hx1 hx
    ·exact Int.le_trans hc (hf.le zc hx zc)
   ·rw [Vrc h hc]
    obtain ⟨a1,a2,a3,a4⟩:=Vyb (pr:=pr) hf _ (lo + (hi - lo).tdiv 2 + 1) hi rfl zc zc h2
    refine ⟨by omega,a2,fun x hx1 hx2=>?_,a4⟩
    rcases yka x (lo + (hi - lo).tdiv 2 + 1) with hx | hx
    ·have := hf.le (x := x) (y := lo + (hi - lo).tdiv 2) zc zc zc
     omega
    ·exact a3 x hx hx2
  ·rw [V0b h]
   exact ⟨by omega,by omega,fun x _ _=>by omega,fun x _ _=>by omega⟩
termination_by n=>n
decreasing_by all_goals (have:=Uia (x:=hi - lo) zc;omega)
def Khe {a:XAir} {s:XSetting} (ha:AirOk a) {r:Int} (hr:0≤r∧r < a.mine.roads.l.length):Rises fun q=>(Uc a s r q).low:=fun _ _ _ h _=>(Ynb ha hr h).1
def Ymd {a:XAir} {s:XSetting} (ha:AirOk a) {r:Int} (hr:0≤r∧r < a.mine.roads.l.length):Rises fun q=>(Uc a s r q).high:=fun _ _ _ h _=>(Ynb ha hr h).2
end Go.Proofs.YtchfclmokpbldaaGreat
end
section
namespace Go.Proofs.YtchfclmokpbldaaGreat
open Go.Aw Go
set_option maxRecDepth 20000
attribute [local irreducible] CJ LJ DJ Tri YV Gives U7 Kb Kp U8 RV Ke
def Ude (n:Int):List Value:=[.int .u8 n]
abbrev bsl (x:Arr Int):Sl:=x.sl 1 Ude []
abbrev cblk (c:Nat) (x:Arr Int) (k:Nat):Blk:=⟨c,[x.val,.int .i64 (k:Int)],168⟩
structure CodesR (x:Arr Int) (R:LS):Prop where
 sl:InR (bsl x) R
 byte:∀(i:Nat) (b:Int),x.l[i]?=some b→0≤b∧b≤255
def Yyb (c:Nat) (x:Arr Int) (k:Nat) (n:Int) (R:LS) (hx:CodesR x R) (hk:k≤x.l.length) (hn:n≤1000000):
 Tri Tryz.prog 20 [.pointer (some ⟨c, 0, none⟩), .int .i64 n].toArray [cblk c x k] R
  (fun v M U=>∃(r:Int) (k':Nat),v=.int .i64 r∧0≤r∧(1≤n→r < n)∧(n < 1→r=0)∧k'≤x.l.length∧(x.l.length≤k→r=0∧k'=k)∧[cblk c x k']=M∧R=U):=by
 have hsl:=hx.sl;refine Ua Tryz.call20 hsl fun hxn=>?_;refine Jd 77 Tryz.call20 Tryz.func20 rfl rfl rfl ?_;apply Xac∘qco;refine Kg tb [0,1,2,3,4,5,6,7,8,9,10,11,12,13] _ Kn zf ye ?_;apply (qao);refine Kq zBc rfl rfl rfl ?_;apply (qb2);refine U9 (k:=8) ztb (fun hg2=>?_) (fun hg2=>?_);·
  replace hg2:=qb hg2;iterate 10 apply (qap)
  apply (Xbt);refine K0 rfl ?_;exact zPe
 replace hg2:=qb hg2;apply Xeb∘Xeb;refine Kq zHb rfl rfl rfl ?_;refine Kq zJc rfl rfl rfl ?_;apply (Xbt);refine q_c ?_ ?_<;>intro hc0;·exact zPe
 have hb:=Js (l:=x.l) (k:=k) 0 zc;have hbb:=hx.byte _ _ hb;apply qbv∘qa6;refine J0 zXb rfl ?_;apply Xaa∘qar;refine J0 zXb rfl ?_;apply Xbs∘qa4;refine Kg tb [0,1,2,3,4,5,6,7,8,9,10,11,12] _ Kn zf ye ?_;apply Xeb∘Xeb∘qb7∘qds∘qbl∘qdm∘qcg;refine J9 (Ja (Ji (Ji ?_)));refine Kg tb [0,1,2,3,4,5,6,7,8,9,10,11,12,13] _ Kn zf ye ?_;apply (qao);refine Kq zKc rfl rfl rfl ?_;apply (qb2);refine U9 (k:=41) ztb (fun hg2=>?_) (fun hg2=>?_);·
  replace hg2:=qb hg2;apply Xeb∘Xeb;refine Kq zHb rfl rfl rfl ?_;refine Kq zBc rfl rfl rfl ?_;apply (Xbt);refine q_c ?_ ?_<;>intro hc1;·
   obtain ⟨kk,hkk⟩:∃kk,kk=k + 2:=⟨_,rfl⟩;have hb2:=Js (l:=x.l) (k:=k + 1) 0 zc;have hbb2:=hx.byte _ _ hb2;refine Ji ?_;refine Kg tb [0,1,2,3,4,5,6,7,8,9,10,11,12,13,14] _ Kn zf ye ?_;apply qao∘qdh∘Xeb∘Xeb∘qdy∘qbl∘qdm∘qc2∘qcg;refine J9 (Ja (Je ?_));apply (qa6);refine J0 zXb rfl ?_;apply Xaa∘qar;refine J0 zXb rfl ?_;apply Xbs∘qam∘Xbu∘qda∘Xam;have htm:=fun y (h:0≤y)=>And.intro (yHb n h) (ypb y (show 0 < n by omega));refine Ku (M:=[cblk c x kk]) (U:=R) zGd ?hp ?hL ?hR;case hp=>exact ⟨_,kk,rfl,(htm _ zc).1,fun _=>(htm _ zc).2,fun _=>by omega,by omega,fun h=>by omega,rfl,rfl⟩
   case hL=>subst hkk;exact zk
   case hR=>exact Jc _
  obtain ⟨kk,hkk⟩:∃kk,kk=k + 1:=⟨_,rfl⟩;apply qbv∘Xbu∘qda∘Xam;have htm:=fun y (h:0≤y)=>And.intro (yHb n h) (ypb y (show 0 < n by omega));refine Ku (M:=[cblk c x kk]) (U:=R) zGd ?hp ?hL ?hR;case hp=>exact ⟨_,kk,rfl,(htm _ zc).1,fun _=>(htm _ zc).2,fun _=>by omega,by omega,fun h=>by omega,rfl,rfl⟩
  case hL=>subst hkk;exact zk
  case hR=>exact Jc _
 replace hg2:=qb hg2;obtain ⟨kk,hkk⟩:∃kk,kk=k + 1:=⟨_,rfl⟩;iterate 10 apply (qap)
 apply (Xbt);refine Vy rfl ?_;apply qbv∘Xbu∘qda∘Xam;have htm:=fun y (h:0≤y)=>And.intro (yHb n h) (ypb y (show 0 < n by omega));refine Ku (M:=[cblk c x kk]) (U:=R) zGd ?hp ?hL ?hR;case hp=>exact ⟨_,kk,rfl,(htm _ zc).1,fun _=>(htm _ zc).2,fun _=>by omega,by omega,fun h=>by omega,rfl,rfl⟩
 case hL=>subst hkk;exact zk
 case hR=>exact Jc _
def U1d (c:Nat) (x:Arr Int) (k:Nat) (n:Int) (R:LS) (hx:CodesR x R) (hk:k≤x.l.length) (hn:n≤1000000):
 Tri Tryz.prog 20 [.pointer (some ⟨c, 0, none⟩), .int .i64 n].toArray [cblk c x k] R
  (fun v M U=>∃(r:Int) (k':Nat),v=.int .i64 r∧0≤r∧(1≤n→r < n)∧(n < 1→r=0)∧k'≤x.l.length∧[cblk c x k']=M∧R=U):=
 (Yyb c x k n R hx hk hn).mono fun v M U ⟨r,k',h1,h2,h3,h4,h5,_,h6,h7⟩=>⟨r,k',h1,h2,h3,h4,h5,h6,h7⟩
def Kdf (c:Nat) (x:Arr Int) (k:Nat) (n:Int) (R:LS) (hx:CodesR x R) (hk:k≤x.l.length) (hn:-1000000≤n∧n≤1000000):
 Tri Tryz.prog 24 [.pointer (some ⟨c, 0, none⟩), .int .i64 n].toArray [cblk c x k] R
  (fun v M U=>∃(b:Bool) (k':Nat),v=.bool b∧k'≤x.l.length∧[cblk c x k']=M∧R=U):=by refine Jd 11 Tryz.call24 Tryz.func24 rfl rfl rfl ?_;apply Xa3∘qam∘Xc2;refine Ju rfl (U1d c x k n _ hx hk zc) rfl ?_;rintro v M U ⟨r,k',rfl,h1,h2,h3,hk',rfl,rfl⟩;apply Xck∘qbn∘Xbb;refine q_b [cblk c x k'] R ?_;exact ⟨_,k',rfl,hk',rfl,rfl⟩
def J3c (c:Nat) (x:Arr Int) (k:Nat) (lo hi:Int) (R:LS) (hx:CodesR x R) (hk:k≤x.l.length) (hl:-400000≤lo∧lo≤hi∧hi≤400000):
 Tri Tryz.prog 73 [.pointer (some ⟨c, 0, none⟩), .int .i64 lo, .int .i64 hi].toArray [cblk c x k] R
  (fun v M U=>∃(r:Int) (k':Nat),v=.int .i64 r∧lo≤r∧r≤hi∧k'≤x.l.length∧(x.l.length≤k→r=lo∧k'=k)∧[cblk c x k']=M∧R=U):=by refine Jd 15 Tryz.call73 Tryz.func73 rfl rfl rfl ?_;apply Xac∘Xdr∘qa6∘Xbu∘qa9∘qar;refine Ju rfl (Yyb c x k (hi - lo + 1) _ hx hk zc) rfl ?_;rintro v M U ⟨r,k',rfl,h1,h2,h3,hk',he,rfl,rfl⟩;have h4:=h2 zc;apply Xad∘qa0;refine q_i [cblk c x k'] R ?_;exact ⟨_,k',rfl,by omega,by omega,hk',fun h=>by have:=he h;omega,rfl,rfl⟩
def K1e (c:Nat) (x:Arr Int) (k:Nat) (lo hi:Int) (R:LS) (hx:CodesR x R) (hk:k≤x.l.length) (hl:-400000≤lo∧lo≤hi∧hi≤400000):
 Tri Tryz.prog 73 [.pointer (some ⟨c, 0, none⟩), .int .i64 lo, .int .i64 hi].toArray [cblk c x k] R
  (fun v M U=>∃(r:Int) (k':Nat),v=.int .i64 r∧lo≤r∧r≤hi∧k'≤x.l.length∧[cblk c x k']=M∧R=U):=
 (J3c c x k lo hi R hx hk hl).mono fun v M U ⟨r,k',h1,h2,h3,h5,_,h6,h7⟩=>⟨r,k',h1,h2,h3,h5,h6,h7⟩
abbrev Vc (x:Arr Int) (k:Nat):List Value:=[x.val,.int .i64 (k:Int)]
def Zx {c:Nat} {x:Arr Int} {k:Nat} {n:Int} {L:LB} {F:List Value→LB} {R:LS} (hu:USeg c (Vc x k) 168 L F) (hx:CodesR x R) (hk:k≤x.l.length) (hn:n≤1000000):
 Tri Tryz.prog 20 [.pointer (some ⟨c, 0, none⟩), .int .i64 n].toArray L R
  (fun v M U=>∃(r:Int) (k':Nat),v=.int .i64 r∧0≤r∧(1≤n→r < n)∧(n < 1→r=0)∧k'≤x.l.length∧F (Vc x k')=M∧R=U):=
 (Tri.at1 (Post' := fun v cs' U => ∃ (r : Int) (k' : Nat), v = .int .i64 r ∧ 0 ≤ r ∧ (1 ≤ n → r < n) ∧ (n < 1 → r = 0) ∧ k' ≤ x.l.length ∧ cs' = Vc x k' ∧ R = U) hu (U1d c x k n R hx hk hn)
  (fun v M U ⟨r,k',h1,h2,h3,h4,h5,h6,h7⟩=>⟨_,h6,r,k',h1,h2,h3,h4,h5,rfl,h7⟩)).mono
  (fun v M U ⟨cs',h0,r,k',h1,h2,h3,h4,h5,h6,h7⟩=>⟨r,k',h1,h2,h3,h4,h5,by rw [← h6];exact h0,h7⟩)
def Jwg {c:Nat} {x:Arr Int} {k:Nat} {n:Int} {L:LB} {F:List Value→LB} {R:LS} (hu:USeg c (Vc x k) 168 L F) (hx:CodesR x R) (hk:k≤x.l.length) (hn:n≤1000000):
 Tri Tryz.prog 20 [.pointer (some ⟨c, 0, none⟩), .int .i64 n].toArray L R
  (fun v M U=>∃(r:Int) (k':Nat),v=.int .i64 r∧0≤r∧(1≤n→r < n)∧(n < 1→r=0)∧k'≤x.l.length∧(x.l.length≤k→r=0∧k'=k)∧F (Vc x k')=M∧R=U):=
 (Tri.at1 (Post' := fun v cs' U => ∃ (r : Int) (k' : Nat), v = .int .i64 r ∧ 0 ≤ r ∧ (1 ≤ n → r < n) ∧ (n < 1 → r = 0) ∧ k' ≤ x.l.length ∧ (x.l.length ≤ k → r = 0 ∧ k' = k) ∧ cs' = Vc x k' ∧ R = U) hu (Yyb c x k n R hx hk hn)
  (fun v M U ⟨r,k',h1,h2,h3,h4,h5,he,h6,h7⟩=>⟨_,h6,r,k',h1,h2,h3,h4,h5,he,rfl,h7⟩)).mono
  (fun v M U ⟨cs',h0,r,k',h1,h2,h3,h4,h5,he,h6,h7⟩=>⟨r,k',h1,h2,h3,h4,h5,he,by rw [← h6];exact h0,h7⟩)
def Kte {c:Nat} {x:Arr Int} {k:Nat} {n:Int} {L:LB} {F:List Value→LB} {R:LS} (hu:USeg c (Vc x k) 168 L F) (hx:CodesR x R) (hk:k≤x.l.length) (hn:-1000000≤n∧n≤1000000):
 Tri Tryz.prog 24 [.pointer (some ⟨c, 0, none⟩), .int .i64 n].toArray L R
  (fun v M U=>∃(b:Bool) (k':Nat),v=.bool b∧k'≤x.l.length∧F (Vc x k')=M∧R=U):=
 (Tri.at1 (Post' := fun v cs' U => ∃ (b : Bool) (k' : Nat), v = .bool b ∧ k' ≤ x.l.length ∧ cs' = Vc x k' ∧ R = U) hu (Kdf c x k n R hx hk hn)
  (fun v M U ⟨b,k',h1,h5,h6,h7⟩=>⟨_,h6,b,k',h1,h5,rfl,h7⟩)).mono
  (fun v M U ⟨cs',h0,b,k',h1,h5,h6,h7⟩=>⟨b,k',h1,h5,by rw [← h6];exact h0,h7⟩)
def Jra {c:Nat} {x:Arr Int} {k:Nat} {lo hi:Int} {L:LB} {F:List Value→LB} {R:LS} (hu:USeg c (Vc x k) 168 L F) (hx:CodesR x R) (hk:k≤x.l.length) (hl:-400000≤lo∧lo≤hi∧hi≤400000):
 Tri Tryz.prog 73 [.pointer (some ⟨c, 0, none⟩), .int .i64 lo, .int .i64 hi].toArray L R
  (fun v M U=>∃(r:Int) (k':Nat),v=.int .i64 r∧lo≤r∧r≤hi∧k'≤x.l.length∧F (Vc x k')=M∧R=U):=
 (Tri.at1 (Post' := fun v cs' U => ∃ (r : Int) (k' : Nat), v = .int .i64 r ∧ lo ≤ r ∧ r ≤ hi ∧ k' ≤ x.l.length ∧ cs' = Vc x k' ∧ R = U) hu (K1e c x k lo hi R hx hk hl)
  (fun v M U ⟨r,k',h1,h2,h3,h5,h6,h7⟩=>⟨_,h6,r,k',h1,h2,h3,h5,rfl,h7⟩)).mono
  (fun v M U ⟨cs',h0,r,k',h1,h2,h3,h5,h6,h7⟩=>⟨r,k',h1,h2,h3,h5,by rw [← h6];exact h0,h7⟩)
def Jyd {c:Nat} {x:Arr Int} {k:Nat} {lo hi:Int} {L:LB} {F:List Value→LB} {R:LS} (hu:USeg c (Vc x k) 168 L F) (hx:CodesR x R) (hk:k≤x.l.length) (hl:-400000≤lo∧lo≤hi∧hi≤400000):
 Tri Tryz.prog 73 [.pointer (some ⟨c, 0, none⟩), .int .i64 lo, .int .i64 hi].toArray L R
  (fun v M U=>∃(r:Int) (k':Nat),v=.int .i64 r∧lo≤r∧r≤hi∧k'≤x.l.length∧(x.l.length≤k→r=lo∧k'=k)∧F (Vc x k')=M∧R=U):=
 (Tri.at1 (Post' := fun v cs' U => ∃ (r : Int) (k' : Nat), v = .int .i64 r ∧ lo ≤ r ∧ r ≤ hi ∧ k' ≤ x.l.length ∧ (x.l.length ≤ k → r = lo ∧ k' = k) ∧ cs' = Vc x k' ∧ R = U) hu (J3c c x k lo hi R hx hk hl)
  (fun v M U ⟨r,k',h1,h2,h3,h5,he,h6,h7⟩=>⟨_,h6,r,k',h1,h2,h3,h5,he,rfl,h7⟩)).mono
  (fun v M U ⟨cs',h0,r,k',h1,h2,h3,h5,he,h6,h7⟩=>⟨r,k',h1,h2,h3,h5,he,by rw [← h6];exact h0,h7⟩)
end Go.Proofs.YtchfclmokpbldaaGreat
end
