/-
  Flows: RefFits, PipeOf, Mono, Spec, Codes, in one text. By an AI agent; no person has read it.
-/
import Derived.Test.YtchfclmokpbldaaGreatFans
set_option linter.all false
set_option maxHeartbeats 4000000
section
namespace Go.Proofs.YtchfclmokpbldaaGreat
open Go.Aw Go
set_option maxRecDepth 20000
attribute [local irreducible] CJ LJ DJ Tri YV Gives U5 J2 Kn U6 RV J4
def Ul (p:Int):Option Int:=if p < -70368744177664∨70368744177664 < p then some 1 else none
def Ula (q:Int):Option Int:=if q < -1048576∨1048576 < q then some 1 else none
def Yw (a : XAir) (x : XState) : Nat → List Int
 | 0=>List.replicate x.pres.l.length 0
 | k + 1=>
  let l1:=(Yw a x k).set (a.mine.roads.l.getD k default).fr.toNat ((Yw a x k).getD (a.mine.roads.l.getD k default).fr.toNat 0 + x.flows.l.getD k 0)
  l1.set (a.mine.roads.l.getD k default).to.toNat (l1.getD (a.mine.roads.l.getD k default).to.toNat 0 - x.flows.l.getD k 0)
def Vr (a:XAir) (s:XSetting) (x:XState) (i:Nat):Option Int:=
 let r:=a.mine.roads.l.getD i default
 let d:=x.pres.l.getD r.fr.toNat 0 - x.pres.l.getD r.to.toNat 0
 if (r.closed=true∧x.flows.l.getD i 0≠0)∨(r.closed=false∧(d < (Kz a s i (x.flows.l.getD i 0)).low∨(Kz a s i (x.flows.l.getD i 0)).high < d)) then some 10 else none
def Uz (a:XAir) (x:XState) (net:List Int) (i:Nat):Option Int:=
 if ((a.mine.places.l.getD i default).surface=true∧x.pres.l.getD i 0≠0)∨((a.mine.places.l.getD i default).surface=false∧net.getD i 0≠0) then some 10 else none
def V8b (a:XAir) (s:XSetting) (x:XState):Int:=
 if Ky a≠0 then Ky a else if Una a s=false then 21
 else if x.pres.l.length≠a.mine.places.l.length∨x.flows.l.length≠a.mine.roads.l.length then 11
 else match x.pres.l.findSome? Ul with
  | some e=>e
  | none=>match x.flows.l.findSome? Ula with
   | some e=>e
   | none=>match (List.range x.flows.l.length).findSome? (Vr a s x) with
    | some e=>e
    | none=>((List.range x.pres.l.length).findSome? (Uz a x (Yw a x x.flows.l.length))).getD 0
def Uxa (a : XAir) (x : XState) : ∀ k, (Yw a x k).length = x.pres.l.length
 | 0=>by simp [Yw]
 | k + 1=>by simp only [Yw,yL];exact Uxa a x k
def U1b {l:List Int} {i:Nat} {v B:Int} (hl:∀(j:Nat) (y:Int),l[j]?=some y→-B≤y∧y≤B) (hv:-B≤v∧v≤B):∀(j:Nat) (y:Int),(l.set i v)[j]?=some y→-B≤y∧y≤B:=by
 intro j y hy;rw [yO] at hy;split at hy;·
  split at hy;·cases hy;exact hv
  ·cases hy
 ·exact hl j y hy
def Y5a {a : XAir} {x : XState} (hf : ∀ (i : Nat) (q : Int), x.flows.l[i]? = some q → -1048576 ≤ q ∧ q ≤ 1048576) : ∀ k, k ≤ x.flows.l.length → ∀ (j : Nat) (y : Int), (Yw a x k)[j]? = some y → -(2097152 * (k : Int)) ≤ y ∧ y ≤ 2097152 * (k : Int)
 | 0,_,j,y,hy=>by
  simp only [Yw,yB] at hy
  split at hy
  ·cases hy;omega
  ·cases hy
 | k + 1,hk,j,y,hy=>by
  have ih:=Y5a (a:=a) hf k za
  have hq:=hf k _ (Jn 0 za)
  have gd:∀(l:List Int) (B:Int) (i:Nat),0≤B→(∀(j:Nat) (y:Int),l[j]?=some y→-B≤y∧y≤B)→-B≤l.getD i 0∧l.getD i 0≤B:=by
   intro l B i hB h
   rcases yk i l.length with h' | h'
   ·exact h i _ (Jn 0 h')
   ·rw [yh,yu h'];simp;omega
  have ih1:∀(j:Nat) (y:Int),(Yw a x k)[j]?=some y→-(2097152 * (k:Int) + 1048576)≤y∧y≤2097152 * (k:Int) + 1048576:=fun j y h=>by have:=ih j y h;omega
  have h0:=gd (Yw a x k) (2097152 * (k:Int)) (a.mine.roads.l.getD k default).fr.toNat za ih
  have s1:=U1b (i:=(a.mine.roads.l.getD k default).fr.toNat) (v:=(Yw a x k).getD (a.mine.roads.l.getD k default).fr.toNat 0 + x.flows.l.getD k 0) ih1 za
  have h1:=gd _ _ (a.mine.roads.l.getD k default).to.toNat za s1
  have s1':∀(j:Nat) (y:Int),((Yw a x k).set (a.mine.roads.l.getD k default).fr.toNat ((Yw a x k).getD (a.mine.roads.l.getD k default).fr.toNat 0 + x.flows.l.getD k 0))[j]?=some y→-(2097152 * (k:Int) + 2097152)≤y∧y≤2097152 * (k:Int) + 2097152:=fun j y h=>by have:=s1 j y h;omega
  have s2:=U1b (i:=(a.mine.roads.l.getD k default).to.toNat) (v:=((Yw a x k).set (a.mine.roads.l.getD k default).fr.toNat ((Yw a x k).getD (a.mine.roads.l.getD k default).fr.toNat 0 + x.flows.l.getD k 0)).getD (a.mine.roads.l.getD k default).to.toNat 0 - x.flows.l.getD k 0) s1' za
  have:=s2 j y hy
  push_cast
  omega
def Ywb {a:XAir} {s:XSetting} {x:XState} (h0:Ky a=0) (h1:Una a s=true) (h2:¬ (x.pres.l.length≠a.mine.places.l.length∨x.flows.l.length≠a.mine.roads.l.length)):
 V8b a s x=match x.pres.l.findSome? Ul with
 | some e=>e
 | none=>match x.flows.l.findSome? Ula with
  | some e=>e
  | none=>match (List.range x.flows.l.length).findSome? (Vr a s x) with
   | some e=>e
   | none=>((List.range x.pres.l.length).findSome? (Uz a x (Yw a x x.flows.l.length))).getD 0:=by rw [V8b,if_neg (by simp [h0]),if_neg (by simp [h1]),if_neg h2]
end Go.Proofs.YtchfclmokpbldaaGreat
end
section
namespace Go.Proofs.YtchfclmokpbldaaGreat
open Go.Aw Go
def blowsTo (a : XAir) (s : XSetting) (r : Int) : Nat → List XBlow
 | 0=>[]
 | k + 1=>if s.fans.l.getD k 0≠0∧(a.fans.l.getD k default).road=r then blowsTo a s r k ++ [⟨a.fans.l.getD k default,s.fans.l.getD k 0⟩] else blowsTo a s r k
structure PipeIs (a:XAir) (s:XSetting) (r:Int) (p:XPipe):Prop where
 road:p.road={ a.mine.roads.l.getD r.toNat default with rest:=Vf a s r a.doors.l.length }
 num:p.num=r
 fans:p.fans.l=blowsTo a s r a.fans.l.length
def Ybg (q:Int) (s:XSpan) (b:XBlow):XSpan:=⟨s.low - (Up b.fan b.state q).high,s.high - (Up b.fan b.state q).low⟩
def Zeb (p : XPipe) (q : Int) : ∀ k, k ≤ p.fans.l.length → Jna p q k = (p.fans.l.take k).foldl (Ybg q) (Jna p q 0)
 | 0,_=>by simp
 | k + 1,hk=>by
  have hx:=Jn (l:=p.fans.l) (k:=k) default za
  have e:p.fans.l.take (k + 1)=p.fans.l.take k ++ [p.fans.l.getD k default]:=by
   rw [yha,hx];rfl
  rw [e,yCa,← Zeb p q k za]
  rfl
def Jqf (f:XFan) (q:Int):Up f 0 q=⟨0,0⟩:=by rw [Up,if_neg ze,if_neg ze,if_neg ze]
def V6b (a : XAir) (s : XSetting) (r q : Int) : ∀ k, innerTo a s r q k = (blowsTo a s r k).foldl (Ybg q) (innerTo a s r q 0)
 | 0=>rfl
 | k + 1=>by
  have ih:=V6b a s r q k
  rw [innerTo.eq_2,blowsTo.eq_2]
  by_cases hr:(a.fans.l.getD k default).road=r
  ·by_cases h0 : s.fans.l.getD k 0 = 0
   ·rw [if_pos hr, if_neg (fun h => h.1 h0), h0, Jqf, ← ih]
    simp only [Int.sub_zero]
   ·rw [if_pos hr, if_pos ⟨h0, hr⟩, yCa, ← ih]
    rfl
  ·rw [if_neg hr,if_neg (fun h=>hr h.2),← ih]
def Vpc {a:XAir} {s:XSetting} {r:Int} {p:XPipe} (h:PipeIs a s r p) (q:Int):J2b p q=Kz a s r q:=by
 have e0:Jna p q 0=innerTo a s r q 0:=by
  by_cases hq:q < 0;·rw [Uob hq,Vad hq,h.road,yGb,yGb,yAb,yAb]
  ·rw [Usb hq,Vmd hq,h.road,yAb,yAb]
 rw [J2b,Zeb p q _ (ym _),yKa,e0,h.fans,Kz,V6b a s r q a.fans.l.length]
def V8a {a : XAir} {s : XSetting} {r : Int} : ∀ (k : Nat), k ≤ a.fans.l.length → ∀ b ∈ blowsTo a s r k, ∃ i : Nat, a.fans.l[i]? = some b.fan
 | 0,_,b,hb=>by simp [blowsTo] at hb
 | k + 1,hk,b,hb=>by
  rw [blowsTo] at hb
  split at hb
  ·rcases List.mem_append.1 hb with h | h
   ·exact V8a k za b h
   ·rw [List.mem_singleton.1 h];exact ⟨k,Jn default za⟩
  ·exact V8a k za b hb
def U4a {a : XAir} {s : XSetting} {r : Int} : ∀ (k : Nat), (blowsTo a s r k).length ≤ k
 | 0=>by simp [blowsTo]
 | k + 1=>by
  have:=U4a (a:=a) (s:=s) (r:=r) k
  rw [blowsTo]
  split
  ·simp;omega
  ·omega
def Zjb {a:XAir} {s:XSetting} {r:Int} {p:XPipe} (ha:AirOk a) (hr:0≤r∧r < a.mine.roads.l.length) (h:PipeIs a s r p):PipeOk p:=by
 have hro:=ha.mine.road r.toNat _ zDc;have hrb:=Jfa (s:=s) ha hr a.doors.l.length (ym _);have hnd:=ha.ndoors;have hnf:=ha.nfans;have hl:=U4a (a:=a) (s:=s) (r:=r) a.fans.l.length;refine ⟨?_,?_,?_,fun i b hb=>?_⟩;·rw [h.road];dsimp only;omega
 ·rw [h.road];exact hro.lift
 ·rw [h.fans];omega
 ·rw [h.fans] at hb;obtain ⟨j,hj⟩:=V8a a.fans.l.length (ym _) b (yi hb);exact (ha.fan j _ hj).1
def Rises (f:Int→Int):Prop:=∀x y:Int,-1048577≤x→x < y→y≤1048577→f x < f y
end Go.Proofs.YtchfclmokpbldaaGreat
end
section
namespace Go.Proofs.YtchfclmokpbldaaGreat
open Go.Aw Go
def LeS (s t:XSpan):Prop:=s.low≤t.low∧s.high≤t.high
def Zfb {a b:XPoint} {q:Int} (hw:a.flow < b.flow):(Vb a b q).low=a.pres + (-((a.pres - b.pres) * (q - a.flow))) / (b.flow - a.flow):=by rw [Zzb za];unfold Vb;dsimp only;omega
def Jed {a b:XPoint} {q q':Int} (hp:b.pres≤a.pres) (hw:a.flow < b.flow) (h:q≤q'):LeS (Vb a b q') (Vb a b q):=by
 have hm:(a.pres - b.pres) * (q - a.flow)≤(a.pres - b.pres) * (q' - a.flow):=ysa za za;constructor;·rw [Zfb hw, Zfb hw];have:=Int.ediv_le_ediv (a:= -((a.pres - b.pres) * (q' - a.flow))) (b:= -((a.pres - b.pres) * (q - a.flow))) (c:=b.flow - a.flow) za za;omega
 ·have := Int.ediv_le_ediv (a := (a.pres - b.pres) * (q - a.flow)) (b := (a.pres - b.pres) * (q' - a.flow)) (c := b.flow - a.flow) za hm;unfold Vb;dsimp only;omega
def V5b : ∀ (l : List XPoint) (p : XPoint) (q q' : Int), CurveOk (p :: l) → p.flow ≤ q → q ≤ q' → LeS (Yz p l q') (Yz p l q)
 | [],p,q,q',_,_,_=>⟨yz _,yz _⟩
 | r :: rest,p,q,q',h,hq,hqq=>by
  have h0:=h.pt 0 p rfl
  have h1:=h.pt 1 r rfl
  have h2:=h.st 0 p r rfl rfl
  have ok':CurveOk (r :: rest):=⟨fun i=>h.pt (i + 1),fun i=>h.st (i + 1)⟩
  unfold Yz
  by_cases c1:q≤r.flow
  ·by_cases c2 : q' ≤ r.flow
   ·rw [if_pos c1,if_pos c2];exact Jed h2.2 h2.1 hqq
   ·rw [if_pos c1, if_neg c2]
    have b1:=Jjb (a:=p) (b:=r) (q:=q) za za
    have b2:=Zr rest r q' ok' za
    exact ⟨by omega,by omega⟩
  ·rw [if_neg c1, if_neg za]
   exact V5b rest r q q' ok' za hqq
def Jlc {l:List XPoint} (h:CurveOk l) {q q':Int} (hqq:q≤q'):LeS (V7 l q') (V7 l q):=by
 cases l with
 | nil=>exact ⟨yz _,yz _⟩
 | cons p rest=>
  unfold V7;dsimp only;by_cases c1:q≤p.flow;·
   by_cases c2 : q' ≤ p.flow;·rw [if_pos c1,if_pos c2];exact ⟨yz _,yz _⟩
   ·rw [if_pos c1, if_neg c2];have b2:=Zr rest p q' h za;exact ⟨by dsimp only;omega,by dsimp only;omega⟩
  ·rw [if_neg c1, if_neg za];exact V5b rest p q q' h za hqq
def Yna {l:List XPoint} (h:CurveOk l) (back:Bool) {q q':Int} (hqq:q≤q'):LeS (Yi l back q') (Yi l back q):=by
 unfold Yi;cases back with
 | false=>exact Jlc h hqq
 | true=>have:=Jlc h (q:= -q') (q':= -q) za;exact ⟨by simp only [if_true,Yff];have:=this.2;omega,by simp only [if_true,Yff];have:=this.1;omega⟩
def Vcd {f:XFan} (h:CurveOk f.curve.l) (s:Int) {q q':Int} (hqq:q≤q'):LeS (Up f s q') (Up f s q):=by
 have m1:=Yna h f.back hqq;have m2:=Yna h (!f.back) hqq;have m3:=Yna h false hqq;have m4:=Yna h true hqq;unfold LeS at *;unfold Up;split;·exact m1
 ·
  split;·exact m2
  ·
   split;·dsimp only;omega
   ·exact ⟨yz _,yz _⟩
def LtS (s t:XSpan):Prop:=s.low < t.low∧s.high < t.high
def Kme {r x y:Int} (hr:0 < r) (hx:0≤x) (h:x < y):r * x * x < r * y * y:=by have h1:r * x≤r * y:=ysa za za;have h0:0≤r * x:=yT za hx;have h2:r * x * x≤r * x * y:=ysa za h0;have h3:r * x < r * y:=Int.mul_lt_mul_of_pos_left h hr;have h4:r * x * y < r * y * y:=Int.mul_lt_mul_of_pos_right h3 za;omega
def Z9d {rest lift:XSpan} (hr:1≤rest.low∧rest.low≤rest.high) {q q':Int} (h:q < q'):LtS (Yvc rest lift q) (Yvc rest lift q'):=by
 unfold Yvc LtS;have neg:∀(r x:Int),r * x * x=r * (-x) * (-x):=fun r x=>by rw [yTb (r * -x),yTb r,yGb,Int.neg_neg]
 by_cases c1:q < 0;·
  by_cases c2 : q' < 0;·rw [if_pos c1, if_pos c2];have a1:=Kme (r:=rest.high) (x:= -q') (y:= -q) za za za;have a2:=Kme (r:=rest.low) (x:= -q') (y:= -q) za za za;rw [← neg,← neg] at a1 a2;dsimp only;omega
  ·rw [if_pos c1, if_neg c2];have a1:=Kme (r:=rest.high) (x:=0) (y:= -q) za za za;have a2:=Kme (r:=rest.low) (x:=0) (y:= -q) za za za;rw [← neg] at a1 a2;have b1:0≤rest.low * q' * q':=yT (yT za za) za;have b2:0≤rest.high * q' * q':=yT (yT za za) za;simp only [ykc] at a1 a2;dsimp only;omega
 ·rw [if_neg c1, if_neg za];have a1:=Kme (r:=rest.high) (x:=q) (y:=q') za za h;have a2:=Kme (r:=rest.low) (x:=q) (y:=q') za za h;dsimp only;omega
def Vib {a : XAir} {s : XSetting} (ha : AirOk a) {r : Int} (hr : 0 ≤ r ∧ r < a.mine.roads.l.length) {q q' : Int} (h : q < q') : ∀ k, k ≤ a.fans.l.length → LtS (innerTo a s r q k) (innerTo a s r q' k)
 | 0,_=>by
  have hb:=Jfa (s:=s) ha hr a.doors.l.length (ym _)
  exact Z9d ⟨hb.1,hb.2.1⟩ h
 | k + 1,hk=>by
  have ih:=Vib (s:=s) ha hr h k za
  have m:=Vcd (ha.fan k _ zDc).1.ok (s.fans.l.getD k 0) (show q≤q' by omega)
  unfold LtS LeS at *
  rw [innerTo.eq_2,innerTo.eq_2]
  split
  ·dsimp only;omega
  ·exact ih
def V3a {a:XAir} {s:XSetting} (ha:AirOk a) {r:Int} (hr:0≤r∧r < a.mine.roads.l.length) {q q':Int} (h:q < q'):LtS (Kz a s r q) (Kz a s r q'):=Vib ha hr h _ (ym _)
end Go.Proofs.YtchfclmokpbldaaGreat
end
section
namespace Go.Proofs.YtchfclmokpbldaaGreat
open Go.Aw Go
def Rises.le {f:Int→Int} (h:Rises f) {x y:Int} (h1:-1048577≤x) (h2:x≤y) (h3:y≤1048577):f x≤f y:=by
 rcases Int.lt_or_eq_of_le h2 with h' | h';·exact Int.le_of_lt (h x y h1 h' h3)
 ·rw [h'];exact yz _
def Yhc {f:Int→Int} {pr:Int} (hf:Rises f):∀(n:Nat) (lo hi:Int),(hi - lo).toNat=n→-1048577≤lo→lo≤hi→hi≤1048577→
 lo≤Kmd f pr lo hi∧Kmd f pr lo hi≤hi∧(∀x,lo < x→x≤Kmd f pr lo hi→f x≤pr)∧(∀x,Kmd f pr lo hi < x→x≤hi→pr < f x)
 | n,lo,hi,hn,h1,hle,h2=>by
  by_cases h:lo < hi
  ·have he := Y9a (x := hi - lo + 1) za
   by_cases hc:f (lo + (hi - lo + 1).tdiv 2)≤pr
   ·rw [Uhe h hc]
    obtain ⟨a1,a2,a3,a4⟩:=Yhc (pr:=pr) hf _ (lo + (hi - lo + 1).tdiv 2) hi rfl za za h2
    refine ⟨by omega,a2,fun x hx1 hx2=>?_,a4⟩
    rcases yla (lo + (hi - lo + 1).tdiv 2) x with hx | hx
    ·exact a3 x hx hx2
    ·exact yic (hf.le za hx za) hc
   ·rw [V0e h hc]
    obtain ⟨a1,a2,a3,a4⟩:=Yhc (pr:=pr) hf _ lo (lo + (hi - lo + 1).tdiv 2 - 1) rfl h1 za za
    refine ⟨a1,by omega,a3,fun x hx1 hx2=>?_⟩
    rcases yla (lo + (hi - lo + 1).tdiv 2 - 1) x with hx | hx
    ·have := hf.le (x := lo + (hi - lo + 1).tdiv 2) (y := x) za za za
     omega
    ·exact a4 x hx1 hx
  ·rw [Y6d h]
   exact ⟨by omega,by omega,fun x _ _=>by omega,fun x _ _=>by omega⟩
termination_by n=>n
decreasing_by all_goals (have:=Y9a (x:=hi - lo + 1) za;omega)
def Zhb {f:Int→Int} {pr:Int} (hf:Rises f):∀(n:Nat) (lo hi:Int),(hi - lo).toNat=n→-1048577≤lo→lo≤hi→hi≤1048577→
 lo≤Z8a f pr lo hi∧Z8a f pr lo hi≤hi∧(∀x,lo≤x→x < Z8a f pr lo hi→f x < pr)∧(∀x,Z8a f pr lo hi≤x→x < hi→pr≤f x)
 | n,lo,hi,hn,h1,hle,h2=>by
  by_cases h:lo < hi
  ·have he := Y9a (x := hi - lo) za
   by_cases hc:pr≤f (lo + (hi - lo).tdiv 2)
   ·rw [Y1d h hc]
    obtain ⟨a1,a2,a3,a4⟩:=Zhb (pr:=pr) hf _ lo (lo + (hi - lo).tdiv 2) rfl h1 za za
    refine ⟨a1,by omega,a3,fun x hx1 hx2=>?_⟩
    rcases yla x (lo + (hi - lo).tdiv 2) with hx | hx
    ·exact a4 x hx1 hx
    ·exact yic hc (hf.le za hx za)
   ·rw [Ytd h hc]
    obtain ⟨a1,a2,a3,a4⟩:=Zhb (pr:=pr) hf _ (lo + (hi - lo).tdiv 2 + 1) hi rfl za za h2
    refine ⟨by omega,a2,fun x hx1 hx2=>?_,a4⟩
    rcases yla x (lo + (hi - lo).tdiv 2 + 1) with hx | hx
    ·have := hf.le (x := x) (y := lo + (hi - lo).tdiv 2) za za za
     omega
    ·exact a3 x hx hx2
  ·rw [Jdd h]
   exact ⟨by omega,by omega,fun x _ _=>by omega,fun x _ _=>by omega⟩
termination_by n=>n
decreasing_by all_goals (have:=Y9a (x:=hi - lo) za;omega)
def K0e {a:XAir} {s:XSetting} (ha:AirOk a) {r:Int} (hr:0≤r∧r < a.mine.roads.l.length):Rises fun q=>(Kz a s r q).low:=fun _ _ _ h _=>(V3a ha hr h).1
def Kje {a:XAir} {s:XSetting} (ha:AirOk a) {r:Int} (hr:0≤r∧r < a.mine.roads.l.length):Rises fun q=>(Kz a s r q).high:=fun _ _ _ h _=>(V3a ha hr h).2
end Go.Proofs.YtchfclmokpbldaaGreat
end
section
namespace Go.Proofs.YtchfclmokpbldaaGreat
open Go.Aw Go
set_option maxRecDepth 20000
attribute [local irreducible] CJ LJ DJ Tri YV Gives U5 J2 Kn U6 RV J4
def Yb (n:Int):List Value:=[.int .u8 n]
abbrev bsl (x:Arr Int):Sl:=x.sl 1 Yb []
abbrev cblk (c:Nat) (x:Arr Int) (k:Nat):Blk:=⟨c,[x.val,.int .i64 (k:Int)],168⟩
structure CodesR (x:Arr Int) (R:LS):Prop where
 sl:InR (bsl x) R
 byte:∀(i:Nat) (b:Int),x.l[i]?=some b→0≤b∧b≤255
def Y9b (c:Nat) (x:Arr Int) (k:Nat) (n:Int) (R:LS) (hx:CodesR x R) (hk:k≤x.l.length) (hn:n≤1000000):
 Tri Tryz.prog 20 [.pointer (some ⟨c, 0, none⟩), .int .i64 n].toArray [cblk c x k] R
  (fun v U J=>∃(r:Int) (k':Nat),v=.int .i64 r∧0≤r∧(1≤n→r < n)∧(n < 1→r=0)∧k'≤x.l.length∧(x.l.length≤k→r=0∧k'=k)∧[cblk c x k']=U∧R=J):=by
 have hsl:=hx.sl;refine U3 Tryz.call20 hsl fun hxn=>?_;refine Je 77 Tryz.call20 Tryz.func20 rfl rfl rfl ?_;apply Xae∘qco;refine Ki tb [0,1,2,3,4,5,6,7,8,9,10,11,12,13] _ Kq zc ye ?_;apply (qao);refine K0 zdd rfl rfl rfl ?_;apply (qb2);refine Vx (k:=8) zsb (fun hg2=>?_) (fun hg2=>?_);·
  replace hg2:=qb hg2;iterate 10 apply (qap)
  apply (Xbv);refine Uf rfl ?_;exact zte
 replace hg2:=qb hg2;apply Xda∘Xda;refine K0 zVb rfl rfl rfl ?_;refine K0 zcd rfl rfl rfl ?_;apply (Xbv);refine q_c ?_ ?_<;>intro hc0;·exact zte
 have hb:=Jn (l:=x.l) (k:=k) 0 za;have hbb:=hx.byte _ _ hb;apply qbv∘qa6;refine Jy zWb rfl ?_;apply Xaa∘qar;refine Jy zWb rfl ?_;apply Xbm∘qa4;refine Ki tb [0,1,2,3,4,5,6,7,8,9,10,11,12] _ Kq zc ye ?_;apply Xda∘Xda∘qb7∘qds∘qbl∘qdm∘qcg;refine J1 (Jb (Jq (Jq ?_)));refine Ki tb [0,1,2,3,4,5,6,7,8,9,10,11,12,13] _ Kq zc ye ?_;apply (qao);refine K0 (Unc rfl rfl) rfl rfl rfl ?_;apply (qb2);refine Vx (k:=41) zsb (fun hg2=>?_) (fun hg2=>?_);·
  replace hg2:=qb hg2;apply Xda∘Xda;refine K0 zVb rfl rfl rfl ?_;refine K0 zdd rfl rfl rfl ?_;apply (Xbv);refine q_c ?_ ?_<;>intro hc1;·
   obtain ⟨kk,hkk⟩:∃kk,kk=k + 2:=⟨_,rfl⟩;have hb2:=Jn (l:=x.l) (k:=k + 1) 0 za;have hbb2:=hx.byte _ _ hb2;refine Jq ?_;refine Ki tb [0,1,2,3,4,5,6,7,8,9,10,11,12,13,14] _ Kq zc ye ?_;apply qao∘qdh∘Xda∘Xda∘qdy∘qbl∘qdm∘qc2∘qcg;refine J1 (Jb (Jh ?_));apply (qa6);refine Jy zWb rfl ?_;apply Xaa∘qar;refine Jy zWb rfl ?_;apply Xbm∘qam∘Xbw∘qda∘Xak;have htm:=fun y (h:0≤y)=>And.intro (yUb n h) (yyb y (show 0 < n by omega));refine Kx (U:=[cblk c x kk]) (J:=R) zBd ?hp ?hL ?hR;case hp=>exact ⟨_,kk,rfl,(htm _ za).1,fun _=>(htm _ za).2,fun _=>by omega,by omega,fun h=>by omega,rfl,rfl⟩
   case hL=>subst hkk;exact zi
   case hR=>exact Jc _
  obtain ⟨kk,hkk⟩:∃kk,kk=k + 1:=⟨_,rfl⟩;apply qbv∘Xbw∘qda∘Xak;have htm:=fun y (h:0≤y)=>And.intro (yUb n h) (yyb y (show 0 < n by omega));refine Kx (U:=[cblk c x kk]) (J:=R) zBd ?hp ?hL ?hR;case hp=>exact ⟨_,kk,rfl,(htm _ za).1,fun _=>(htm _ za).2,fun _=>by omega,by omega,fun h=>by omega,rfl,rfl⟩
  case hL=>subst hkk;exact zi
  case hR=>exact Jc _
 replace hg2:=qb hg2;obtain ⟨kk,hkk⟩:∃kk,kk=k + 1:=⟨_,rfl⟩;iterate 10 apply (qap)
 apply (Xbv);refine Uw rfl ?_;apply qbv∘Xbw∘qda∘Xak;have htm:=fun y (h:0≤y)=>And.intro (yUb n h) (yyb y (show 0 < n by omega));refine Kx (U:=[cblk c x kk]) (J:=R) zBd ?hp ?hL ?hR;case hp=>exact ⟨_,kk,rfl,(htm _ za).1,fun _=>(htm _ za).2,fun _=>by omega,by omega,fun h=>by omega,rfl,rfl⟩
 case hL=>subst hkk;exact zi
 case hR=>exact Jc _
def Yrd (c:Nat) (x:Arr Int) (k:Nat) (n:Int) (R:LS) (hx:CodesR x R) (hk:k≤x.l.length) (hn:n≤1000000):
 Tri Tryz.prog 20 [.pointer (some ⟨c, 0, none⟩), .int .i64 n].toArray [cblk c x k] R
  (fun v U J=>∃(r:Int) (k':Nat),v=.int .i64 r∧0≤r∧(1≤n→r < n)∧(n < 1→r=0)∧k'≤x.l.length∧[cblk c x k']=U∧R=J):=
 (Y9b c x k n R hx hk hn).mono fun v U J ⟨r,k',h1,h2,h3,h4,h5,_,h6,h7⟩=>⟨r,k',h1,h2,h3,h4,h5,h6,h7⟩
def Yxf (c:Nat) (x:Arr Int) (k:Nat) (n:Int) (R:LS) (hx:CodesR x R) (hk:k≤x.l.length) (hn:-1000000≤n∧n≤1000000):
 Tri Tryz.prog 24 [.pointer (some ⟨c, 0, none⟩), .int .i64 n].toArray [cblk c x k] R
  (fun v U J=>∃(b:Bool) (k':Nat),v=.bool b∧k'≤x.l.length∧[cblk c x k']=U∧R=J):=by refine Je 11 Tryz.call24 Tryz.func24 rfl rfl rfl ?_;apply Xdz∘Xcu;refine Jw rfl (Yrd c x k n _ hx hk za) rfl ?_;rintro v U J ⟨r,k',rfl,h1,h2,h3,hk',rfl,rfl⟩;apply Xb1∘qbn∘Xbb;refine q_b [cblk c x k'] R ?_;exact ⟨_,k',rfl,hk',rfl,rfl⟩
def Kwc (c:Nat) (x:Arr Int) (k:Nat) (lo hi:Int) (R:LS) (hx:CodesR x R) (hk:k≤x.l.length) (hl:-400000≤lo∧lo≤hi∧hi≤400000):
 Tri Tryz.prog 73 [.pointer (some ⟨c, 0, none⟩), .int .i64 lo, .int .i64 hi].toArray [cblk c x k] R
  (fun v U J=>∃(r:Int) (k':Nat),v=.int .i64 r∧lo≤r∧r≤hi∧k'≤x.l.length∧(x.l.length≤k→r=lo∧k'=k)∧[cblk c x k']=U∧R=J):=by refine Je 15 Tryz.call73 Tryz.func73 rfl rfl rfl ?_;apply Xae∘qam∘qaa∘qa6∘Xbw∘qa9∘qar;refine Jw rfl (Y9b c x k (hi - lo + 1) _ hx hk za) rfl ?_;rintro v U J ⟨r,k',rfl,h1,h2,h3,hk',he,rfl,rfl⟩;have h4:=h2 za;apply qar∘Xak;refine q_i [cblk c x k'] R ?_;exact ⟨_,k',rfl,by omega,by omega,hk',fun h=>by have:=he h;omega,rfl,rfl⟩
def Y9e (c:Nat) (x:Arr Int) (k:Nat) (lo hi:Int) (R:LS) (hx:CodesR x R) (hk:k≤x.l.length) (hl:-400000≤lo∧lo≤hi∧hi≤400000):
 Tri Tryz.prog 73 [.pointer (some ⟨c, 0, none⟩), .int .i64 lo, .int .i64 hi].toArray [cblk c x k] R
  (fun v U J=>∃(r:Int) (k':Nat),v=.int .i64 r∧lo≤r∧r≤hi∧k'≤x.l.length∧[cblk c x k']=U∧R=J):=
 (Kwc c x k lo hi R hx hk hl).mono fun v U J ⟨r,k',h1,h2,h3,h5,_,h6,h7⟩=>⟨r,k',h1,h2,h3,h5,h6,h7⟩
abbrev Y5 (x:Arr Int) (k:Nat):List Value:=[x.val,.int .i64 (k:Int)]
def Yha {c:Nat} {x:Arr Int} {k:Nat} {n:Int} {L:LB} {F:List Value→LB} {R:LS} (hu:USeg c (Y5 x k) 168 L F) (hx:CodesR x R) (hk:k≤x.l.length) (hn:n≤1000000):
 Tri Tryz.prog 20 [.pointer (some ⟨c, 0, none⟩), .int .i64 n].toArray L R
  (fun v U J=>∃(r:Int) (k':Nat),v=.int .i64 r∧0≤r∧(1≤n→r < n)∧(n < 1→r=0)∧k'≤x.l.length∧F (Y5 x k')=U∧R=J):=
 (Tri.at1 (Post' := fun v cs' J => ∃ (r : Int) (k' : Nat), v = .int .i64 r ∧ 0 ≤ r ∧ (1 ≤ n → r < n) ∧ (n < 1 → r = 0) ∧ k' ≤ x.l.length ∧ cs' = Y5 x k' ∧ R = J) hu (Yrd c x k n R hx hk hn)
  (fun v U J ⟨r,k',h1,h2,h3,h4,h5,h6,h7⟩=>⟨_,h6,r,k',h1,h2,h3,h4,h5,rfl,h7⟩)).mono
  (fun v U J ⟨cs',h0,r,k',h1,h2,h3,h4,h5,h6,h7⟩=>⟨r,k',h1,h2,h3,h4,h5,by rw [← h6];exact h0,h7⟩)
def Vpg {c:Nat} {x:Arr Int} {k:Nat} {n:Int} {L:LB} {F:List Value→LB} {R:LS} (hu:USeg c (Y5 x k) 168 L F) (hx:CodesR x R) (hk:k≤x.l.length) (hn:n≤1000000):
 Tri Tryz.prog 20 [.pointer (some ⟨c, 0, none⟩), .int .i64 n].toArray L R
  (fun v U J=>∃(r:Int) (k':Nat),v=.int .i64 r∧0≤r∧(1≤n→r < n)∧(n < 1→r=0)∧k'≤x.l.length∧(x.l.length≤k→r=0∧k'=k)∧F (Y5 x k')=U∧R=J):=
 (Tri.at1 (Post' := fun v cs' J => ∃ (r : Int) (k' : Nat), v = .int .i64 r ∧ 0 ≤ r ∧ (1 ≤ n → r < n) ∧ (n < 1 → r = 0) ∧ k' ≤ x.l.length ∧ (x.l.length ≤ k → r = 0 ∧ k' = k) ∧ cs' = Y5 x k' ∧ R = J) hu (Y9b c x k n R hx hk hn)
  (fun v U J ⟨r,k',h1,h2,h3,h4,h5,he,h6,h7⟩=>⟨_,h6,r,k',h1,h2,h3,h4,h5,he,rfl,h7⟩)).mono
  (fun v U J ⟨cs',h0,r,k',h1,h2,h3,h4,h5,he,h6,h7⟩=>⟨r,k',h1,h2,h3,h4,h5,he,by rw [← h6];exact h0,h7⟩)
def Uof {c:Nat} {x:Arr Int} {k:Nat} {n:Int} {L:LB} {F:List Value→LB} {R:LS} (hu:USeg c (Y5 x k) 168 L F) (hx:CodesR x R) (hk:k≤x.l.length) (hn:-1000000≤n∧n≤1000000):
 Tri Tryz.prog 24 [.pointer (some ⟨c, 0, none⟩), .int .i64 n].toArray L R
  (fun v U J=>∃(b:Bool) (k':Nat),v=.bool b∧k'≤x.l.length∧F (Y5 x k')=U∧R=J):=
 (Tri.at1 (Post' := fun v cs' J => ∃ (b : Bool) (k' : Nat), v = .bool b ∧ k' ≤ x.l.length ∧ cs' = Y5 x k' ∧ R = J) hu (Yxf c x k n R hx hk hn)
  (fun v U J ⟨b,k',h1,h5,h6,h7⟩=>⟨_,h6,b,k',h1,h5,rfl,h7⟩)).mono
  (fun v U J ⟨cs',h0,b,k',h1,h5,h6,h7⟩=>⟨b,k',h1,h5,by rw [← h6];exact h0,h7⟩)
def Y2b {c:Nat} {x:Arr Int} {k:Nat} {lo hi:Int} {L:LB} {F:List Value→LB} {R:LS} (hu:USeg c (Y5 x k) 168 L F) (hx:CodesR x R) (hk:k≤x.l.length) (hl:-400000≤lo∧lo≤hi∧hi≤400000):
 Tri Tryz.prog 73 [.pointer (some ⟨c, 0, none⟩), .int .i64 lo, .int .i64 hi].toArray L R
  (fun v U J=>∃(r:Int) (k':Nat),v=.int .i64 r∧lo≤r∧r≤hi∧k'≤x.l.length∧F (Y5 x k')=U∧R=J):=
 (Tri.at1 (Post' := fun v cs' J => ∃ (r : Int) (k' : Nat), v = .int .i64 r ∧ lo ≤ r ∧ r ≤ hi ∧ k' ≤ x.l.length ∧ cs' = Y5 x k' ∧ R = J) hu (Y9e c x k lo hi R hx hk hl)
  (fun v U J ⟨r,k',h1,h2,h3,h5,h6,h7⟩=>⟨_,h6,r,k',h1,h2,h3,h5,rfl,h7⟩)).mono
  (fun v U J ⟨cs',h0,r,k',h1,h2,h3,h5,h6,h7⟩=>⟨r,k',h1,h2,h3,h5,by rw [← h6];exact h0,h7⟩)
def V0d {c:Nat} {x:Arr Int} {k:Nat} {lo hi:Int} {L:LB} {F:List Value→LB} {R:LS} (hu:USeg c (Y5 x k) 168 L F) (hx:CodesR x R) (hk:k≤x.l.length) (hl:-400000≤lo∧lo≤hi∧hi≤400000):
 Tri Tryz.prog 73 [.pointer (some ⟨c, 0, none⟩), .int .i64 lo, .int .i64 hi].toArray L R
  (fun v U J=>∃(r:Int) (k':Nat),v=.int .i64 r∧lo≤r∧r≤hi∧k'≤x.l.length∧(x.l.length≤k→r=lo∧k'=k)∧F (Y5 x k')=U∧R=J):=
 (Tri.at1 (Post' := fun v cs' J => ∃ (r : Int) (k' : Nat), v = .int .i64 r ∧ lo ≤ r ∧ r ≤ hi ∧ k' ≤ x.l.length ∧ (x.l.length ≤ k → r = lo ∧ k' = k) ∧ cs' = Y5 x k' ∧ R = J) hu (Kwc c x k lo hi R hx hk hl)
  (fun v U J ⟨r,k',h1,h2,h3,h5,he,h6,h7⟩=>⟨_,h6,r,k',h1,h2,h3,h5,he,rfl,h7⟩)).mono
  (fun v U J ⟨cs',h0,r,k',h1,h2,h3,h5,he,h6,h7⟩=>⟨r,k',h1,h2,h3,h5,he,by rw [← h6];exact h0,h7⟩)
end Go.Proofs.YtchfclmokpbldaaGreat
end
