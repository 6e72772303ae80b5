/-
  Flows: RefFits, PipeOf, Mono, Spec, Codes, in one text. By an AI agent; no person has read it.
-/
import Derived.Test.YtchfclmokpbldaaGreatFans
set_option linter.all false
set_option maxHeartbeats 4000000
section
namespace Go.Proofs.YtchfclmokpbldaaGreat
open Go.Aw Go
set_option maxRecDepth 20000
attribute [local irreducible] CJ LJ DJ Tri YV Gives Uq J2 Kj Ut RV J3
def Uv (p:Int):Option Int:=if p < -70368744177664∨70368744177664 < p then some 1 else none
def Jjb (q:Int):Option Int:=if q < -1048576∨1048576 < q then some 1 else none
def Yla (a : XAir) (x : XState) : Nat → List Int
 | 0=>List.replicate x.pres.l.length 0
 | k + 1=>
  let l1:=(Yla a x k).set (a.mine.roads.l.getD k default).fr.toNat ((Yla a x k).getD (a.mine.roads.l.getD k default).fr.toNat 0 + x.flows.l.getD k 0)
  l1.set (a.mine.roads.l.getD k default).to.toNat (l1.getD (a.mine.roads.l.getD k default).to.toNat 0 - x.flows.l.getD k 0)
def Y0 (a:XAir) (s:XSetting) (x:XState) (i:Nat):Option Int:=
 let r:=a.mine.roads.l.getD i default
 let d:=x.pres.l.getD r.fr.toNat 0 - x.pres.l.getD r.to.toNat 0
 if (r.closed=true∧x.flows.l.getD i 0≠0)∨(r.closed=false∧(d < (Ky a s i (x.flows.l.getD i 0)).low∨(Ky a s i (x.flows.l.getD i 0)).high < d)) then some 10 else none
def Yb (a:XAir) (x:XState) (net:List Int) (i:Nat):Option Int:=
 if ((a.mine.places.l.getD i default).surface=true∧x.pres.l.getD i 0≠0)∨((a.mine.places.l.getD i default).surface=false∧net.getD i 0≠0) then some 10 else none
def Z8d (a:XAir) (s:XSetting) (x:XState):Int:=
 if Kx a≠0 then Kx a else if Uka a s=false then 21
 else if x.pres.l.length≠a.mine.places.l.length∨x.flows.l.length≠a.mine.roads.l.length then 11
 else match x.pres.l.findSome? Uv with
  | some e=>e
  | none=>match x.flows.l.findSome? Jjb with
   | some e=>e
   | none=>match (List.range x.flows.l.length).findSome? (Y0 a s x) with
    | some e=>e
    | none=>((List.range x.pres.l.length).findSome? (Yb a x (Yla a x x.flows.l.length))).getD 0
def Uvb (a : XAir) (x : XState) : ∀ k, (Yla a x k).length = x.pres.l.length
 | 0=>by simp [Yla]
 | k + 1=>by simp only [Yla,yK];exact Uvb a x k
def V9d {a:XAir} {s:XSetting} {x:XState} (h0:Kx a=0) (h1:Uka a s=true) (h2:¬ (x.pres.l.length≠a.mine.places.l.length∨x.flows.l.length≠a.mine.roads.l.length)):
 Z8d a s x=match x.pres.l.findSome? Uv with
 | some e=>e
 | none=>match x.flows.l.findSome? Jjb with
  | some e=>e
  | none=>match (List.range x.flows.l.length).findSome? (Y0 a s x) with
   | some e=>e
   | none=>((List.range x.pres.l.length).findSome? (Yb a x (Yla a x x.flows.l.length))).getD 0:=by rw [Z8d,if_neg (by simp [h0]),if_neg (by simp [h1]),if_neg h2]
end Go.Proofs.YtchfclmokpbldaaGreat
end
section
namespace Go.Proofs.YtchfclmokpbldaaGreat
open Go.Aw Go
def blowsTo (a : XAir) (s : XSetting) (r : Int) : Nat → List XBlow
 | 0=>[]
 | k + 1=>if s.fans.l.getD k 0≠0∧(a.fans.l.getD k default).road=r then blowsTo a s r k ++ [⟨a.fans.l.getD k default,s.fans.l.getD k 0⟩] else blowsTo a s r k
structure PipeIs (a:XAir) (s:XSetting) (r:Int) (p:XPipe):Prop where
 road:p.road={ a.mine.roads.l.getD r.toNat default with rest:=Va a s r a.doors.l.length }
 num:p.num=r
 fans:p.fans.l=blowsTo a s r a.fans.l.length
def Vlg (q:Int) (s:XSpan) (b:XBlow):XSpan:=⟨s.low - (Un b.fan b.state q).high,s.high - (Un b.fan b.state q).low⟩
def Yib (p : XPipe) (q : Int) : ∀ k, k ≤ p.fans.l.length → Jba p q k = (p.fans.l.take k).foldl (Vlg q) (Jba p q 0)
 | 0,_=>by simp
 | k + 1,hk=>by
  have hx:=Jp (l:=p.fans.l) (k:=k) default za
  have e:p.fans.l.take (k + 1)=p.fans.l.take k ++ [p.fans.l.getD k default]:=by
   rw [yfa,hx];rfl
  rw [e,yAa,← Yib p q k za]
  rfl
def Juf (f:XFan) (q:Int):Un f 0 q=⟨0,0⟩:=by rw [Un,if_neg ze,if_neg ze,if_neg ze]
def Vdb (a : XAir) (s : XSetting) (r q : Int) : ∀ k, innerTo a s r q k = (blowsTo a s r k).foldl (Vlg q) (innerTo a s r q 0)
 | 0=>rfl
 | k + 1=>by
  have ih:=Vdb a s r q k
  rw [innerTo.eq_2,blowsTo.eq_2]
  by_cases hr:(a.fans.l.getD k default).road=r
  ·by_cases h0 : s.fans.l.getD k 0 = 0
   ·rw [if_pos hr, if_neg (fun h => h.1 h0), h0, Juf, ← ih]
    simp only [Int.sub_zero]
   ·rw [if_pos hr, if_pos ⟨h0, hr⟩, yAa, ← ih]
    rfl
  ·rw [if_neg hr,if_neg (fun h=>hr h.2),← ih]
def Ysd {a:XAir} {s:XSetting} {r:Int} {p:XPipe} (h:PipeIs a s r p) (q:Int):Jbb p q=Ky a s r q:=by
 have e0:Jba p q 0=innerTo a s r q 0:=by
  by_cases hq:q < 0;·rw [K7b hq,U0d hq,h.road,yJb,yJb,yDb,yDb]
  ·rw [Upb hq,Umd hq,h.road,yDb,yDb]
 rw [Jbb,Yib p q _ (ym _),ygb,e0,h.fans,Ky,Vdb a s r q a.fans.l.length]
def Vla {a : XAir} {s : XSetting} {r : Int} : ∀ (k : Nat), k ≤ a.fans.l.length → ∀ b ∈ blowsTo a s r k, ∃ i : Nat, a.fans.l[i]? = some b.fan
 | 0,_,b,hb=>by simp [blowsTo] at hb
 | k + 1,hk,b,hb=>by
  rw [blowsTo] at hb
  split at hb
  ·rcases List.mem_append.1 hb with h | h
   ·exact Vla k za b h
   ·rw [List.mem_singleton.1 h];exact ⟨k,Jp default za⟩
  ·exact Vla k za b hb
def Usa {a : XAir} {s : XSetting} {r : Int} : ∀ (k : Nat), (blowsTo a s r k).length ≤ k
 | 0=>by simp [blowsTo]
 | k + 1=>by
  have:=Usa (a:=a) (s:=s) (r:=r) k
  rw [blowsTo]
  split
  ·simp;omega
  ·omega
def Zmc {a:XAir} {s:XSetting} {r:Int} {p:XPipe} (ha:AirOk a) (hr:0≤r∧r < a.mine.roads.l.length) (h:PipeIs a s r p):PipeOk p:=by
 have hro:=ha.mine.road r.toNat _ zoc;have hrb:=Z4 (s:=s) ha hr a.doors.l.length (ym _);have hnd:=ha.ndoors;have hnf:=ha.nfans;have hl:=Usa (a:=a) (s:=s) (r:=r) a.fans.l.length;refine ⟨?_,?_,?_,fun i b hb=>?_⟩;·rw [h.road];dsimp only;omega
 ·rw [h.road];exact hro.lift
 ·rw [h.fans];omega
 ·rw [h.fans] at hb;obtain ⟨j,hj⟩:=Vla a.fans.l.length (ym _) b (yh hb);exact (ha.fan j _ hj).1
def Rises (f:Int→Int):Prop:=∀x y:Int,-1048577≤x→x < y→y≤1048577→f x < f y
end Go.Proofs.YtchfclmokpbldaaGreat
end
section
namespace Go.Proofs.YtchfclmokpbldaaGreat
open Go.Aw Go
def LeS (s t:XSpan):Prop:=s.low≤t.low∧s.high≤t.high
def Z1b {a b:XPoint} {q:Int} (hw:a.flow < b.flow):(U7 a b q).low=a.pres + (-((a.pres - b.pres) * (q - a.flow))) / (b.flow - a.flow):=by rw [Y8b za];unfold U7;dsimp only;omega
def Y6c {a b:XPoint} {q q':Int} (hp:b.pres≤a.pres) (hw:a.flow < b.flow) (h:q≤q'):LeS (U7 a b q') (U7 a b q):=by
 have hm:(a.pres - b.pres) * (q - a.flow)≤(a.pres - b.pres) * (q' - a.flow):=yia za za;constructor;·rw [Z1b hw, Z1b hw];have:=ymc (a:= -((a.pres - b.pres) * (q' - a.flow))) (b:= -((a.pres - b.pres) * (q - a.flow))) (c:=b.flow - a.flow) za za;omega
 ·have := ymc (a := (a.pres - b.pres) * (q - a.flow)) (b := (a.pres - b.pres) * (q' - a.flow)) (c := b.flow - a.flow) za hm;unfold U7;dsimp only;omega
def Utb : ∀ (l : List XPoint) (p : XPoint) (q q' : Int), CurveOk (p :: l) → p.flow ≤ q → q ≤ q' → LeS (Yt p l q') (Yt p l q)
 | [],p,q,q',_,_,_=>⟨yz _,yz _⟩
 | r :: rest,p,q,q',h,hq,hqq=>by
  have h0:=h.pt 0 p rfl
  have h1:=h.pt 1 r rfl
  have h2:=h.st 0 p r rfl rfl
  have ok':CurveOk (r :: rest):=⟨fun i=>h.pt (i + 1),fun i=>h.st (i + 1)⟩
  unfold Yt
  by_cases c1:q≤r.flow
  ·by_cases c2 : q' ≤ r.flow
   ·rw [if_pos c1,if_pos c2];exact Y6c h2.2 h2.1 hqq
   ·rw [if_pos c1, if_neg c2]
    have b1:=Z5a (a:=p) (b:=r) (q:=q) za za
    have b2:=Zh rest r q' ok' za
    exact ⟨by omega,by omega⟩
  ·rw [if_neg c1, if_neg za]
   exact Utb rest r q q' ok' za hqq
def Jec {l:List XPoint} (h:CurveOk l) {q q':Int} (hqq:q≤q'):LeS (V7 l q') (V7 l q):=by
 cases l with
 | nil=>exact ⟨yz _,yz _⟩
 | cons p rest=>
  unfold V7;dsimp only;by_cases c1:q≤p.flow;·
   by_cases c2 : q' ≤ p.flow;·rw [if_pos c1,if_pos c2];exact ⟨yz _,yz _⟩
   ·rw [if_pos c1, if_neg c2];have b2:=Zh rest p q' h za;exact ⟨by dsimp only;omega,by dsimp only;omega⟩
  ·rw [if_neg c1, if_neg za];exact Utb rest p q q' h za hqq
def Yaa {l:List XPoint} (h:CurveOk l) (back:Bool) {q q':Int} (hqq:q≤q'):LeS (Yd l back q') (Yd l back q):=by
 unfold Yd;cases back with
 | false=>exact Jec h hqq
 | true=>have:=Jec h (q:= -q') (q':= -q) za;exact ⟨by simp only [if_true,U1f];have:=this.2;omega,by simp only [if_true,U1f];have:=this.1;omega⟩
def Ugd {f:XFan} (h:CurveOk f.curve.l) (s:Int) {q q':Int} (hqq:q≤q'):LeS (Un f s q') (Un f s q):=by
 have m1:=Yaa h f.back hqq;have m2:=Yaa h (!f.back) hqq;have m3:=Yaa h false hqq;have m4:=Yaa h true hqq;unfold LeS at *;unfold Un;split;·exact m1
 ·
  split;·exact m2
  ·
   split;·dsimp only;omega
   ·exact ⟨yz _,yz _⟩
def LtS (s t:XSpan):Prop:=s.low < t.low∧s.high < t.high
def Jxe {r x y:Int} (hr:0 < r) (hx:0≤x) (h:x < y):r * x * x < r * y * y:=by have h1:r * x≤r * y:=yia za za;have h0:0≤r * x:=yQ za hx;have h2:r * x * x≤r * x * y:=yia za h0;have h3:r * x < r * y:=Int.mul_lt_mul_of_pos_left h hr;have h4:r * x * y < r * y * y:=Int.mul_lt_mul_of_pos_right h3 za;omega
def Jle {rest lift:XSpan} (hr:1≤rest.low∧rest.low≤rest.high) {q q':Int} (h:q < q'):LtS (Uuc rest lift q) (Uuc rest lift q'):=by
 unfold Uuc LtS;have neg:∀(r x:Int),r * x * x=r * (-x) * (-x):=fun r x=>by rw [yVb (r * -x),yVb r,yJb,Int.neg_neg]
 by_cases c1:q < 0;·
  by_cases c2 : q' < 0;·rw [if_pos c1, if_pos c2];have a1:=Jxe (r:=rest.high) (x:= -q') (y:= -q) za za za;have a2:=Jxe (r:=rest.low) (x:= -q') (y:= -q) za za za;rw [← neg,← neg] at a1 a2;dsimp only;omega
  ·rw [if_pos c1, if_neg c2];have a1:=Jxe (r:=rest.high) (x:=0) (y:= -q) za za za;have a2:=Jxe (r:=rest.low) (x:=0) (y:= -q) za za za;rw [← neg] at a1 a2;have b1:0≤rest.low * q' * q':=yQ (yQ za za) za;have b2:0≤rest.high * q' * q':=yQ (yQ za za) za;simp only [ypc] at a1 a2;dsimp only;omega
 ·rw [if_neg c1, if_neg za];have a1:=Jxe (r:=rest.high) (x:=q) (y:=q') za za h;have a2:=Jxe (r:=rest.low) (x:=q) (y:=q') za za h;dsimp only;omega
def U7b {a : XAir} {s : XSetting} (ha : AirOk a) {r : Int} (hr : 0 ≤ r ∧ r < a.mine.roads.l.length) {q q' : Int} (h : q < q') : ∀ k, k ≤ a.fans.l.length → LtS (innerTo a s r q k) (innerTo a s r q' k)
 | 0,_=>by
  have hb:=Z4 (s:=s) ha hr a.doors.l.length (ym _)
  exact Jle ⟨hb.1,hb.2.1⟩ h
 | k + 1,hk=>by
  have ih:=U7b (s:=s) ha hr h k za
  have m:=Ugd (ha.fan k _ zoc).1.ok (s.fans.l.getD k 0) (show q≤q' by omega)
  unfold LtS LeS at *
  rw [innerTo.eq_2,innerTo.eq_2]
  split
  ·dsimp only;omega
  ·exact ih
def Vna {a:XAir} {s:XSetting} (ha:AirOk a) {r:Int} (hr:0≤r∧r < a.mine.roads.l.length) {q q':Int} (h:q < q'):LtS (Ky a s r q) (Ky a s r q'):=U7b ha hr h _ (ym _)
end Go.Proofs.YtchfclmokpbldaaGreat
end
section
namespace Go.Proofs.YtchfclmokpbldaaGreat
open Go.Aw Go
def Rises.le {f:Int→Int} (h:Rises f) {x y:Int} (h1:-1048577≤x) (h2:x≤y) (h3:y≤1048577):f x≤f y:=by
 rcases Int.lt_or_eq_of_le h2 with h' | h';·exact Int.le_of_lt (h x y h1 h' h3)
 ·rw [h'];exact yz _
def Vic {f:Int→Int} {pr:Int} (hf:Rises f):∀(n:Nat) (lo hi:Int),(hi - lo).toNat=n→-1048577≤lo→lo≤hi→hi≤1048577→
 lo≤Jxd f pr lo hi∧Jxd f pr lo hi≤hi∧(∀x,lo < x→x≤Jxd f pr lo hi→f x≤pr)∧(∀x,Jxd f pr lo hi < x→x≤hi→pr < f x)
 | n,lo,hi,hn,h1,hle,h2=>by
  by_cases h:lo < hi
  ·have he := Ysa (x := hi - lo + 1) za
   by_cases hc:f (lo + (hi - lo + 1).tdiv 2)≤pr
   ·rw [Kke h hc]
    obtain ⟨a1,a2,a3,a4⟩:=Vic (pr:=pr) hf _ (lo + (hi - lo + 1).tdiv 2) hi rfl za za h2
    refine ⟨by omega,a2,fun x hx1 hx2=>?_,a4⟩
    rcases yla (lo + (hi - lo + 1).tdiv 2) x with hx | hx
    ·exact a3 x hx hx2
    ·exact ybc (hf.le za hx za) hc
   ·rw [U6e h hc]
    obtain ⟨a1,a2,a3,a4⟩:=Vic (pr:=pr) hf _ lo (lo + (hi - lo + 1).tdiv 2 - 1) rfl h1 za za
    refine ⟨a1,by omega,a3,fun x hx1 hx2=>?_⟩
    rcases yla (lo + (hi - lo + 1).tdiv 2 - 1) x with hx | hx
    ·have := hf.le (x := lo + (hi - lo + 1).tdiv 2) (y := x) za za za
     omega
    ·exact a4 x hx1 hx
  ·rw [Vrd h]
   exact ⟨by omega,by omega,fun x _ _=>by omega,fun x _ _=>by omega⟩
termination_by n=>n
decreasing_by all_goals (have:=Ysa (x:=hi - lo + 1) za;omega)
def V9b {f:Int→Int} {pr:Int} (hf:Rises f):∀(n:Nat) (lo hi:Int),(hi - lo).toNat=n→-1048577≤lo→lo≤hi→hi≤1048577→
 lo≤Zva f pr lo hi∧Zva f pr lo hi≤hi∧(∀x,lo≤x→x < Zva f pr lo hi→f x < pr)∧(∀x,Zva f pr lo hi≤x→x < hi→pr≤f x)
 | n,lo,hi,hn,h1,hle,h2=>by
  by_cases h:lo < hi
  ·have he := Ysa (x := hi - lo) za
   by_cases hc:pr≤f (lo + (hi - lo).tdiv 2)
   ·rw [Y4d h hc]
    obtain ⟨a1,a2,a3,a4⟩:=V9b (pr:=pr) hf _ lo (lo + (hi - lo).tdiv 2) rfl h1 za za
    refine ⟨a1,by omega,a3,fun x hx1 hx2=>?_⟩
    rcases yla x (lo + (hi - lo).tdiv 2) with hx | hx
    ·exact a4 x hx1 hx
    ·exact ybc hc (hf.le za hx za)
   ·rw [Yld h hc]
    obtain ⟨a1,a2,a3,a4⟩:=V9b (pr:=pr) hf _ (lo + (hi - lo).tdiv 2 + 1) hi rfl za za h2
    refine ⟨by omega,a2,fun x hx1 hx2=>?_,a4⟩
    rcases yla x (lo + (hi - lo).tdiv 2 + 1) with hx | hx
    ·have := hf.le (x := x) (y := lo + (hi - lo).tdiv 2) za za za
     omega
    ·exact a3 x hx hx2
  ·rw [Jhd h]
   exact ⟨by omega,by omega,fun x _ _=>by omega,fun x _ _=>by omega⟩
termination_by n=>n
decreasing_by all_goals (have:=Ysa (x:=hi - lo) za;omega)
def Vhe {a:XAir} {s:XSetting} (ha:AirOk a) {r:Int} (hr:0≤r∧r < a.mine.roads.l.length):Rises fun q=>(Ky a s r q).low:=fun _ _ _ h _=>(Vna ha hr h).1
def Joe {a:XAir} {s:XSetting} (ha:AirOk a) {r:Int} (hr:0≤r∧r < a.mine.roads.l.length):Rises fun q=>(Ky a s r q).high:=fun _ _ _ h _=>(Vna ha hr h).2
end Go.Proofs.YtchfclmokpbldaaGreat
end
section
namespace Go.Proofs.YtchfclmokpbldaaGreat
open Go.Aw Go
set_option maxRecDepth 20000
attribute [local irreducible] CJ LJ DJ Tri YV Gives Uq J2 Kj Ut RV J3
def Z9 (n:Int):List Value:=[.int .u8 n]
abbrev bsl (x:Arr Int):Sl:=x.sl 1 Z9 []
abbrev cblk (c:Nat) (x:Arr Int) (k:Nat):Blk:=⟨c,[x.val,.int .i64 (k:Int)],168⟩
structure CodesR (x:Arr Int) (R:LS):Prop where
 sl:InR (bsl x) R
 byte:∀(i:Nat) (b:Int),x.l[i]?=some b→0≤b∧b≤255
def Ztb (c:Nat) (x:Arr Int) (k:Nat) (n:Int) (R:LS) (hx:CodesR x R) (hk:k≤x.l.length) (hn:n≤1000000):
 Tri Tryz.prog 20 [.pointer (some ⟨c, 0, none⟩), .int .i64 n].toArray [cblk c x k] R
  (fun v U J=>∃(r:Int) (k':Nat),v=.int .i64 r∧0≤r∧(1≤n→r < n)∧(n < 1→r=0)∧k'≤x.l.length∧(x.l.length≤k→r=0∧k'=k)∧[cblk c x k']=U∧R=J):=by
 have hsl:=hx.sl;refine Vm Tryz.call20 hsl fun hxn=>?_;refine Je 77 Tryz.call20 Tryz.func20 rfl rfl rfl ?_;apply Xae∘qco;refine Ke tb [0,1,2,3,4,5,6,7,8,9,10,11,12,13] _ Ko zc ye ?_;apply (qao);refine Ks zvc rfl rfl rfl ?_;apply (qb2);refine U1 (k:=8) zmb (fun hg2=>?_) (fun hg2=>?_);·
  replace hg2:=qb hg2;iterate 10 apply (qap)
  apply (Xb0);refine Uh rfl ?_;exact zVd
 replace hg2:=qb hg2;apply Xc9∘Xc9;refine Ks zPb rfl rfl rfl ?_;refine Ks (Kvc rfl rfl) rfl rfl rfl ?_;apply (Xb0);refine q_c ?_ ?_<;>intro hc0;·exact zVd
 have hb:=Jp (l:=x.l) (k:=k) 0 za;have hbb:=hx.byte _ _ hb;apply qbv∘qa6;refine Jw zQb rfl ?_;apply Xaa∘qar;refine Jw zQb rfl ?_;apply Xbk∘qa4;refine Ke tb [0,1,2,3,4,5,6,7,8,9,10,11,12] _ Ko zc ye ?_;apply Xc9∘Xc9∘qb7∘qds∘qbl∘qdm∘qcg;refine J1 (Jb (Jq (Jq ?_)));refine Ke tb [0,1,2,3,4,5,6,7,8,9,10,11,12,13] _ Ko zc ye ?_;apply (qao);refine Ks (U9b rfl rfl) rfl rfl rfl ?_;apply (qb2);refine U1 (k:=41) zmb (fun hg2=>?_) (fun hg2=>?_);·
  replace hg2:=qb hg2;apply Xc9∘Xc9;refine Ks zPb rfl rfl rfl ?_;refine Ks zvc rfl rfl rfl ?_;apply (Xb0);refine q_c ?_ ?_<;>intro hc1;·
   obtain ⟨kk,hkk⟩:∃kk,kk=k + 2:=⟨_,rfl⟩;have hb2:=Jp (l:=x.l) (k:=k + 1) 0 za;have hbb2:=hx.byte _ _ hb2;refine Jq ?_;refine Ke tb [0,1,2,3,4,5,6,7,8,9,10,11,12,13,14] _ Ko zc ye ?_;apply qao∘qdh∘Xc9∘Xc9∘qdy∘qbl∘qdm∘qc2∘qcg;refine J1 (Jb (Jg ?_));apply (qa6);refine Jw zQb rfl ?_;apply Xaa∘qar;refine Jw zQb rfl ?_;apply Xbk∘qam∘Xb4∘qda∘Xam;have htm:=fun y (h:0≤y)=>And.intro (yWb n h) (yBb y (show 0 < n by omega));refine K2 (U:=[cblk c x kk]) (J:=R) zkd ?hp ?hL ?hR;case hp=>exact ⟨_,kk,rfl,(htm _ za).1,fun _=>(htm _ za).2,fun _=>by omega,by omega,fun h=>by omega,rfl,rfl⟩
   case hL=>subst hkk;exact zi
   case hR=>exact Jc _
  obtain ⟨kk,hkk⟩:∃kk,kk=k + 1:=⟨_,rfl⟩;apply qbv∘Xb4∘qda∘Xam;have htm:=fun y (h:0≤y)=>And.intro (yWb n h) (yBb y (show 0 < n by omega));refine K2 (U:=[cblk c x kk]) (J:=R) zkd ?hp ?hL ?hR;case hp=>exact ⟨_,kk,rfl,(htm _ za).1,fun _=>(htm _ za).2,fun _=>by omega,by omega,fun h=>by omega,rfl,rfl⟩
  case hL=>subst hkk;exact zi
  case hR=>exact Jc _
 replace hg2:=qb hg2;obtain ⟨kk,hkk⟩:∃kk,kk=k + 1:=⟨_,rfl⟩;iterate 10 apply (qap)
 apply (Xb0);refine V4 rfl ?_;apply qbv∘Xb4∘qda∘Xam;have htm:=fun y (h:0≤y)=>And.intro (yWb n h) (yBb y (show 0 < n by omega));refine K2 (U:=[cblk c x kk]) (J:=R) zkd ?hp ?hL ?hR;case hp=>exact ⟨_,kk,rfl,(htm _ za).1,fun _=>(htm _ za).2,fun _=>by omega,by omega,fun h=>by omega,rfl,rfl⟩
 case hL=>subst hkk;exact zi
 case hR=>exact Jc _
def Vtd (c:Nat) (x:Arr Int) (k:Nat) (n:Int) (R:LS) (hx:CodesR x R) (hk:k≤x.l.length) (hn:n≤1000000):
 Tri Tryz.prog 20 [.pointer (some ⟨c, 0, none⟩), .int .i64 n].toArray [cblk c x k] R
  (fun v U J=>∃(r:Int) (k':Nat),v=.int .i64 r∧0≤r∧(1≤n→r < n)∧(n < 1→r=0)∧k'≤x.l.length∧[cblk c x k']=U∧R=J):=
 (Ztb c x k n R hx hk hn).mono fun v U J ⟨r,k',h1,h2,h3,h4,h5,_,h6,h7⟩=>⟨r,k',h1,h2,h3,h4,h5,h6,h7⟩
def Unf (c:Nat) (x:Arr Int) (k:Nat) (n:Int) (R:LS) (hx:CodesR x R) (hk:k≤x.l.length) (hn:-1000000≤n∧n≤1000000):
 Tri Tryz.prog 24 [.pointer (some ⟨c, 0, none⟩), .int .i64 n].toArray [cblk c x k] R
  (fun v U J=>∃(b:Bool) (k':Nat),v=.bool b∧k'≤x.l.length∧[cblk c x k']=U∧R=J):=by refine Je 11 Tryz.call24 Tryz.func24 rfl rfl rfl ?_;apply Xbt∘qam∘Xco;refine Jv rfl (Vtd c x k n _ hx hk za) rfl ?_;rintro v U J ⟨r,k',rfl,h1,h2,h3,hk',rfl,rfl⟩;apply Xbz∘qbn∘Xbs;refine q_b [cblk c x k'] R ?_;exact ⟨_,k',rfl,hk',rfl,rfl⟩
def Ktc (c:Nat) (x:Arr Int) (k:Nat) (lo hi:Int) (R:LS) (hx:CodesR x R) (hk:k≤x.l.length) (hl:-400000≤lo∧lo≤hi∧hi≤400000):
 Tri Tryz.prog 73 [.pointer (some ⟨c, 0, none⟩), .int .i64 lo, .int .i64 hi].toArray [cblk c x k] R
  (fun v U J=>∃(r:Int) (k':Nat),v=.int .i64 r∧lo≤r∧r≤hi∧k'≤x.l.length∧(x.l.length≤k→r=lo∧k'=k)∧[cblk c x k']=U∧R=J):=by refine Je 15 Tryz.call73 Tryz.func73 rfl rfl rfl ?_;apply Xae∘Xc8∘Xco∘Xbz∘qar;refine Jv rfl (Ztb c x k (hi - lo + 1) _ hx hk za) rfl ?_;rintro v U J ⟨r,k',rfl,h1,h2,h3,hk',he,rfl,rfl⟩;have h4:=h2 za;apply qar∘Xam;refine q_i [cblk c x k'] R ?_;exact ⟨_,k',rfl,by omega,by omega,hk',fun h=>by have:=he h;omega,rfl,rfl⟩
def Kze (c:Nat) (x:Arr Int) (k:Nat) (lo hi:Int) (R:LS) (hx:CodesR x R) (hk:k≤x.l.length) (hl:-400000≤lo∧lo≤hi∧hi≤400000):
 Tri Tryz.prog 73 [.pointer (some ⟨c, 0, none⟩), .int .i64 lo, .int .i64 hi].toArray [cblk c x k] R
  (fun v U J=>∃(r:Int) (k':Nat),v=.int .i64 r∧lo≤r∧r≤hi∧k'≤x.l.length∧[cblk c x k']=U∧R=J):=
 (Ktc c x k lo hi R hx hk hl).mono fun v U J ⟨r,k',h1,h2,h3,h5,_,h6,h7⟩=>⟨r,k',h1,h2,h3,h5,h6,h7⟩
abbrev Yv (x:Arr Int) (k:Nat):List Value:=[x.val,.int .i64 (k:Int)]
def Yia {c:Nat} {x:Arr Int} {k:Nat} {n:Int} {L:LB} {F:List Value→LB} {R:LS} (hu:USeg c (Yv x k) 168 L F) (hx:CodesR x R) (hk:k≤x.l.length) (hn:n≤1000000):
 Tri Tryz.prog 20 [.pointer (some ⟨c, 0, none⟩), .int .i64 n].toArray L R
  (fun v U J=>∃(r:Int) (k':Nat),v=.int .i64 r∧0≤r∧(1≤n→r < n)∧(n < 1→r=0)∧k'≤x.l.length∧F (Yv x k')=U∧R=J):=
 (Tri.at1 (Post' := fun v cs' J => ∃ (r : Int) (k' : Nat), v = .int .i64 r ∧ 0 ≤ r ∧ (1 ≤ n → r < n) ∧ (n < 1 → r = 0) ∧ k' ≤ x.l.length ∧ cs' = Yv x k' ∧ R = J) hu (Vtd c x k n R hx hk hn)
  (fun v U J ⟨r,k',h1,h2,h3,h4,h5,h6,h7⟩=>⟨_,h6,r,k',h1,h2,h3,h4,h5,rfl,h7⟩)).mono
  (fun v U J ⟨cs',h0,r,k',h1,h2,h3,h4,h5,h6,h7⟩=>⟨r,k',h1,h2,h3,h4,h5,by rw [← h6];exact h0,h7⟩)
def Jbg {c:Nat} {x:Arr Int} {k:Nat} {n:Int} {L:LB} {F:List Value→LB} {R:LS} (hu:USeg c (Yv x k) 168 L F) (hx:CodesR x R) (hk:k≤x.l.length) (hn:n≤1000000):
 Tri Tryz.prog 20 [.pointer (some ⟨c, 0, none⟩), .int .i64 n].toArray L R
  (fun v U J=>∃(r:Int) (k':Nat),v=.int .i64 r∧0≤r∧(1≤n→r < n)∧(n < 1→r=0)∧k'≤x.l.length∧(x.l.length≤k→r=0∧k'=k)∧F (Yv x k')=U∧R=J):=
 (Tri.at1 (Post' := fun v cs' J => ∃ (r : Int) (k' : Nat), v = .int .i64 r ∧ 0 ≤ r ∧ (1 ≤ n → r < n) ∧ (n < 1 → r = 0) ∧ k' ≤ x.l.length ∧ (x.l.length ≤ k → r = 0 ∧ k' = k) ∧ cs' = Yv x k' ∧ R = J) hu (Ztb c x k n R hx hk hn)
  (fun v U J ⟨r,k',h1,h2,h3,h4,h5,he,h6,h7⟩=>⟨_,h6,r,k',h1,h2,h3,h4,h5,he,rfl,h7⟩)).mono
  (fun v U J ⟨cs',h0,r,k',h1,h2,h3,h4,h5,he,h6,h7⟩=>⟨r,k',h1,h2,h3,h4,h5,he,by rw [← h6];exact h0,h7⟩)
def Vcf {c:Nat} {x:Arr Int} {k:Nat} {n:Int} {L:LB} {F:List Value→LB} {R:LS} (hu:USeg c (Yv x k) 168 L F) (hx:CodesR x R) (hk:k≤x.l.length) (hn:-1000000≤n∧n≤1000000):
 Tri Tryz.prog 24 [.pointer (some ⟨c, 0, none⟩), .int .i64 n].toArray L R
  (fun v U J=>∃(b:Bool) (k':Nat),v=.bool b∧k'≤x.l.length∧F (Yv x k')=U∧R=J):=
 (Tri.at1 (Post' := fun v cs' J => ∃ (b : Bool) (k' : Nat), v = .bool b ∧ k' ≤ x.l.length ∧ cs' = Yv x k' ∧ R = J) hu (Unf c x k n R hx hk hn)
  (fun v U J ⟨b,k',h1,h5,h6,h7⟩=>⟨_,h6,b,k',h1,h5,rfl,h7⟩)).mono
  (fun v U J ⟨cs',h0,b,k',h1,h5,h6,h7⟩=>⟨b,k',h1,h5,by rw [← h6];exact h0,h7⟩)
def Y1b {c:Nat} {x:Arr Int} {k:Nat} {lo hi:Int} {L:LB} {F:List Value→LB} {R:LS} (hu:USeg c (Yv x k) 168 L F) (hx:CodesR x R) (hk:k≤x.l.length) (hl:-400000≤lo∧lo≤hi∧hi≤400000):
 Tri Tryz.prog 73 [.pointer (some ⟨c, 0, none⟩), .int .i64 lo, .int .i64 hi].toArray L R
  (fun v U J=>∃(r:Int) (k':Nat),v=.int .i64 r∧lo≤r∧r≤hi∧k'≤x.l.length∧F (Yv x k')=U∧R=J):=
 (Tri.at1 (Post' := fun v cs' J => ∃ (r : Int) (k' : Nat), v = .int .i64 r ∧ lo ≤ r ∧ r ≤ hi ∧ k' ≤ x.l.length ∧ cs' = Yv x k' ∧ R = J) hu (Kze c x k lo hi R hx hk hl)
  (fun v U J ⟨r,k',h1,h2,h3,h5,h6,h7⟩=>⟨_,h6,r,k',h1,h2,h3,h5,rfl,h7⟩)).mono
  (fun v U J ⟨cs',h0,r,k',h1,h2,h3,h5,h6,h7⟩=>⟨r,k',h1,h2,h3,h5,by rw [← h6];exact h0,h7⟩)
def Kad {c:Nat} {x:Arr Int} {k:Nat} {lo hi:Int} {L:LB} {F:List Value→LB} {R:LS} (hu:USeg c (Yv x k) 168 L F) (hx:CodesR x R) (hk:k≤x.l.length) (hl:-400000≤lo∧lo≤hi∧hi≤400000):
 Tri Tryz.prog 73 [.pointer (some ⟨c, 0, none⟩), .int .i64 lo, .int .i64 hi].toArray L R
  (fun v U J=>∃(r:Int) (k':Nat),v=.int .i64 r∧lo≤r∧r≤hi∧k'≤x.l.length∧(x.l.length≤k→r=lo∧k'=k)∧F (Yv x k')=U∧R=J):=
 (Tri.at1 (Post' := fun v cs' J => ∃ (r : Int) (k' : Nat), v = .int .i64 r ∧ lo ≤ r ∧ r ≤ hi ∧ k' ≤ x.l.length ∧ (x.l.length ≤ k → r = lo ∧ k' = k) ∧ cs' = Yv x k' ∧ R = J) hu (Ktc c x k lo hi R hx hk hl)
  (fun v U J ⟨r,k',h1,h2,h3,h5,he,h6,h7⟩=>⟨_,h6,r,k',h1,h2,h3,h5,he,rfl,h7⟩)).mono
  (fun v U J ⟨cs',h0,r,k',h1,h2,h3,h5,he,h6,h7⟩=>⟨r,k',h1,h2,h3,h5,he,by rw [← h6];exact h0,h7⟩)
end Go.Proofs.YtchfclmokpbldaaGreat
end
