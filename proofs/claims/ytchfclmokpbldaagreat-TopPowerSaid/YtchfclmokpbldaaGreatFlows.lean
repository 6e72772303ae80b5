/-
  Flows: RefFits, PipeOf, Mono, Spec, Codes, in one text. By an AI agent; no person has read it.
-/
import Derived.Test.YtchfclmokpbldaaGreatFans
set_option linter.all false
set_option maxHeartbeats 4000000
section
namespace Go.Proofs.YtchfclmokpbldaaGreat
open Go.Aw Go
set_option maxRecDepth 20000
attribute [local irreducible] CJ LJ DJ Tri YV Gives U0 J3 Kj Uz RV J5
def Vj (p:Int):Option Int:=if p < -70368744177664∨70368744177664 < p then some 1 else none
def U7f (q:Int):Option Int:=if q < -1048576∨1048576 < q then some 1 else none
def Jje (a : XAir) (x : XState) : Nat → List Int
 | 0=>List.replicate x.pres.l.length 0
 | k + 1=>
  let l1:=(Jje a x k).set (a.mine.roads.l.getD k default).fr.toNat ((Jje a x k).getD (a.mine.roads.l.getD k default).fr.toNat 0 + x.flows.l.getD k 0)
  l1.set (a.mine.roads.l.getD k default).to.toNat (l1.getD (a.mine.roads.l.getD k default).to.toNat 0 - x.flows.l.getD k 0)
def Kge (a:XAir) (s:XSetting) (x:XState) (i:Nat):Option Int:=
 let r:=a.mine.roads.l.getD i default
 let d:=x.pres.l.getD r.fr.toNat 0 - x.pres.l.getD r.to.toNat 0
 if (r.closed=true∧x.flows.l.getD i 0≠0)∨(r.closed=false∧(d < (K5 a s i (x.flows.l.getD i 0)).low∨(K5 a s i (x.flows.l.getD i 0)).high < d)) then some 10 else none
def Ynd (a:XAir) (x:XState) (net:List Int) (i:Nat):Option Int:=
 if ((a.mine.places.l.getD i default).surface=true∧x.pres.l.getD i 0≠0)∨((a.mine.places.l.getD i default).surface=false∧net.getD i 0≠0) then some 10 else none
def Kjg (a:XAir) (s:XSetting) (x:XState):Int:=
 if K1 a≠0 then K1 a else if Yfa a s=false then 21
 else if x.pres.l.length≠a.mine.places.l.length∨x.flows.l.length≠a.mine.roads.l.length then 11
 else match x.pres.l.findSome? Vj with
  | some e=>e
  | none=>match x.flows.l.findSome? U7f with
   | some e=>e
   | none=>match (List.range x.flows.l.length).findSome? (Kge a s x) with
    | some e=>e
    | none=>((List.range x.pres.l.length).findSome? (Ynd a x (Jje a x x.flows.l.length))).getD 0
def Z9c (a : XAir) (x : XState) : ∀ k, (Jje a x k).length = x.pres.l.length
 | 0=>by simp [Jje]
 | k + 1=>by simp only [Jje,yy];exact Z9c a x k
end Go.Proofs.YtchfclmokpbldaaGreat
end
section
namespace Go.Proofs.YtchfclmokpbldaaGreat
open Go.Aw Go
def blowsTo (a : XAir) (s : XSetting) (r : Int) : Nat → List XBlow
 | 0=>[]
 | k + 1=>if s.fans.l.getD k 0≠0∧(a.fans.l.getD k default).road=r then blowsTo a s r k ++ [⟨a.fans.l.getD k default,s.fans.l.getD k 0⟩] else blowsTo a s r k
structure PipeIs (a:XAir) (s:XSetting) (r:Int) (p:XPipe):Prop where
 road:p.road={ a.mine.roads.l.getD r.toNat default with rest:=V0 a s r a.doors.l.length }
 num:p.num=r
 fans:p.fans.l=blowsTo a s r a.fans.l.length
def Kng (q:Int) (s:XSpan) (b:XBlow):XSpan:=⟨s.low - (Zh b.fan b.state q).high,s.high - (Zh b.fan b.state q).low⟩
def Yab (p : XPipe) (q : Int) : ∀ k, k ≤ p.fans.l.length → Jga p q k = (p.fans.l.take k).foldl (Kng q) (Jga p q 0)
 | 0,_=>by simp
 | k + 1,hk=>by
  have hx:=Jw (l:=p.fans.l) (k:=k) default za
  have e:p.fans.l.take (k + 1)=p.fans.l.take k ++ [p.fans.l.getD k default]:=by
   rw [yfa,hx];rfl
  rw [e,ywa,← Yab p q k za]
  rfl
def Yqe (f:XFan) (q:Int):Zh f 0 q=⟨0,0⟩:=by rw [Zh,if_neg ze,if_neg ze,if_neg ze]
def U2b (a : XAir) (s : XSetting) (r q : Int) : ∀ k, innerTo a s r q k = (blowsTo a s r k).foldl (Kng q) (innerTo a s r q 0)
 | 0=>rfl
 | k + 1=>by
  have ih:=U2b a s r q k
  rw [innerTo.eq_2,blowsTo.eq_2]
  by_cases hr:(a.fans.l.getD k default).road=r
  ·by_cases h0 : s.fans.l.getD k 0 = 0
   ·rw [if_pos hr, if_neg (fun h => h.1 h0), h0, Yqe, ← ih]
    simp only [Int.sub_zero]
   ·rw [if_pos hr, if_pos ⟨h0, hr⟩, ywa, ← ih]
    rfl
  ·rw [if_neg hr,if_neg (fun h=>hr h.2),← ih]
def U0d {a:XAir} {s:XSetting} {r:Int} {p:XPipe} (h:PipeIs a s r p) (q:Int):Jdb p q=K5 a s r q:=by
 have e0:Jga p q 0=innerTo a s r q 0:=by
  by_cases hq:q < 0;·rw [Ueb hq,K3d hq,h.road,Int.neg_mul,Int.neg_mul,yZb,yZb]
  ·rw [K7b hq,K7d hq,h.road,yZb,yZb]
 rw [Jdb,Yab p q _ (yl _),yab,e0,h.fans,K5,U2b a s r q a.fans.l.length]
def Vja {a : XAir} {s : XSetting} {r : Int} : ∀ (k : Nat), k ≤ a.fans.l.length → ∀ b ∈ blowsTo a s r k, ∃ i : Nat, a.fans.l[i]? = some b.fan
 | 0,_,b,hb=>by simp [blowsTo] at hb
 | k + 1,hk,b,hb=>by
  rw [blowsTo] at hb
  split at hb
  ·rcases List.mem_append.1 hb with h | h
   ·exact Vja k za b h
   ·rw [List.mem_singleton.1 h];exact ⟨k,Jw default za⟩
  ·exact Vja k za b hb
def Uoa {a : XAir} {s : XSetting} {r : Int} : ∀ (k : Nat), (blowsTo a s r k).length ≤ k
 | 0=>by simp [blowsTo]
 | k + 1=>by
  have:=Uoa (a:=a) (s:=s) (r:=r) k
  rw [blowsTo]
  split
  ·simp;omega
  ·omega
def Zfc {a:XAir} {s:XSetting} {r:Int} {p:XPipe} (ha:AirOk a) (hr:0≤r∧r < a.mine.roads.l.length) (h:PipeIs a s r p):PipeOk p:=by
 have hro:=ha.mine.road r.toNat _ ztc;have hrb:=Z3 (s:=s) ha hr a.doors.l.length (yl _);have hnd:=ha.ndoors;have hnf:=ha.nfans;have hl:=Uoa (a:=a) (s:=s) (r:=r) a.fans.l.length;refine ⟨?_,?_,?_,fun i b hb=>?_⟩;·rw [h.road];dsimp only;omega
 ·rw [h.road];exact hro.lift
 ·rw [h.fans];omega
 ·rw [h.fans] at hb;obtain ⟨j,hj⟩:=Vja a.fans.l.length (yl _) b (yj hb);exact (ha.fan j _ hj).1
def Rises (f:Int→Int):Prop:=∀x y:Int,-1048577≤x→x < y→y≤1048577→f x < f y
end Go.Proofs.YtchfclmokpbldaaGreat
end
section
namespace Go.Proofs.YtchfclmokpbldaaGreat
open Go.Aw Go
def LeS (s t:XSpan):Prop:=s.low≤t.low∧s.high≤t.high
def Zsb {a b:XPoint} {q:Int} (hw:a.flow < b.flow):(Yp a b q).low=a.pres + (-((a.pres - b.pres) * (q - a.flow))) / (b.flow - a.flow):=by rw [K0e za];unfold Yp;dsimp only;omega
def Y5c {a b:XPoint} {q q':Int} (hp:b.pres≤a.pres) (hw:a.flow < b.flow) (h:q≤q'):LeS (Yp a b q') (Yp a b q):=by
 have hm:(a.pres - b.pres) * (q - a.flow)≤(a.pres - b.pres) * (q' - a.flow):=yoa za za;constructor;·rw [Zsb hw, Zsb hw];have:=Int.ediv_le_ediv (a:= -((a.pres - b.pres) * (q' - a.flow))) (b:= -((a.pres - b.pres) * (q - a.flow))) (c:=b.flow - a.flow) za za;omega
 ·have := Int.ediv_le_ediv (a := (a.pres - b.pres) * (q - a.flow)) (b := (a.pres - b.pres) * (q' - a.flow)) (c := b.flow - a.flow) za hm;unfold Yp;dsimp only;omega
def Urb : ∀ (l : List XPoint) (p : XPoint) (q q' : Int), CurveOk (p :: l) → p.flow ≤ q → q ≤ q' → LeS (Jka p l q') (Jka p l q)
 | [],p,q,q',_,_,_=>⟨yD _,yD _⟩
 | r :: rest,p,q,q',h,hq,hqq=>by
  have h0:=h.pt 0 p rfl
  have h1:=h.pt 1 r rfl
  have h2:=h.st 0 p r rfl rfl
  have ok':CurveOk (r :: rest):=⟨fun i=>h.pt (i + 1),fun i=>h.st (i + 1)⟩
  unfold Jka
  by_cases c1:q≤r.flow
  ·by_cases c2 : q' ≤ r.flow
   ·rw [if_pos c1,if_pos c2];exact Y5c h2.2 h2.1 hqq
   ·rw [if_pos c1, if_neg c2]
    have b1:=Z2a (a:=p) (b:=r) (q:=q) za za
    have b2:=J1a rest r q' ok' za
    exact ⟨by omega,by omega⟩
  ·rw [if_neg c1, if_neg za]
   exact Urb rest r q q' ok' za hqq
def Ybb {l:List XPoint} (h:CurveOk l) {q q':Int} (hqq:q≤q'):LeS (K3a l q') (K3a l q):=by
 cases l with
 | nil=>exact ⟨yD _,yD _⟩
 | cons p rest=>
  unfold K3a;dsimp only;by_cases c1:q≤p.flow;·
   by_cases c2 : q' ≤ p.flow;·rw [if_pos c1,if_pos c2];exact ⟨yD _,yD _⟩
   ·rw [if_pos c1, if_neg c2];have b2:=J1a rest p q' h za;exact ⟨by dsimp only;omega,by dsimp only;omega⟩
  ·rw [if_neg c1, if_neg za];exact Urb rest p q q' h za hqq
def Vpa {l:List XPoint} (h:CurveOk l) (back:Bool) {q q':Int} (hqq:q≤q'):LeS (J4a l back q') (J4a l back q):=by
 unfold J4a;cases back with
 | false=>exact Ybb h hqq
 | true=>have:=Ybb h (q:= -q') (q':= -q) za;exact ⟨by simp only [if_true,Z8f];have:=this.2;omega,by simp only [if_true,Z8f];have:=this.1;omega⟩
def Kfd {f:XFan} (h:CurveOk f.curve.l) (s:Int) {q q':Int} (hqq:q≤q'):LeS (Zh f s q') (Zh f s q):=by
 have m1:=Vpa h f.back hqq;have m2:=Vpa h (!f.back) hqq;have m3:=Vpa h false hqq;have m4:=Vpa h true hqq;unfold LeS at *;unfold Zh;split;·exact m1
 ·
  split;·exact m2
  ·
   split;·dsimp only;omega
   ·exact ⟨yD _,yD _⟩
def LtS (s t:XSpan):Prop:=s.low < t.low∧s.high < t.high
def Zhd {r x y:Int} (hr:0 < r) (hx:0≤x) (h:x < y):r * x * x < r * y * y:=by have h1:r * x≤r * y:=yoa za za;have h0:0≤r * x:=yba za hx;have h2:r * x * x≤r * x * y:=yoa za h0;have h3:r * x < r * y:=Int.mul_lt_mul_of_pos_left h hr;have h4:r * x * y < r * y * y:=Int.mul_lt_mul_of_pos_right h3 za;omega
def Z0d {rest lift:XSpan} (hr:1≤rest.low∧rest.low≤rest.high) {q q':Int} (h:q < q'):LtS (Yve rest lift q) (Yve rest lift q'):=by
 unfold Yve LtS;have neg:∀(r x:Int),r * x * x=r * (-x) * (-x):=fun r x=>by rw [Int.mul_neg (r * -x),Int.mul_neg r,Int.neg_mul,Int.neg_neg]
 by_cases c1:q < 0;·
  by_cases c2 : q' < 0;·rw [if_pos c1, if_pos c2];have a1:=Zhd (r:=rest.high) (x:= -q') (y:= -q) za za za;have a2:=Zhd (r:=rest.low) (x:= -q') (y:= -q) za za za;rw [← neg,← neg] at a1 a2;dsimp only;omega
  ·rw [if_pos c1, if_neg c2];have a1:=Zhd (r:=rest.high) (x:=0) (y:= -q) za za za;have a2:=Zhd (r:=rest.low) (x:=0) (y:= -q) za za za;rw [← neg] at a1 a2;have b1:0≤rest.low * q' * q':=yba (yba za za) za;have b2:0≤rest.high * q' * q':=yba (yba za za) za;simp only [Int.mul_zero] at a1 a2;dsimp only;omega
 ·rw [if_neg c1, if_neg za];have a1:=Zhd (r:=rest.high) (x:=q) (y:=q') za za h;have a2:=Zhd (r:=rest.low) (x:=q) (y:=q') za za h;dsimp only;omega
def Uvb {a : XAir} {s : XSetting} (ha : AirOk a) {r : Int} (hr : 0 ≤ r ∧ r < a.mine.roads.l.length) {q q' : Int} (h : q < q') : ∀ k, k ≤ a.fans.l.length → LtS (innerTo a s r q k) (innerTo a s r q' k)
 | 0,_=>by
  have hb:=Z3 (s:=s) ha hr a.doors.l.length (yl _)
  exact Z0d ⟨hb.1,hb.2.1⟩ h
 | k + 1,hk=>by
  have ih:=Uvb (s:=s) ha hr h k za
  have m:=Kfd (ha.fan k _ ztc).1.ok (s.fans.l.getD k 0) (show q≤q' by omega)
  unfold LtS LeS at *
  rw [innerTo.eq_2,innerTo.eq_2]
  split
  ·dsimp only;omega
  ·exact ih
def Zfb {a:XAir} {s:XSetting} (ha:AirOk a) {r:Int} (hr:0≤r∧r < a.mine.roads.l.length) {q q':Int} (h:q < q'):LtS (K5 a s r q) (K5 a s r q'):=Uvb ha hr h _ (yl _)
end Go.Proofs.YtchfclmokpbldaaGreat
end
section
namespace Go.Proofs.YtchfclmokpbldaaGreat
open Go.Aw Go
def Rises.le {f:Int→Int} (h:Rises f) {x y:Int} (h1:-1048577≤x) (h2:x≤y) (h3:y≤1048577):f x≤f y:=by
 rcases Int.lt_or_eq_of_le h2 with h' | h';·exact Int.le_of_lt (h x y h1 h' h3)
 ·rw [h'];exact yD _
def Uuc {f:Int→Int} {pr:Int} (hf:Rises f):∀(n:Nat) (lo hi:Int),(hi - lo).toNat=n→-1048577≤lo→lo≤hi→hi≤1048577→
 lo≤Jcd f pr lo hi∧Jcd f pr lo hi≤hi∧(∀x,lo < x→x≤Jcd f pr lo hi→f x≤pr)∧(∀x,Jcd f pr lo hi < x→x≤hi→pr < f x)
 | n,lo,hi,hn,h1,hle,h2=>by
  by_cases h:lo < hi
  ·have he := Zca (x := hi - lo + 1) za
   by_cases hc:f (lo + (hi - lo + 1).tdiv 2)≤pr
   ·rw [Kke h hc]
    obtain ⟨a1,a2,a3,a4⟩:=Uuc (pr:=pr) hf _ (lo + (hi - lo + 1).tdiv 2) hi rfl za za h2
    refine ⟨by omega,a2,fun x hx1 hx2=>?_,a4⟩
    rcases yua (lo + (hi - lo + 1).tdiv 2) x with hx | hx
    ·exact a3 x hx hx2
    ·exact Int.le_trans (hf.le za hx za) hc
   ·rw [Uhe h hc]
    obtain ⟨a1,a2,a3,a4⟩:=Uuc (pr:=pr) hf _ lo (lo + (hi - lo + 1).tdiv 2 - 1) rfl h1 za za
    refine ⟨a1,by omega,a3,fun x hx1 hx2=>?_⟩
    rcases yua (lo + (hi - lo + 1).tdiv 2 - 1) x with hx | hx
    ·have := hf.le (x := lo + (hi - lo + 1).tdiv 2) (y := x) za za za
     omega
    ·exact a4 x hx1 hx
  ·rw [Vvd h]
   exact ⟨by omega,by omega,fun x _ _=>by omega,fun x _ _=>by omega⟩
termination_by n=>n
decreasing_by all_goals (have:=Zca (x:=hi - lo + 1) za;omega)
def Yub {f:Int→Int} {pr:Int} (hf:Rises f):∀(n:Nat) (lo hi:Int),(hi - lo).toNat=n→-1048577≤lo→lo≤hi→hi≤1048577→
 lo≤Zpa f pr lo hi∧Zpa f pr lo hi≤hi∧(∀x,lo≤x→x < Zpa f pr lo hi→f x < pr)∧(∀x,Zpa f pr lo hi≤x→x < hi→pr≤f x)
 | n,lo,hi,hn,h1,hle,h2=>by
  by_cases h:lo < hi
  ·have he := Zca (x := hi - lo) za
   by_cases hc:pr≤f (lo + (hi - lo).tdiv 2)
   ·rw [V2d h hc]
    obtain ⟨a1,a2,a3,a4⟩:=Yub (pr:=pr) hf _ lo (lo + (hi - lo).tdiv 2) rfl h1 za za
    refine ⟨a1,by omega,a3,fun x hx1 hx2=>?_⟩
    rcases yua x (lo + (hi - lo).tdiv 2) with hx | hx
    ·exact a4 x hx1 hx
    ·exact Int.le_trans hc (hf.le za hx za)
   ·rw [Uyd h hc]
    obtain ⟨a1,a2,a3,a4⟩:=Yub (pr:=pr) hf _ (lo + (hi - lo).tdiv 2 + 1) hi rfl za za h2
    refine ⟨by omega,a2,fun x hx1 hx2=>?_,a4⟩
    rcases yua x (lo + (hi - lo).tdiv 2 + 1) with hx | hx
    ·have := hf.le (x := x) (y := lo + (hi - lo).tdiv 2) za za za
     omega
    ·exact a3 x hx hx2
  ·rw [Z1c h]
   exact ⟨by omega,by omega,fun x _ _=>by omega,fun x _ _=>by omega⟩
termination_by n=>n
decreasing_by all_goals (have:=Zca (x:=hi - lo) za;omega)
def K7e {a:XAir} {s:XSetting} (ha:AirOk a) {r:Int} (hr:0≤r∧r < a.mine.roads.l.length):Rises fun q=>(K5 a s r q).low:=fun _ _ _ h _=>(Zfb ha hr h).1
def Z2d {a:XAir} {s:XSetting} (ha:AirOk a) {r:Int} (hr:0≤r∧r < a.mine.roads.l.length):Rises fun q=>(K5 a s r q).high:=fun _ _ _ h _=>(Zfb ha hr h).2
end Go.Proofs.YtchfclmokpbldaaGreat
end
section
namespace Go.Proofs.YtchfclmokpbldaaGreat
open Go.Aw Go
set_option maxRecDepth 20000
attribute [local irreducible] CJ LJ DJ Tri YV Gives U0 J3 Kj Uz RV J5
def Jea (n:Int):List Value:=[.int .u8 n]
abbrev bsl (x:Arr Int):Sl:=x.sl 1 Jea []
abbrev cblk (c:Nat) (x:Arr Int) (k:Nat):Blk:=⟨c,[x.val,.int .i64 (k:Int)],168⟩
structure CodesR (x:Arr Int) (R:LS):Prop where
 sl:InR (bsl x) R
 byte:∀(i:Nat) (b:Int),x.l[i]?=some b→0≤b∧b≤255
def Yxb (c:Nat) (x:Arr Int) (k:Nat) (n:Int) (R:LS) (hx:CodesR x R) (hk:k≤x.l.length) (hn:n≤1000000):
 Tri Tryz.prog 20 [.pointer (some ⟨c, 0, none⟩), .int .i64 n].toArray [cblk c x k] R
  (fun v M U=>∃(r:Int) (k':Nat),v=.int .i64 r∧0≤r∧(1≤n→r < n)∧(n < 1→r=0)∧k'≤x.l.length∧(x.l.length≤k→r=0∧k'=k)∧[cblk c x k']=M∧R=U):=by
 have hsl:=hx.sl;refine Vo Tryz.call20 hsl fun hxn=>?_;refine Jj 77 Tryz.call20 Tryz.func20 rfl rfl rfl ?_;apply Xac∘qco;refine Kp tb [0,1,2,3,4,5,6,7,8,9,10,11,12,13] _ K3 zc ye ?_;apply (qao);refine K2 zyc rfl rfl rfl ?_;apply (qb2);refine Yl (k:=8) zfb (fun hg2=>?_) (fun hg2=>?_);·
  replace hg2:=qb hg2;iterate 10 apply (qap)
  apply (Xbw);refine Ua rfl ?_;exact zFd
 replace hg2:=qb hg2;apply Xct∘Xct;refine K2 zBb rfl rfl rfl ?_;refine K2 (Jkc rfl rfl) rfl rfl rfl ?_;apply (Xbw);refine q_c ?_ ?_<;>intro hc0;·exact zFd
 have hb:=Jw (l:=x.l) (k:=k) 0 za;have hbb:=hx.byte _ _ hb;apply qbv∘qa6;refine Jx zLb rfl ?_;apply Xaa∘qar;refine Jx zLb rfl ?_;apply Xbh∘qa4;refine Kp tb [0,1,2,3,4,5,6,7,8,9,10,11,12] _ K3 zc ye ?_;apply Xct∘Xct∘qb7∘qds∘qbl∘qdm∘qcg;refine Jz (Jc (Jr (Jr ?_)));refine Kp tb [0,1,2,3,4,5,6,7,8,9,10,11,12,13] _ K3 zc ye ?_;apply (qao);refine K2 (Kvc rfl rfl) rfl rfl rfl ?_;apply (qb2);refine Yl (k:=41) zfb (fun hg2=>?_) (fun hg2=>?_);·
  replace hg2:=qb hg2;apply Xct∘Xct;refine K2 zBb rfl rfl rfl ?_;refine K2 zyc rfl rfl rfl ?_;apply (Xbw);refine q_c ?_ ?_<;>intro hc1;·
   obtain ⟨kk,hkk⟩:∃kk,kk=k + 2:=⟨_,rfl⟩;have hb2:=Jw (l:=x.l) (k:=k + 1) 0 za;have hbb2:=hx.byte _ _ hb2;refine Jr ?_;refine Kp tb [0,1,2,3,4,5,6,7,8,9,10,11,12,13,14] _ K3 zc ye ?_;apply qao∘qdh∘Xct∘Xct∘qdy∘qbl∘qdm∘qc2∘qcg;refine Jz (Jc (Jh ?_));apply (qa6);refine Jx zLb rfl ?_;apply Xaa∘qar;refine Jx zLb rfl ?_;apply Xbh∘qam∘Xbg∘qda∘Xah;have htm:=fun y (h:0≤y)=>And.intro (Int.tmod_nonneg n h) (yVb y (show 0 < n by omega));refine Kq (M:=[cblk c x kk]) (U:=R) zYc ?hp ?hL ?hR;case hp=>exact ⟨_,kk,rfl,(htm _ za).1,fun _=>(htm _ za).2,fun _=>by omega,by omega,fun h=>by omega,rfl,rfl⟩
   case hL=>subst hkk;exact zi
   case hR=>exact Jd _
  obtain ⟨kk,hkk⟩:∃kk,kk=k + 1:=⟨_,rfl⟩;apply qbv∘Xbg∘qda∘Xah;have htm:=fun y (h:0≤y)=>And.intro (Int.tmod_nonneg n h) (yVb y (show 0 < n by omega));refine Kq (M:=[cblk c x kk]) (U:=R) zYc ?hp ?hL ?hR;case hp=>exact ⟨_,kk,rfl,(htm _ za).1,fun _=>(htm _ za).2,fun _=>by omega,by omega,fun h=>by omega,rfl,rfl⟩
  case hL=>subst hkk;exact zi
  case hR=>exact Jd _
 replace hg2:=qb hg2;obtain ⟨kk,hkk⟩:∃kk,kk=k + 1:=⟨_,rfl⟩;iterate 10 apply (qap)
 apply (Xbw);refine Y7 rfl ?_;apply qbv∘Xbg∘qda∘Xah;have htm:=fun y (h:0≤y)=>And.intro (Int.tmod_nonneg n h) (yVb y (show 0 < n by omega));refine Kq (M:=[cblk c x kk]) (U:=R) zYc ?hp ?hL ?hR;case hp=>exact ⟨_,kk,rfl,(htm _ za).1,fun _=>(htm _ za).2,fun _=>by omega,by omega,fun h=>by omega,rfl,rfl⟩
 case hL=>subst hkk;exact zi
 case hR=>exact Jd _
def Yed (c:Nat) (x:Arr Int) (k:Nat) (n:Int) (R:LS) (hx:CodesR x R) (hk:k≤x.l.length) (hn:n≤1000000):
 Tri Tryz.prog 20 [.pointer (some ⟨c, 0, none⟩), .int .i64 n].toArray [cblk c x k] R
  (fun v M U=>∃(r:Int) (k':Nat),v=.int .i64 r∧0≤r∧(1≤n→r < n)∧(n < 1→r=0)∧k'≤x.l.length∧[cblk c x k']=M∧R=U):=
 (Yxb c x k n R hx hk hn).mono fun v M U ⟨r,k',h1,h2,h3,h4,h5,_,h6,h7⟩=>⟨r,k',h1,h2,h3,h4,h5,h6,h7⟩
def Kyf (c:Nat) (x:Arr Int) (k:Nat) (n:Int) (R:LS) (hx:CodesR x R) (hk:k≤x.l.length) (hn:-1000000≤n∧n≤1000000):
 Tri Tryz.prog 24 [.pointer (some ⟨c, 0, none⟩), .int .i64 n].toArray [cblk c x k] R
  (fun v M U=>∃(b:Bool) (k':Nat),v=.bool b∧k'≤x.l.length∧[cblk c x k']=M∧R=U):=by refine Jj 11 Tryz.call24 Tryz.func24 rfl rfl rfl ?_;apply Xbe∘qam∘Xc2;refine Jy rfl (Yed c x k n _ hx hk za) rfl ?_;rintro v M U ⟨r,k',rfl,h1,h2,h3,hk',rfl,rfl⟩;apply Xb9∘qbn∘Xa2;refine q_b [cblk c x k'] R ?_;exact ⟨_,k',rfl,hk',rfl,rfl⟩
def Kyc (c:Nat) (x:Arr Int) (k:Nat) (lo hi:Int) (R:LS) (hx:CodesR x R) (hk:k≤x.l.length) (hl:-400000≤lo∧lo≤hi∧hi≤400000):
 Tri Tryz.prog 73 [.pointer (some ⟨c, 0, none⟩), .int .i64 lo, .int .i64 hi].toArray [cblk c x k] R
  (fun v M U=>∃(r:Int) (k':Nat),v=.int .i64 r∧lo≤r∧r≤hi∧k'≤x.l.length∧(x.l.length≤k→r=lo∧k'=k)∧[cblk c x k']=M∧R=U):=by refine Jj 15 Tryz.call73 Tryz.func73 rfl rfl rfl ?_;apply Xac∘Xdh∘qa6∘Xbg∘qa9∘qar;refine Jy rfl (Yxb c x k (hi - lo + 1) _ hx hk za) rfl ?_;rintro v M U ⟨r,k',rfl,h1,h2,h3,hk',he,rfl,rfl⟩;have h4:=h2 za;apply qar∘Xah;refine q_i [cblk c x k'] R ?_;exact ⟨_,k',rfl,by omega,by omega,hk',fun h=>by have:=he h;omega,rfl,rfl⟩
def J4g (c:Nat) (x:Arr Int) (k:Nat) (lo hi:Int) (R:LS) (hx:CodesR x R) (hk:k≤x.l.length) (hl:-400000≤lo∧lo≤hi∧hi≤400000):
 Tri Tryz.prog 73 [.pointer (some ⟨c, 0, none⟩), .int .i64 lo, .int .i64 hi].toArray [cblk c x k] R
  (fun v M U=>∃(r:Int) (k':Nat),v=.int .i64 r∧lo≤r∧r≤hi∧k'≤x.l.length∧[cblk c x k']=M∧R=U):=
 (Kyc c x k lo hi R hx hk hl).mono fun v M U ⟨r,k',h1,h2,h3,h5,_,h6,h7⟩=>⟨r,k',h1,h2,h3,h5,h6,h7⟩
abbrev Yaa (x:Arr Int) (k:Nat):List Value:=[x.val,.int .i64 (k:Int)]
def Keg {c:Nat} {x:Arr Int} {k:Nat} {n:Int} {L:LB} {F:List Value→LB} {R:LS} (hu:USeg c (Yaa x k) 168 L F) (hx:CodesR x R) (hk:k≤x.l.length) (hn:n≤1000000):
 Tri Tryz.prog 20 [.pointer (some ⟨c, 0, none⟩), .int .i64 n].toArray L R
  (fun v M U=>∃(r:Int) (k':Nat),v=.int .i64 r∧0≤r∧(1≤n→r < n)∧(n < 1→r=0)∧k'≤x.l.length∧F (Yaa x k')=M∧R=U):=
 (Tri.at1 (Post' := fun v cs' U => ∃ (r : Int) (k' : Nat), v = .int .i64 r ∧ 0 ≤ r ∧ (1 ≤ n → r < n) ∧ (n < 1 → r = 0) ∧ k' ≤ x.l.length ∧ cs' = Yaa x k' ∧ R = U) hu (Yed c x k n R hx hk hn)
  (fun v M U ⟨r,k',h1,h2,h3,h4,h5,h6,h7⟩=>⟨_,h6,r,k',h1,h2,h3,h4,h5,rfl,h7⟩)).mono
  (fun v M U ⟨cs',h0,r,k',h1,h2,h3,h4,h5,h6,h7⟩=>⟨r,k',h1,h2,h3,h4,h5,by rw [← h6];exact h0,h7⟩)
def Vvf {c:Nat} {x:Arr Int} {k:Nat} {n:Int} {L:LB} {F:List Value→LB} {R:LS} (hu:USeg c (Yaa x k) 168 L F) (hx:CodesR x R) (hk:k≤x.l.length) (hn:n≤1000000):
 Tri Tryz.prog 20 [.pointer (some ⟨c, 0, none⟩), .int .i64 n].toArray L R
  (fun v M U=>∃(r:Int) (k':Nat),v=.int .i64 r∧0≤r∧(1≤n→r < n)∧(n < 1→r=0)∧k'≤x.l.length∧(x.l.length≤k→r=0∧k'=k)∧F (Yaa x k')=M∧R=U):=
 (Tri.at1 (Post' := fun v cs' U => ∃ (r : Int) (k' : Nat), v = .int .i64 r ∧ 0 ≤ r ∧ (1 ≤ n → r < n) ∧ (n < 1 → r = 0) ∧ k' ≤ x.l.length ∧ (x.l.length ≤ k → r = 0 ∧ k' = k) ∧ cs' = Yaa x k' ∧ R = U) hu (Yxb c x k n R hx hk hn)
  (fun v M U ⟨r,k',h1,h2,h3,h4,h5,he,h6,h7⟩=>⟨_,h6,r,k',h1,h2,h3,h4,h5,he,rfl,h7⟩)).mono
  (fun v M U ⟨cs',h0,r,k',h1,h2,h3,h4,h5,he,h6,h7⟩=>⟨r,k',h1,h2,h3,h4,h5,he,by rw [← h6];exact h0,h7⟩)
def Kvg {c:Nat} {x:Arr Int} {k:Nat} {n:Int} {L:LB} {F:List Value→LB} {R:LS} (hu:USeg c (Yaa x k) 168 L F) (hx:CodesR x R) (hk:k≤x.l.length) (hn:-1000000≤n∧n≤1000000):
 Tri Tryz.prog 24 [.pointer (some ⟨c, 0, none⟩), .int .i64 n].toArray L R
  (fun v M U=>∃(b:Bool) (k':Nat),v=.bool b∧k'≤x.l.length∧F (Yaa x k')=M∧R=U):=
 (Tri.at1 (Post' := fun v cs' U => ∃ (b : Bool) (k' : Nat), v = .bool b ∧ k' ≤ x.l.length ∧ cs' = Yaa x k' ∧ R = U) hu (Kyf c x k n R hx hk hn)
  (fun v M U ⟨b,k',h1,h5,h6,h7⟩=>⟨_,h6,b,k',h1,h5,rfl,h7⟩)).mono
  (fun v M U ⟨cs',h0,b,k',h1,h5,h6,h7⟩=>⟨b,k',h1,h5,by rw [← h6];exact h0,h7⟩)
def Jvd {c:Nat} {x:Arr Int} {k:Nat} {lo hi:Int} {L:LB} {F:List Value→LB} {R:LS} (hu:USeg c (Yaa x k) 168 L F) (hx:CodesR x R) (hk:k≤x.l.length) (hl:-400000≤lo∧lo≤hi∧hi≤400000):
 Tri Tryz.prog 73 [.pointer (some ⟨c, 0, none⟩), .int .i64 lo, .int .i64 hi].toArray L R
  (fun v M U=>∃(r:Int) (k':Nat),v=.int .i64 r∧lo≤r∧r≤hi∧k'≤x.l.length∧(x.l.length≤k→r=lo∧k'=k)∧F (Yaa x k')=M∧R=U):=
 (Tri.at1 (Post' := fun v cs' U => ∃ (r : Int) (k' : Nat), v = .int .i64 r ∧ lo ≤ r ∧ r ≤ hi ∧ k' ≤ x.l.length ∧ (x.l.length ≤ k → r = lo ∧ k' = k) ∧ cs' = Yaa x k' ∧ R = U) hu (Kyc c x k lo hi R hx hk hl)
  (fun v M U ⟨r,k',h1,h2,h3,h5,he,h6,h7⟩=>⟨_,h6,r,k',h1,h2,h3,h5,he,rfl,h7⟩)).mono
  (fun v M U ⟨cs',h0,r,k',h1,h2,h3,h5,he,h6,h7⟩=>⟨r,k',h1,h2,h3,h5,he,by rw [← h6];exact h0,h7⟩)
end Go.Proofs.YtchfclmokpbldaaGreat
end
