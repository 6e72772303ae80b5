/-
  Flows: RefFits, PipeOf, Mono, Spec, Codes, in one text. By an AI agent; no person has read it.
-/
import Derived.Test.YtihompplndcdeaaGreatFans
section
namespace Go.Proofs.YtihompplndcdeaaGreat
open Go.Aw Go
set_option maxRecDepth 20000
attribute [local irreducible] CJ LJ DJ Tri YV Gives Jd5 Jbd Jbz Jd4 RV Jbf
def Jcb (p:Int):Option Int:=if p < -70368744177664∨70368744177664 < p then some 1 else none
def Jkb (q:Int):Option Int:=if q < -1048576∨1048576 < q then some 1 else none
def Jj9 (a : XAir) (x : XState) : Nat → List Int
  | 0=>List.replicate x.pres.l.length 0
  | k + 1=>
    let l1:=(Jj9 a x k).set (a.mine.roads.l.getD k default).fr.toNat ((Jj9 a x k).getD (a.mine.roads.l.getD k default).fr.toNat 0 + x.flows.l.getD k 0)
    l1.set (a.mine.roads.l.getD k default).to.toNat (l1.getD (a.mine.roads.l.getD k default).to.toNat 0 - x.flows.l.getD k 0)
def Jff (a:XAir) (s:XSetting) (x:XState) (i:Nat):Option Int:=
  let r:=a.mine.roads.l.getD i default
  let d:=x.pres.l.getD r.fr.toNat 0 - x.pres.l.getD r.to.toNat 0
  if (r.closed=true∧x.flows.l.getD i 0≠0)∨(r.closed=false∧(d < (Jbr a s i (x.flows.l.getD i 0)).low∨(Jbr a s i (x.flows.l.getD i 0)).high < d)) then some 10 else none
def Jef (a:XAir) (x:XState) (net:List Int) (i:Nat):Option Int:=
  if ((a.mine.places.l.getD i default).surface=true∧x.pres.l.getD i 0≠0)∨((a.mine.places.l.getD i default).surface=false∧net.getD i 0≠0) then some 10 else none
def Jyf (a:XAir) (s:XSetting) (x:XState):Int:=
  if Ja4 a≠0 then Ja4 a else if Jdq a s=false then 21
  else if x.pres.l.length≠a.mine.places.l.length∨x.flows.l.length≠a.mine.roads.l.length then 11
  else match x.pres.l.findSome? Jcb with
    | some e=>e
    | none=>match x.flows.l.findSome? Jkb with
      | some e=>e
      | none=>match (List.range x.flows.l.length).findSome? (Jff a s x) with
        | some e=>e
        | none=>((List.range x.pres.l.length).findSome? (Jef a x (Jj9 a x x.flows.l.length))).getD 0
theorem Jt7 (a : XAir) (x : XState) : ∀ k, (Jj9 a x k).length = x.pres.l.length
  | 0=>by simp [Jj9]
  | k + 1=>by simp only [Jj9,List.length_set];exact Jt7 a x k
theorem Jw7 {a:XAir} {s:XSetting} {x:XState} (h0:Ja4 a=0) (h1:Jdq a s=true) (h2:¬ (x.pres.l.length≠a.mine.places.l.length∨x.flows.l.length≠a.mine.roads.l.length)):
    Jyf a s x=match x.pres.l.findSome? Jcb with
    | some e=>e
    | none=>match x.flows.l.findSome? Jkb with
      | some e=>e
      | none=>match (List.range x.flows.l.length).findSome? (Jff a s x) with
        | some e=>e
        | none=>((List.range x.pres.l.length).findSome? (Jef a x (Jj9 a x x.flows.l.length))).getD 0:=by
  rw [Jyf,if_neg (by simp [h0]),if_neg (by simp [h1]),if_neg h2]
end Go.Proofs.YtihompplndcdeaaGreat
end
section
namespace Go.Proofs.YtihompplndcdeaaGreat
open Go.Aw Go
def blowsTo (a : XAir) (s : XSetting) (r : Int) : Nat → List XBlow
  | 0=>[]
  | k + 1=>if s.fans.l.getD k 0≠0∧(a.fans.l.getD k default).road=r then blowsTo a s r k ++ [⟨a.fans.l.getD k default,s.fans.l.getD k 0⟩] else blowsTo a s r k
structure PipeIs (a:XAir) (s:XSetting) (r:Int) (p:XPipe):Prop where
  road:p.road={ a.mine.roads.l.getD r.toNat default with rest:=Jb4 a s r a.doors.l.length }
  num:p.num=r
  fans:p.fans.l=blowsTo a s r a.fans.l.length
def J9i (q:Int) (s:XSpan) (b:XBlow):XSpan:=⟨s.low - (Jcn b.fan b.state q).high,s.high - (Jcn b.fan b.state q).low⟩
theorem Jnw (p : XPipe) (q : Int) : ∀ k, k ≤ p.fans.l.length → Jfj p q k = (p.fans.l.take k).foldl (J9i q) (Jfj p q 0)
  | 0,_=>by simp
  | k + 1,hk=>by
    have hx:=Jan (l:=p.fans.l) (k:=k) default (by omega)
    have e:p.fans.l.take (k + 1)=p.fans.l.take k ++ [p.fans.l.getD k default]:=by
      rw [List.take_add_one,hx];rfl
    rw [e,List.foldl_append,← Jnw p q k (by omega)]
    rfl
theorem J1f (f:XFan) (q:Int):Jcn f 0 q=⟨0,0⟩:=by
  rw [Jcn,if_neg (by decide),if_neg (by decide),if_neg (by decide)]
theorem Jmz (a : XAir) (s : XSetting) (r q : Int) : ∀ k, innerTo a s r q k = (blowsTo a s r k).foldl (J9i q) (innerTo a s r q 0)
  | 0=>rfl
  | k + 1=>by
    have ih:=Jmz a s r q k
    rw [innerTo.eq_2,blowsTo.eq_2]
    by_cases hr:(a.fans.l.getD k default).road=r
    · by_cases h0 : s.fans.l.getD k 0 = 0
      · rw [if_pos hr, if_neg (fun h => h.1 h0), h0, J1f, ← ih]
        simp only [Int.sub_zero]
      · rw [if_pos hr, if_pos ⟨h0, hr⟩, List.foldl_append, ← ih]
        rfl
    · rw [if_neg hr,if_neg (fun h=>hr h.2),← ih]
theorem Jwg {a:XAir} {s:XSetting} {r:Int} {p:XPipe} (h:PipeIs a s r p) (q:Int):Jj7 p q=Jbr a s r q:=by
  have e0:Jfj p q 0=innerTo a s r q 0:=by
    by_cases hq:q < 0
    · rw [Jmg hq,Jhz hq,h.road,Int.neg_mul,Int.neg_mul,Int.mul_assoc,Int.mul_assoc]
    · rw [Jl5 hq,Jh7 hq,h.road,Int.mul_assoc,Int.mul_assoc]
  rw [Jj7,Jnw p q _ (Nat.le_refl _),List.take_length,e0,h.fans,Jbr,Jmz a s r q a.fans.l.length]
theorem Jhu {a : XAir} {s : XSetting} {r : Int} : ∀ (k : Nat), k ≤ a.fans.l.length → ∀ b ∈ blowsTo a s r k, ∃ i : Nat, a.fans.l[i]? = some b.fan
  | 0,_,b,hb=>by simp [blowsTo] at hb
  | k + 1,hk,b,hb=>by
    rw [blowsTo] at hb
    split at hb
    · rcases List.mem_append.1 hb with h | h
      · exact Jhu k (by omega) b h
      · rw [List.mem_singleton.1 h];exact ⟨k,Jan default (by omega)⟩
    · exact Jhu k (by omega) b hb
theorem Jg2 {a : XAir} {s : XSetting} {r : Int} : ∀ (k : Nat), (blowsTo a s r k).length ≤ k
  | 0=>by simp [blowsTo]
  | k + 1=>by
    have:=Jg2 (a:=a) (s:=s) (r:=r) k
    rw [blowsTo]
    split
    · simp;omega
    · omega
theorem Jsl {a:XAir} {s:XSetting} {r:Int} {p:XPipe} (ha:AirOk a) (hr:0≤r∧r < a.mine.roads.l.length) (h:PipeIs a s r p):PipeOk p:=by
  have hro:=ha.mine.road r.toNat _ (Jan default (by omega))
  have hrb:=Jdf (s:=s) ha hr a.doors.l.length (Nat.le_refl _)
  have hnd:=ha.ndoors
  have hnf:=ha.nfans
  have hl:=Jg2 (a:=a) (s:=s) (r:=r) a.fans.l.length
  refine ⟨?_,?_,?_,fun i b hb=>?_⟩
  · rw [h.road];dsimp only;omega
  · rw [h.road];exact hro.lift
  · rw [h.fans];omega
  · rw [h.fans] at hb
    obtain ⟨j,hj⟩:=Jhu a.fans.l.length (Nat.le_refl _) b (List.mem_of_getElem? hb)
    exact (ha.fan j _ hj).1
def Rises (f:Int→Int):Prop:=∀x y:Int,-1048577≤x→x < y→y≤1048577→f x < f y
end Go.Proofs.YtihompplndcdeaaGreat
end
section
namespace Go.Proofs.YtihompplndcdeaaGreat
open Go.Aw Go
def LeS (s t:XSpan):Prop:=s.low≤t.low∧s.high≤t.high
theorem Job {a b:XPoint} {q:Int} (hw:a.flow < b.flow):(Jc4 a b q).low=a.pres + (-((a.pres - b.pres) * (q - a.flow))) / (b.flow - a.flow):=by
  rw [Jo1 (by omega)];unfold Jc4;dsimp only;omega
theorem Js5 {a b:XPoint} {q q':Int} (hp:b.pres≤a.pres) (hw:a.flow < b.flow) (h:q≤q'):LeS (Jc4 a b q') (Jc4 a b q):=by
  have hm:(a.pres - b.pres) * (q - a.flow)≤(a.pres - b.pres) * (q' - a.flow):=Int.mul_le_mul_of_nonneg_left (by omega) (by omega)
  constructor
  · rw [Job hw, Job hw]
    have:=Int.ediv_le_ediv (a:= -((a.pres - b.pres) * (q' - a.flow))) (b:= -((a.pres - b.pres) * (q - a.flow))) (c:=b.flow - a.flow) (by omega) (by omega)
    omega
  · have := Int.ediv_le_ediv (a := (a.pres - b.pres) * (q - a.flow)) (b := (a.pres - b.pres) * (q' - a.flow)) (c := b.flow - a.flow) (by omega) hm
    unfold Jc4;dsimp only;omega
theorem Jmv : ∀ (l : List XPoint) (p : XPoint) (q q' : Int), CurveOk (p :: l) → p.flow ≤ q → q ≤ q' → LeS (Jd7 p l q') (Jd7 p l q)
  | [],p,q,q',_,_,_=>⟨Int.le_refl _,Int.le_refl _⟩
  | r :: rest,p,q,q',h,hq,hqq=>by
    have h0:=h.pt 0 p rfl
    have h1:=h.pt 1 r rfl
    have h2:=h.st 0 p r rfl rfl
    have ok':CurveOk (r :: rest):=⟨fun i=>h.pt (i + 1),fun i=>h.st (i + 1)⟩
    unfold Jd7
    by_cases c1:q≤r.flow
    · by_cases c2 : q' ≤ r.flow
      · rw [if_pos c1,if_pos c2];exact Js5 h2.2 h2.1 hqq
      · rw [if_pos c1, if_neg c2]
        have b1:=Jjt (a:=p) (b:=r) (q:=q) (by omega) (by omega)
        have b2:=Jev rest r q' ok' (by omega)
        exact ⟨by omega,by omega⟩
    · rw [if_neg c1, if_neg (by omega)]
      exact Jmv rest r q q' ok' (by omega) hqq
theorem Jo9 {l:List XPoint} (h:CurveOk l) {q q':Int} (hqq:q≤q'):LeS (Jdo l q') (Jdo l q):=by
  cases l with
  | nil=>exact ⟨Int.le_refl _,Int.le_refl _⟩
  | cons p rest=>
    unfold Jdo
    dsimp only
    by_cases c1:q≤p.flow
    · by_cases c2 : q' ≤ p.flow
      · rw [if_pos c1,if_pos c2];exact ⟨Int.le_refl _,Int.le_refl _⟩
      · rw [if_pos c1, if_neg c2]
        have b2:=Jev rest p q' h (by omega)
        exact ⟨by dsimp only;omega,by dsimp only;omega⟩
    · rw [if_neg c1, if_neg (by omega)]
      exact Jmv rest p q q' h (by omega) hqq
theorem Jhm {l:List XPoint} (h:CurveOk l) (back:Bool) {q q':Int} (hqq:q≤q'):LeS (Jdx l back q') (Jdx l back q):=by
  unfold Jdx
  cases back with
  | false=>exact Jo9 h hqq
  | true=>
    have:=Jo9 h (q:= -q') (q':= -q) (by omega)
    exact ⟨by simp only [if_true,J40];have:=this.2;omega,by simp only [if_true,J40];have:=this.1;omega⟩
theorem Jvb {f:XFan} (h:CurveOk f.curve.l) (s:Int) {q q':Int} (hqq:q≤q'):LeS (Jcn f s q') (Jcn f s q):=by
  have m1:=Jhm h f.back hqq
  have m2:=Jhm h (!f.back) hqq
  have m3:=Jhm h false hqq
  have m4:=Jhm h true hqq
  unfold LeS at *
  unfold Jcn
  split
  · exact m1
  · split
    · exact m2
    · split
      · dsimp only;omega
      · exact ⟨Int.le_refl _,Int.le_refl _⟩
def LtS (s t:XSpan):Prop:=s.low < t.low∧s.high < t.high
theorem Jx7 {r x y:Int} (hr:0 < r) (hx:0≤x) (h:x < y):r * x * x < r * y * y:=by
  have h1:r * x≤r * y:=Int.mul_le_mul_of_nonneg_left (by omega) (by omega)
  have h0:0≤r * x:=Int.mul_nonneg (by omega) hx
  have h2:r * x * x≤r * x * y:=Int.mul_le_mul_of_nonneg_left (by omega) h0
  have h3:r * x < r * y:=Int.mul_lt_mul_of_pos_left h hr
  have h4:r * x * y < r * y * y:=Int.mul_lt_mul_of_pos_right h3 (by omega)
  omega
theorem Jyg {rest lift:XSpan} (hr:1≤rest.low∧rest.low≤rest.high) {q q':Int} (h:q < q'):LtS (Jma rest lift q) (Jma rest lift q'):=by
  unfold Jma LtS
  have neg:∀(r x:Int),r * x * x=r * (-x) * (-x):=fun r x=>by rw [Int.mul_neg (r * -x),Int.mul_neg r,Int.neg_mul,Int.neg_neg]
  by_cases c1:q < 0
  · by_cases c2 : q' < 0
    · rw [if_pos c1, if_pos c2]
      have a1:=Jx7 (r:=rest.high) (x:= -q') (y:= -q) (by omega) (by omega) (by omega)
      have a2:=Jx7 (r:=rest.low) (x:= -q') (y:= -q) (by omega) (by omega) (by omega)
      rw [← neg,← neg] at a1 a2
      dsimp only;omega
    · rw [if_pos c1, if_neg c2]
      have a1:=Jx7 (r:=rest.high) (x:=0) (y:= -q) (by omega) (by omega) (by omega)
      have a2:=Jx7 (r:=rest.low) (x:=0) (y:= -q) (by omega) (by omega) (by omega)
      rw [← neg] at a1 a2
      have b1:0≤rest.low * q' * q':=Int.mul_nonneg (Int.mul_nonneg (by omega) (by omega)) (by omega)
      have b2:0≤rest.high * q' * q':=Int.mul_nonneg (Int.mul_nonneg (by omega) (by omega)) (by omega)
      simp only [Int.mul_zero] at a1 a2
      dsimp only;omega
  · rw [if_neg c1, if_neg (by omega)]
    have a1:=Jx7 (r:=rest.high) (x:=q) (y:=q') (by omega) (by omega) h
    have a2:=Jx7 (r:=rest.low) (x:=q) (y:=q') (by omega) (by omega) h
    dsimp only;omega
theorem Jmq {a : XAir} {s : XSetting} (ha : AirOk a) {r : Int} (hr : 0 ≤ r ∧ r < a.mine.roads.l.length) {q q' : Int} (h : q < q') : ∀ k, k ≤ a.fans.l.length → LtS (innerTo a s r q k) (innerTo a s r q' k)
  | 0,_=>by
    have hb:=Jdf (s:=s) ha hr a.doors.l.length (Nat.le_refl _)
    exact Jyg ⟨hb.1,hb.2.1⟩ h
  | k + 1,hk=>by
    have ih:=Jmq (s:=s) ha hr h k (by omega)
    have m:=Jvb (ha.fan k _ (Jan default (by omega))).1.ok (s.fans.l.getD k 0) (show q≤q' by omega)
    unfold LtS LeS at *
    rw [innerTo.eq_2,innerTo.eq_2]
    split
    · dsimp only;omega
    · exact ih
theorem Jpl {a:XAir} {s:XSetting} (ha:AirOk a) {r:Int} (hr:0≤r∧r < a.mine.roads.l.length) {q q':Int} (h:q < q'):LtS (Jbr a s r q) (Jbr a s r q'):=Jmq ha hr h _ (Nat.le_refl _)
end Go.Proofs.YtihompplndcdeaaGreat
end
section
namespace Go.Proofs.YtihompplndcdeaaGreat
open Go.Aw Go
theorem Rises.le {f:Int→Int} (h:Rises f) {x y:Int} (h1:-1048577≤x) (h2:x≤y) (h3:y≤1048577):f x≤f y:=by
  rcases Int.lt_or_eq_of_le h2 with h' | h'
  · exact Int.le_of_lt (h x y h1 h' h3)
  · rw [h'];exact Int.le_refl _
theorem Jrv {f:Int→Int} {pr:Int} (hf:Rises f):∀(n:Nat) (lo hi:Int),(hi - lo).toNat=n→-1048577≤lo→lo≤hi→hi≤1048577→
    lo≤Jt3 f pr lo hi∧Jt3 f pr lo hi≤hi∧(∀x,lo < x→x≤Jt3 f pr lo hi→f x≤pr)∧(∀x,Jt3 f pr lo hi < x→x≤hi→pr < f x)
  | n,lo,hi,hn,h1,hle,h2=>by
    by_cases h:lo < hi
    · have he := Jg4 (x := hi - lo + 1) (by omega)
      by_cases hc:f (lo + (hi - lo + 1).tdiv 2)≤pr
      · rw [Jup h hc]
        obtain ⟨a1,a2,a3,a4⟩:=Jrv (pr:=pr) hf _ (lo + (hi - lo + 1).tdiv 2) hi rfl (by omega) (by omega) h2
        refine ⟨by omega,a2,fun x hx1 hx2=>?_,a4⟩
        rcases Int.lt_or_le (lo + (hi - lo + 1).tdiv 2) x with hx | hx
        · exact a3 x hx hx2
        · exact Int.le_trans (hf.le (by omega) hx (by omega)) hc
      · rw [Juu h hc]
        obtain ⟨a1,a2,a3,a4⟩:=Jrv (pr:=pr) hf _ lo (lo + (hi - lo + 1).tdiv 2 - 1) rfl h1 (by omega) (by omega)
        refine ⟨a1,by omega,a3,fun x hx1 hx2=>?_⟩
        rcases Int.lt_or_le (lo + (hi - lo + 1).tdiv 2 - 1) x with hx | hx
        · have := hf.le (x := lo + (hi - lo + 1).tdiv 2) (y := x) (by omega) (by omega) (by omega)
          omega
        · exact a4 x hx1 hx
    · rw [Jq4 h]
      exact ⟨by omega,by omega,fun x _ _=>by omega,fun x _ _=>by omega⟩
termination_by n=>n
decreasing_by all_goals (have:=Jg4 (x:=hi - lo + 1) (by omega);omega)
theorem Jn8 {f:Int→Int} {pr:Int} (hf:Rises f):∀(n:Nat) (lo hi:Int),(hi - lo).toNat=n→-1048577≤lo→lo≤hi→hi≤1048577→
    lo≤Jit f pr lo hi∧Jit f pr lo hi≤hi∧(∀x,lo≤x→x < Jit f pr lo hi→f x < pr)∧(∀x,Jit f pr lo hi≤x→x < hi→pr≤f x)
  | n,lo,hi,hn,h1,hle,h2=>by
    by_cases h:lo < hi
    · have he := Jg4 (x := hi - lo) (by omega)
      by_cases hc:pr≤f (lo + (hi - lo).tdiv 2)
      · rw [Jq2 h hc]
        obtain ⟨a1,a2,a3,a4⟩:=Jn8 (pr:=pr) hf _ lo (lo + (hi - lo).tdiv 2) rfl h1 (by omega) (by omega)
        refine ⟨a1,by omega,a3,fun x hx1 hx2=>?_⟩
        rcases Int.lt_or_le x (lo + (hi - lo).tdiv 2) with hx | hx
        · exact a4 x hx1 hx
        · exact Int.le_trans hc (hf.le (by omega) hx (by omega))
      · rw [Jse h hc]
        obtain ⟨a1,a2,a3,a4⟩:=Jn8 (pr:=pr) hf _ (lo + (hi - lo).tdiv 2 + 1) hi rfl (by omega) (by omega) h2
        refine ⟨by omega,a2,fun x hx1 hx2=>?_,a4⟩
        rcases Int.lt_or_le x (lo + (hi - lo).tdiv 2 + 1) with hx | hx
        · have := hf.le (x := x) (y := lo + (hi - lo).tdiv 2) (by omega) (by omega) (by omega)
          omega
        · exact a3 x hx hx2
    · rw [Jok h]
      exact ⟨by omega,by omega,fun x _ _=>by omega,fun x _ _=>by omega⟩
termination_by n=>n
decreasing_by all_goals (have:=Jg4 (x:=hi - lo) (by omega);omega)
theorem J0r {a:XAir} {s:XSetting} (ha:AirOk a) {r:Int} (hr:0≤r∧r < a.mine.roads.l.length):Rises fun q=>(Jbr a s r q).low:=fun _ _ _ h _=>(Jpl ha hr h).1
theorem Jx8 {a:XAir} {s:XSetting} (ha:AirOk a) {r:Int} (hr:0≤r∧r < a.mine.roads.l.length):Rises fun q=>(Jbr a s r q).high:=fun _ _ _ h _=>(Jpl ha hr h).2
end Go.Proofs.YtihompplndcdeaaGreat
end
section
namespace Go.Proofs.YtihompplndcdeaaGreat
open Go.Aw Go
set_option maxRecDepth 20000
attribute [local irreducible] CJ LJ DJ Tri YV Gives Jd5 Jbd Jbz Jd4 RV Jbf
def J9e (n:Int):List Value:=[.int .u8 n]
abbrev bsl (x:Arr Int):Sl:=x.sl 1 J9e []
abbrev cblk (c:Nat) (x:Arr Int) (k:Nat):Blk:=⟨c,[x.val,.int .i64 (k:Int)],69⟩
structure CodesR (x:Arr Int) (R:List Sl):Prop where
  sl:InR (bsl x) R
  byte:∀(i:Nat) (b:Int),x.l[i]?=some b→0≤b∧b≤255
theorem Jtd (c:Nat) (x:Arr Int) (k:Nat) (n:Int) (R:List Sl) (hx:CodesR x R) (hk:k≤x.l.length) (hn:n≤1000000):
    Tri Tryz.prog 24 [.pointer (some ⟨c, 0, none⟩), .int .i64 n].toArray [cblk c x k] R
      (fun v L' R'=>∃(r:Int) (k':Nat),v=.int .i64 r∧0≤r∧(1≤n→r < n)∧(n < 1→r=0)∧k'≤x.l.length∧(x.l.length≤k→r=0∧k'=k)∧[cblk c x k']=L'∧R=R'):=by
  have hsl:=hx.sl
  refine Jb7 Tryz.call24 hsl fun hxn=>?_
  refine Jae 77 Tryz.call24 Tryz.func24 rfl rfl rfl ?_
  refine Xaj ?_
  refine qco ?_
  refine Jbb tb [0,1,2,3,4,5,6,7,8,9,10,11,12,13] _ Jbn (by kernel_rfl) (List.Sublist.refl _) ?_
  refine qao ?_
  refine Jbu (Jti rfl rfl) rfl rfl rfl ?_
  refine qb2 ?_
  refine Jcz (k:=8) (show _=Value.bool _ from rfl) (fun hg2=>?_) (fun hg2=>?_)
  ·
   replace hg2:=qb hg2
   iterate 10 refine qap ?_
   refine Xb0 ?_
   refine Jcu rfl ?_
   refine Xbl ?_
   refine q_i (L':=[cblk c x k]) (R':=R) ?_
   exact ⟨0,k,rfl,by omega,fun _=>by omega,fun _=>rfl,hk,fun _=>⟨rfl,rfl⟩,rfl,rfl⟩
  replace hg2:=qb hg2
  refine Xd7 ?_
  refine Xd7 ?_
  refine Jbu (Je0 tb rfl rfl rfl) rfl rfl rfl ?_
  refine Jbu (Jk0 rfl rfl) rfl rfl rfl ?_
  refine Xb0 ?_
  refine q_c (fun hc0=>?_) (fun hc0=>?_)
  ·
   refine Xbl ?_
   refine q_i (L':=[cblk c x k]) (R':=R) ?_
   exact ⟨0,k,rfl,by omega,fun _=>by omega,fun _=>rfl,hk,fun _=>⟨rfl,rfl⟩,rfl,rfl⟩
  have hb:=Jan (l:=x.l) (k:=k) 0 (by omega)
  have hbb:=hx.byte _ _ hb
  refine qbv ?_
  refine qa6 ?_
  refine Ja2 (Jbi rfl) rfl ?_
  refine Xaa ?_
  refine qar ?_
  refine Ja2 (Jbi rfl) rfl ?_
  refine Xbw ?_
  refine qa4 ?_
  refine Jbb tb [0,1,2,3,4,5,6,7,8,9,10,11,12] _ Jbn (by kernel_rfl) (List.Sublist.refl _) ?_
  refine Xd7 ?_
  refine Xd7 ?_
  refine qb7 ?_
  refine qds ?_
  refine qbl ?_
  refine qdm ?_
  refine qcg ?_
  refine Jbt (Jaa (Jam (Jam ?_)))
  refine Jbb tb [0,1,2,3,4,5,6,7,8,9,10,11,12,13] _ Jbn (by kernel_rfl) (List.Sublist.refl _) ?_
  refine qao ?_
  refine Jbu (Jlh rfl rfl) rfl rfl rfl ?_
  refine qb2 ?_
  refine Jcz (k:=41) (show _=Value.bool _ from rfl) (fun hg2=>?_) (fun hg2=>?_)
  ·
   replace hg2:=qb hg2
   refine Xd7 ?_
   refine Xd7 ?_
   refine Jbu (Je0 tb rfl rfl rfl) rfl rfl rfl ?_
   refine Jbu (Jti rfl rfl) rfl rfl rfl ?_
   refine Xb0 ?_
   refine q_c (fun hc1=>?_) (fun hc1=>?_)
   ·
    obtain ⟨kk,hkk⟩:∃kk,kk=k + 2:=⟨_,rfl⟩
    have hb2:=Jan (l:=x.l) (k:=k + 1) 0 (by omega)
    have hbb2:=hx.byte _ _ hb2
    refine Jam ?_
    refine Jbb tb [0,1,2,3,4,5,6,7,8,9,10,11,12,13,14] _ Jbn (by kernel_rfl) (List.Sublist.refl _) ?_
    refine qao ?_
    refine qdh ?_
    refine Xd7 ?_
    refine Xd7 ?_
    refine qdy ?_
    refine qbl ?_
    refine qdm ?_
    refine qc2 ?_
    refine qcg ?_
    refine Jbt (Jaa (Jaf ?_))
    refine qa6 ?_
    refine Ja2 (Jbi rfl) rfl ?_
    refine Xaa ?_
    refine qar ?_
    refine Ja2 (Jbi rfl) rfl ?_
    refine Xbw ?_
    refine qam ?_
    refine Xbx ?_
    refine qda ?_
    refine Xbe ?_
    have htm:=fun y (h:0≤y)=>And.intro (Int.tmod_nonneg n h) (Int.tmod_lt_of_pos y (show 0 < n by omega))
    refine Jbe (L':=[cblk c x kk]) (R':=R) (Jdi rfl (Jah (show _=Value.int _ _ from rfl))) ?hp ?hL ?hR
    case hp=>exact ⟨_,kk,rfl,(htm _ (by omega)).1,fun _=>(htm _ (by omega)).2,fun _=>by omega,by omega,fun h=>by omega,rfl,rfl⟩
    case hL=>subst hkk;exact (by repeat (first | exact zs0 _ | exact zs1 _ | apply zs2 | apply zs3 | apply zs4 | apply zs5))
    case hR=>exact Jac _
   obtain ⟨kk,hkk⟩:∃kk,kk=k + 1:=⟨_,rfl⟩
   refine qbv ?_
   refine Xbx ?_
   refine qda ?_
   refine Xbe ?_
   have htm:=fun y (h:0≤y)=>And.intro (Int.tmod_nonneg n h) (Int.tmod_lt_of_pos y (show 0 < n by omega))
   refine Jbe (L':=[cblk c x kk]) (R':=R) (Jdi rfl (Jah (show _=Value.int _ _ from rfl))) ?hp ?hL ?hR
   case hp=>exact ⟨_,kk,rfl,(htm _ (by omega)).1,fun _=>(htm _ (by omega)).2,fun _=>by omega,by omega,fun h=>by omega,rfl,rfl⟩
   case hL=>subst hkk;exact (by repeat (first | exact zs0 _ | exact zs1 _ | apply zs2 | apply zs3 | apply zs4 | apply zs5))
   case hR=>exact Jac _
  replace hg2:=qb hg2
  obtain ⟨kk,hkk⟩:∃kk,kk=k + 1:=⟨_,rfl⟩
  iterate 10 refine qap ?_
  refine Xb0 ?_
  refine Jcr rfl ?_
  refine qbv ?_
  refine Xbx ?_
  refine qda ?_
  refine Xbe ?_
  have htm:=fun y (h:0≤y)=>And.intro (Int.tmod_nonneg n h) (Int.tmod_lt_of_pos y (show 0 < n by omega))
  refine Jbe (L':=[cblk c x kk]) (R':=R) (Jdi rfl (Jah (show _=Value.int _ _ from rfl))) ?hp ?hL ?hR
  case hp=>exact ⟨_,kk,rfl,(htm _ (by omega)).1,fun _=>(htm _ (by omega)).2,fun _=>by omega,by omega,fun h=>by omega,rfl,rfl⟩
  case hL=>subst hkk;exact (by repeat (first | exact zs0 _ | exact zs1 _ | apply zs2 | apply zs3 | apply zs4 | apply zs5))
  case hR=>exact Jac _
theorem Jwz (c:Nat) (x:Arr Int) (k:Nat) (n:Int) (R:List Sl) (hx:CodesR x R) (hk:k≤x.l.length) (hn:n≤1000000):
    Tri Tryz.prog 24 [.pointer (some ⟨c, 0, none⟩), .int .i64 n].toArray [cblk c x k] R
      (fun v L' R'=>∃(r:Int) (k':Nat),v=.int .i64 r∧0≤r∧(1≤n→r < n)∧(n < 1→r=0)∧k'≤x.l.length∧[cblk c x k']=L'∧R=R'):=
  (Jtd c x k n R hx hk hn).mono fun v L' R' ⟨r,k',h1,h2,h3,h4,h5,_,h6,h7⟩=>⟨r,k',h1,h2,h3,h4,h5,h6,h7⟩
theorem J5m (c:Nat) (x:Arr Int) (k:Nat) (n:Int) (R:List Sl) (hx:CodesR x R) (hk:k≤x.l.length) (hn:-1000000≤n∧n≤1000000):
    Tri Tryz.prog 23 [.pointer (some ⟨c, 0, none⟩), .int .i64 n].toArray [cblk c x k] R
      (fun v L' R'=>∃(b:Bool) (k':Nat),v=.bool b∧k'≤x.l.length∧[cblk c x k']=L'∧R=R'):=by
  refine Jae 11 Tryz.call23 Tryz.func23 rfl rfl rfl ?_
  refine qae ?_
  refine Xbr ?_
  refine qa6 ?_
  refine qaa ?_
  refine Jaq rfl (Jwz c x k n _ hx hk (by omega)) rfl ?_
  rintro v L' R' ⟨r,k',rfl,h1,h2,h3,hk',rfl,rfl⟩
  refine qaa ?_
  refine qa9 ?_
  refine qbn ?_
  refine Xbb ?_
  refine q_b (L':=[cblk c x k']) (R':=R) ?_
  exact ⟨_,k',rfl,hk',rfl,rfl⟩
theorem Jyp (c:Nat) (x:Arr Int) (k:Nat) (lo hi:Int) (R:List Sl) (hx:CodesR x R) (hk:k≤x.l.length) (hl:-400000≤lo∧lo≤hi∧hi≤400000):
    Tri Tryz.prog 25 [.pointer (some ⟨c, 0, none⟩), .int .i64 lo, .int .i64 hi].toArray [cblk c x k] R
      (fun v L' R'=>∃(r:Int) (k':Nat),v=.int .i64 r∧lo≤r∧r≤hi∧k'≤x.l.length∧(x.l.length≤k→r=lo∧k'=k)∧[cblk c x k']=L'∧R=R'):=by
  refine Jae 15 Tryz.call25 Tryz.func25 rfl rfl rfl ?_
  refine Xaj ?_
  refine qam ?_
  refine qaa ?_
  refine qa6 ?_
  refine Xbx ?_
  refine qa9 ?_
  refine qar ?_
  refine Jaq rfl (Jtd c x k (hi - lo + 1) _ hx hk (by omega)) rfl ?_
  rintro v L' R' ⟨r,k',rfl,h1,h2,h3,hk',he,rfl,rfl⟩
  have h4:=h2 (by omega)
  refine Xac ?_
  refine qa0 ?_
  refine q_i (L':=[cblk c x k']) (R':=R) ?_
  exact ⟨_,k',rfl,by omega,by omega,hk',fun h=>by have:=he h;omega,rfl,rfl⟩
theorem Jy8 (c:Nat) (x:Arr Int) (k:Nat) (lo hi:Int) (R:List Sl) (hx:CodesR x R) (hk:k≤x.l.length) (hl:-400000≤lo∧lo≤hi∧hi≤400000):
    Tri Tryz.prog 25 [.pointer (some ⟨c, 0, none⟩), .int .i64 lo, .int .i64 hi].toArray [cblk c x k] R
      (fun v L' R'=>∃(r:Int) (k':Nat),v=.int .i64 r∧lo≤r∧r≤hi∧k'≤x.l.length∧[cblk c x k']=L'∧R=R'):=
  (Jyp c x k lo hi R hx hk hl).mono fun v L' R' ⟨r,k',h1,h2,h3,h5,_,h6,h7⟩=>⟨r,k',h1,h2,h3,h5,h6,h7⟩
abbrev Jfi (x:Arr Int) (k:Nat):List Value:=[x.val,.int .i64 (k:Int)]
theorem Jgo {c:Nat} {x:Arr Int} {k:Nat} {n:Int} {L:List Blk} {F:List Value→List Blk} {R:List Sl} (hu:USeg c (Jfi x k) 69 L F) (hx:CodesR x R) (hk:k≤x.l.length) (hn:n≤1000000):
    Tri Tryz.prog 24 [.pointer (some ⟨c, 0, none⟩), .int .i64 n].toArray L R
      (fun v L' R'=>∃(r:Int) (k':Nat),v=.int .i64 r∧0≤r∧(1≤n→r < n)∧(n < 1→r=0)∧k'≤x.l.length∧F (Jfi x k')=L'∧R=R'):=
  (Tri.at1 (Post' := fun v cs' R' => ∃ (r : Int) (k' : Nat), v = .int .i64 r ∧ 0 ≤ r ∧ (1 ≤ n → r < n) ∧ (n < 1 → r = 0) ∧ k' ≤ x.l.length ∧ cs' = Jfi x k' ∧ R = R') hu (Jwz c x k n R hx hk hn)
    (fun v L' R' ⟨r,k',h1,h2,h3,h4,h5,h6,h7⟩=>⟨_,h6,r,k',h1,h2,h3,h4,h5,rfl,h7⟩)).mono
    (fun v L' R' ⟨cs',h0,r,k',h1,h2,h3,h4,h5,h6,h7⟩=>⟨r,k',h1,h2,h3,h4,h5,by rw [← h6];exact h0,h7⟩)
theorem J3k {c:Nat} {x:Arr Int} {k:Nat} {n:Int} {L:List Blk} {F:List Value→List Blk} {R:List Sl} (hu:USeg c (Jfi x k) 69 L F) (hx:CodesR x R) (hk:k≤x.l.length) (hn:-1000000≤n∧n≤1000000):
    Tri Tryz.prog 23 [.pointer (some ⟨c, 0, none⟩), .int .i64 n].toArray L R
      (fun v L' R'=>∃(b:Bool) (k':Nat),v=.bool b∧k'≤x.l.length∧F (Jfi x k')=L'∧R=R'):=
  (Tri.at1 (Post' := fun v cs' R' => ∃ (b : Bool) (k' : Nat), v = .bool b ∧ k' ≤ x.l.length ∧ cs' = Jfi x k' ∧ R = R') hu (J5m c x k n R hx hk hn)
    (fun v L' R' ⟨b,k',h1,h5,h6,h7⟩=>⟨_,h6,b,k',h1,h5,rfl,h7⟩)).mono
    (fun v L' R' ⟨cs',h0,b,k',h1,h5,h6,h7⟩=>⟨b,k',h1,h5,by rw [← h6];exact h0,h7⟩)
theorem Jif {c:Nat} {x:Arr Int} {k:Nat} {lo hi:Int} {L:List Blk} {F:List Value→List Blk} {R:List Sl} (hu:USeg c (Jfi x k) 69 L F) (hx:CodesR x R) (hk:k≤x.l.length) (hl:-400000≤lo∧lo≤hi∧hi≤400000):
    Tri Tryz.prog 25 [.pointer (some ⟨c, 0, none⟩), .int .i64 lo, .int .i64 hi].toArray L R
      (fun v L' R'=>∃(r:Int) (k':Nat),v=.int .i64 r∧lo≤r∧r≤hi∧k'≤x.l.length∧F (Jfi x k')=L'∧R=R'):=
  (Tri.at1 (Post' := fun v cs' R' => ∃ (r : Int) (k' : Nat), v = .int .i64 r ∧ lo ≤ r ∧ r ≤ hi ∧ k' ≤ x.l.length ∧ cs' = Jfi x k' ∧ R = R') hu (Jy8 c x k lo hi R hx hk hl)
    (fun v L' R' ⟨r,k',h1,h2,h3,h5,h6,h7⟩=>⟨_,h6,r,k',h1,h2,h3,h5,rfl,h7⟩)).mono
    (fun v L' R' ⟨cs',h0,r,k',h1,h2,h3,h5,h6,h7⟩=>⟨r,k',h1,h2,h3,h5,by rw [← h6];exact h0,h7⟩)
end Go.Proofs.YtihompplndcdeaaGreat
end
