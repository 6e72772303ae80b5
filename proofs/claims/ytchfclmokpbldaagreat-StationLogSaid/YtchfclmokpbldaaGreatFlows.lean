/-
  Flows: RefFits, PipeOf, Mono, Spec, Codes, in one text. By an AI agent; no person has read it.
-/
import Derived.Test.YtchfclmokpbldaaGreatFans
set_option linter.unusedVariables false
set_option linter.unusedSimpArgs false
section
namespace Go.Proofs.YtchfclmokpbldaaGreat
open Go.Aw Go
set_option maxRecDepth 20000
attribute [local irreducible] CJ LJ DJ Tri YV Gives Ui J0 Ke Uh RV J2
def U3 (p:Int):Option Int:=if p < -70368744177664∨70368744177664 < p then some 1 else none
def Y1e (q:Int):Option Int:=if q < -1048576∨1048576 < q then some 1 else none
def Vad (a : XAir) (x : XState) : Nat → List Int
  | 0=>List.replicate x.pres.l.length 0
  | k + 1=>
    let l1:=(Vad a x k).set (a.mine.roads.l.getD k default).fr.toNat ((Vad a x k).getD (a.mine.roads.l.getD k default).fr.toNat 0 + x.flows.l.getD k 0)
    l1.set (a.mine.roads.l.getD k default).to.toNat (l1.getD (a.mine.roads.l.getD k default).to.toNat 0 - x.flows.l.getD k 0)
def Zrd (a:XAir) (s:XSetting) (x:XState) (i:Nat):Option Int:=
  let r:=a.mine.roads.l.getD i default
  let d:=x.pres.l.getD r.fr.toNat 0 - x.pres.l.getD r.to.toNat 0
  if (r.closed=true∧x.flows.l.getD i 0≠0)∨(r.closed=false∧(d < (Uk a s i (x.flows.l.getD i 0)).low∨(Uk a s i (x.flows.l.getD i 0)).high < d)) then some 10 else none
def Vwd (a:XAir) (x:XState) (net:List Int) (i:Nat):Option Int:=
  if ((a.mine.places.l.getD i default).surface=true∧x.pres.l.getD i 0≠0)∨((a.mine.places.l.getD i default).surface=false∧net.getD i 0≠0) then some 10 else none
def V7f (a:XAir) (s:XSetting) (x:XState):Int:=
  if Ky a≠0 then Ky a else if Vja a s=false then 21
  else if x.pres.l.length≠a.mine.places.l.length∨x.flows.l.length≠a.mine.roads.l.length then 11
  else match x.pres.l.findSome? U3 with
    | some e=>e
    | none=>match x.flows.l.findSome? Y1e with
      | some e=>e
      | none=>match (List.range x.flows.l.length).findSome? (Zrd a s x) with
        | some e=>e
        | none=>((List.range x.pres.l.length).findSome? (Vwd a x (Vad a x x.flows.l.length))).getD 0
theorem Vbc (a : XAir) (x : XState) : ∀ k, (Vad a x k).length = x.pres.l.length
  | 0=>by simp [Vad]
  | k + 1=>by simp only [Vad,List.length_set];exact Vbc a x k
end Go.Proofs.YtchfclmokpbldaaGreat
end
section
namespace Go.Proofs.YtchfclmokpbldaaGreat
open Go.Aw Go
def blowsTo (a : XAir) (s : XSetting) (r : Int) : Nat → List XBlow
  | 0=>[]
  | k + 1=>if s.fans.l.getD k 0≠0∧(a.fans.l.getD k default).road=r then blowsTo a s r k ++ [⟨a.fans.l.getD k default,s.fans.l.getD k 0⟩] else blowsTo a s r k
structure PipeIs (a:XAir) (s:XSetting) (r:Int) (p:XPipe):Prop where
  road:p.road={ a.mine.roads.l.getD r.toNat default with rest:=Vh a s r a.doors.l.length }
  num:p.num=r
  fans:p.fans.l=blowsTo a s r a.fans.l.length
def Yhf (q:Int) (s:XSpan) (b:XBlow):XSpan:=⟨s.low - (Yy b.fan b.state q).high,s.high - (Yy b.fan b.state q).low⟩
theorem Uzb (p : XPipe) (q : Int) : ∀ k, k ≤ p.fans.l.length → Zz p q k = (p.fans.l.take k).foldl (Yhf q) (Zz p q 0)
  | 0,_=>by simp
  | k + 1,hk=>by
    have hx:=Jw (l:=p.fans.l) (k:=k) default za
    have e:p.fans.l.take (k + 1)=p.fans.l.take k ++ [p.fans.l.getD k default]:=by
      rw [List.take_add_one,hx];rfl
    rw [e,List.foldl_append,← Uzb p q k za]
    rfl
theorem Ufe (f:XFan) (q:Int):Yy f 0 q=⟨0,0⟩:=by
  rw [Yy,if_neg zc,if_neg zc,if_neg zc]
theorem Kjb (a : XAir) (s : XSetting) (r q : Int) : ∀ k, innerTo a s r q k = (blowsTo a s r k).foldl (Yhf q) (innerTo a s r q 0)
  | 0=>rfl
  | k + 1=>by
    have ih:=Kjb a s r q k
    rw [innerTo.eq_2,blowsTo.eq_2]
    by_cases hr:(a.fans.l.getD k default).road=r
    · by_cases h0 : s.fans.l.getD k 0 = 0
      · rw [if_pos hr, if_neg (fun h => h.1 h0), h0, Ufe, ← ih]
        simp only [Int.sub_zero]
      · rw [if_pos hr, if_pos ⟨h0, hr⟩, List.foldl_append, ← ih]
        rfl
    · rw [if_neg hr,if_neg (fun h=>hr h.2),← ih]
theorem Ksd {a:XAir} {s:XSetting} {r:Int} {p:XPipe} (h:PipeIs a s r p) (q:Int):Zsa p q=Uk a s r q:=by
  have e0:Zz p q 0=innerTo a s r q 0:=by
    by_cases hq:q < 0
    · rw [Jsb hq,Jcd hq,h.road,Int.neg_mul,Int.neg_mul,Int.mul_assoc,Int.mul_assoc]
    · rw [Jyb hq,Y1c hq,h.road,Int.mul_assoc,Int.mul_assoc]
  rw [Zsa,Uzb p q _ (Nat.le_refl _),List.take_length,e0,h.fans,Uk,Kjb a s r q a.fans.l.length]
theorem U6a {a : XAir} {s : XSetting} {r : Int} : ∀ (k : Nat), k ≤ a.fans.l.length → ∀ b ∈ blowsTo a s r k, ∃ i : Nat, a.fans.l[i]? = some b.fan
  | 0,_,b,hb=>by simp [blowsTo] at hb
  | k + 1,hk,b,hb=>by
    rw [blowsTo] at hb
    split at hb
    · rcases List.mem_append.1 hb with h | h
      · exact U6a k za b h
      · rw [List.mem_singleton.1 h];exact ⟨k,Jw default za⟩
    · exact U6a k za b hb
theorem Kya {a : XAir} {s : XSetting} {r : Int} : ∀ (k : Nat), (blowsTo a s r k).length ≤ k
  | 0=>by simp [blowsTo]
  | k + 1=>by
    have:=Kya (a:=a) (s:=s) (r:=r) k
    rw [blowsTo]
    split
    · simp;omega
    · omega
theorem V7c {a:XAir} {s:XSetting} {r:Int} {p:XPipe} (ha:AirOk a) (hr:0≤r∧r < a.mine.roads.l.length) (h:PipeIs a s r p):PipeOk p:=by
  have hro:=ha.mine.road r.toNat _ zsc
  have hrb:=Zq (s:=s) ha hr a.doors.l.length (Nat.le_refl _)
  have hnd:=ha.ndoors
  have hnf:=ha.nfans
  have hl:=Kya (a:=a) (s:=s) (r:=r) a.fans.l.length
  refine ⟨?_,?_,?_,fun i b hb=>?_⟩
  · rw [h.road];dsimp only;omega
  · rw [h.road];exact hro.lift
  · rw [h.fans];omega
  · rw [h.fans] at hb
    obtain ⟨j,hj⟩:=U6a a.fans.l.length (Nat.le_refl _) b (List.mem_of_getElem? hb)
    exact (ha.fan j _ hj).1
def Rises (f:Int→Int):Prop:=∀x y:Int,-1048577≤x→x < y→y≤1048577→f x < f y
end Go.Proofs.YtchfclmokpbldaaGreat
end
section
namespace Go.Proofs.YtchfclmokpbldaaGreat
open Go.Aw Go
def LeS (s t:XSpan):Prop:=s.low≤t.low∧s.high≤t.high
theorem V0b {a b:XPoint} {q:Int} (hw:a.flow < b.flow):(V5 a b q).low=a.pres + (-((a.pres - b.pres) * (q - a.flow))) / (b.flow - a.flow):=by
  rw [Jme za];unfold V5;dsimp only;omega
theorem Ufc {a b:XPoint} {q q':Int} (hp:b.pres≤a.pres) (hw:a.flow < b.flow) (h:q≤q'):LeS (V5 a b q') (V5 a b q):=by
  have hm:(a.pres - b.pres) * (q - a.flow)≤(a.pres - b.pres) * (q' - a.flow):=Int.mul_le_mul_of_nonneg_left za za
  constructor
  · rw [V0b hw, V0b hw]
    have:=Int.ediv_le_ediv (a:= -((a.pres - b.pres) * (q' - a.flow))) (b:= -((a.pres - b.pres) * (q - a.flow))) (c:=b.flow - a.flow) za za
    omega
  · have := Int.ediv_le_ediv (a := (a.pres - b.pres) * (q - a.flow)) (b := (a.pres - b.pres) * (q' - a.flow)) (c := b.flow - a.flow) za hm
    unfold V5;dsimp only;omega
theorem Ksb : ∀ (l : List XPoint) (p : XPoint) (q q' : Int), CurveOk (p :: l) → p.flow ≤ q → q ≤ q' → LeS (Z4 p l q') (Z4 p l q)
  | [],p,q,q',_,_,_=>⟨Int.le_refl _,Int.le_refl _⟩
  | r :: rest,p,q,q',h,hq,hqq=>by
    have h0:=h.pt 0 p rfl
    have h1:=h.pt 1 r rfl
    have h2:=h.st 0 p r rfl rfl
    have ok':CurveOk (r :: rest):=⟨fun i=>h.pt (i + 1),fun i=>h.st (i + 1)⟩
    unfold Z4
    by_cases c1:q≤r.flow
    · by_cases c2 : q' ≤ r.flow
      · rw [if_pos c1,if_pos c2];exact Ufc h2.2 h2.1 hqq
      · rw [if_pos c1, if_neg c2]
        have b1:=Y1a (a:=p) (b:=r) (q:=q) za za
        have b2:=Jca rest r q' ok' za
        exact ⟨by omega,by omega⟩
    · rw [if_neg c1, if_neg za]
      exact Ksb rest r q q' ok' za hqq
theorem Vxb {l:List XPoint} (h:CurveOk l) {q q':Int} (hqq:q≤q'):LeS (Kba l q') (Kba l q):=by
  cases l with
  | nil=>exact ⟨Int.le_refl _,Int.le_refl _⟩
  | cons p rest=>
    unfold Kba
    dsimp only
    by_cases c1:q≤p.flow
    · by_cases c2 : q' ≤ p.flow
      · rw [if_pos c1,if_pos c2];exact ⟨Int.le_refl _,Int.le_refl _⟩
      · rw [if_pos c1, if_neg c2]
        have b2:=Jca rest p q' h za
        exact ⟨by dsimp only;omega,by dsimp only;omega⟩
    · rw [if_neg c1, if_neg za]
      exact Ksb rest p q q' h za hqq
theorem Uwa {l:List XPoint} (h:CurveOk l) (back:Bool) {q q':Int} (hqq:q≤q'):LeS (Jka l back q') (Jka l back q):=by
  unfold Jka
  cases back with
  | false=>exact Vxb h hqq
  | true=>
    have:=Vxb h (q:= -q') (q':= -q) za
    exact ⟨by simp only [if_true,Uxf];have:=this.2;omega,by simp only [if_true,Uxf];have:=this.1;omega⟩
theorem Y3c {f:XFan} (h:CurveOk f.curve.l) (s:Int) {q q':Int} (hqq:q≤q'):LeS (Yy f s q') (Yy f s q):=by
  have m1:=Uwa h f.back hqq
  have m2:=Uwa h (!f.back) hqq
  have m3:=Uwa h false hqq
  have m4:=Uwa h true hqq
  unfold LeS at *
  unfold Yy
  split
  · exact m1
  · split
    · exact m2
    · split
      · dsimp only;omega
      · exact ⟨Int.le_refl _,Int.le_refl _⟩
def LtS (s t:XSpan):Prop:=s.low < t.low∧s.high < t.high
theorem Uid {r x y:Int} (hr:0 < r) (hx:0≤x) (h:x < y):r * x * x < r * y * y:=by
  have h1:r * x≤r * y:=Int.mul_le_mul_of_nonneg_left za za
  have h0:0≤r * x:=Int.mul_nonneg za hx
  have h2:r * x * x≤r * x * y:=Int.mul_le_mul_of_nonneg_left za h0
  have h3:r * x < r * y:=Int.mul_lt_mul_of_pos_left h hr
  have h4:r * x * y < r * y * y:=Int.mul_lt_mul_of_pos_right h3 za
  omega
theorem Ugd {rest lift:XSpan} (hr:1≤rest.low∧rest.low≤rest.high) {q q':Int} (h:q < q'):LtS (J3e rest lift q) (J3e rest lift q'):=by
  unfold J3e LtS
  have neg:∀(r x:Int),r * x * x=r * (-x) * (-x):=fun r x=>by rw [Int.mul_neg (r * -x),Int.mul_neg r,Int.neg_mul,Int.neg_neg]
  by_cases c1:q < 0
  · by_cases c2 : q' < 0
    · rw [if_pos c1, if_pos c2]
      have a1:=Uid (r:=rest.high) (x:= -q') (y:= -q) za za za
      have a2:=Uid (r:=rest.low) (x:= -q') (y:= -q) za za za
      rw [← neg,← neg] at a1 a2
      dsimp only;omega
    · rw [if_pos c1, if_neg c2]
      have a1:=Uid (r:=rest.high) (x:=0) (y:= -q) za za za
      have a2:=Uid (r:=rest.low) (x:=0) (y:= -q) za za za
      rw [← neg] at a1 a2
      have b1:0≤rest.low * q' * q':=Int.mul_nonneg (Int.mul_nonneg za za) za
      have b2:0≤rest.high * q' * q':=Int.mul_nonneg (Int.mul_nonneg za za) za
      simp only [Int.mul_zero] at a1 a2
      dsimp only;omega
  · rw [if_neg c1, if_neg za]
    have a1:=Uid (r:=rest.high) (x:=q) (y:=q') za za h
    have a2:=Uid (r:=rest.low) (x:=q) (y:=q') za za h
    dsimp only;omega
theorem Kmb {a : XAir} {s : XSetting} (ha : AirOk a) {r : Int} (hr : 0 ≤ r ∧ r < a.mine.roads.l.length) {q q' : Int} (h : q < q') : ∀ k, k ≤ a.fans.l.length → LtS (innerTo a s r q k) (innerTo a s r q' k)
  | 0,_=>by
    have hb:=Zq (s:=s) ha hr a.doors.l.length (Nat.le_refl _)
    exact Ugd ⟨hb.1,hb.2.1⟩ h
  | k + 1,hk=>by
    have ih:=Kmb (s:=s) ha hr h k za
    have m:=Y3c (ha.fan k _ zsc).1.ok (s.fans.l.getD k 0) (show q≤q' by omega)
    unfold LtS LeS at *
    rw [innerTo.eq_2,innerTo.eq_2]
    split
    · dsimp only;omega
    · exact ih
theorem U7b {a:XAir} {s:XSetting} (ha:AirOk a) {r:Int} (hr:0≤r∧r < a.mine.roads.l.length) {q q':Int} (h:q < q'):LtS (Uk a s r q) (Uk a s r q'):=Kmb ha hr h _ (Nat.le_refl _)
end Go.Proofs.YtchfclmokpbldaaGreat
end
section
namespace Go.Proofs.YtchfclmokpbldaaGreat
open Go.Aw Go
theorem Rises.le {f:Int→Int} (h:Rises f) {x y:Int} (h1:-1048577≤x) (h2:x≤y) (h3:y≤1048577):f x≤f y:=by
  rcases Int.lt_or_eq_of_le h2 with h' | h'
  · exact Int.le_of_lt (h x y h1 h' h3)
  · rw [h'];exact Int.le_refl _
theorem Jfc {f:Int→Int} {pr:Int} (hf:Rises f):∀(n:Nat) (lo hi:Int),(hi - lo).toNat=n→-1048577≤lo→lo≤hi→hi≤1048577→
    lo≤Ykc f pr lo hi∧Ykc f pr lo hi≤hi∧(∀x,lo < x→x≤Ykc f pr lo hi→f x≤pr)∧(∀x,Ykc f pr lo hi < x→x≤hi→pr < f x)
  | n,lo,hi,hn,h1,hle,h2=>by
    by_cases h:lo < hi
    · have he := Vva (x := hi - lo + 1) za
      by_cases hc:f (lo + (hi - lo + 1).tdiv 2)≤pr
      · rw [Yvd h hc]
        obtain ⟨a1,a2,a3,a4⟩:=Jfc (pr:=pr) hf _ (lo + (hi - lo + 1).tdiv 2) hi rfl za za h2
        refine ⟨by omega,a2,fun x hx1 hx2=>?_,a4⟩
        rcases Int.lt_or_le (lo + (hi - lo + 1).tdiv 2) x with hx | hx
        · exact a3 x hx hx2
        · exact Int.le_trans (hf.le za hx za) hc
      · rw [Zed h hc]
        obtain ⟨a1,a2,a3,a4⟩:=Jfc (pr:=pr) hf _ lo (lo + (hi - lo + 1).tdiv 2 - 1) rfl h1 za za
        refine ⟨a1,by omega,a3,fun x hx1 hx2=>?_⟩
        rcases Int.lt_or_le (lo + (hi - lo + 1).tdiv 2 - 1) x with hx | hx
        · have := hf.le (x := lo + (hi - lo + 1).tdiv 2) (y := x) za za za
          omega
        · exact a4 x hx1 hx
    · rw [Jrd h]
      exact ⟨by omega,by omega,fun x _ _=>by omega,fun x _ _=>by omega⟩
termination_by n=>n
decreasing_by all_goals (have:=Vva (x:=hi - lo + 1) za;omega)
theorem V9b {f:Int→Int} {pr:Int} (hf:Rises f):∀(n:Nat) (lo hi:Int),(hi - lo).toNat=n→-1048577≤lo→lo≤hi→hi≤1048577→
    lo≤Ywa f pr lo hi∧Ywa f pr lo hi≤hi∧(∀x,lo≤x→x < Ywa f pr lo hi→f x < pr)∧(∀x,Ywa f pr lo hi≤x→x < hi→pr≤f x)
  | n,lo,hi,hn,h1,hle,h2=>by
    by_cases h:lo < hi
    · have he := Vva (x := hi - lo) za
      by_cases hc:pr≤f (lo + (hi - lo).tdiv 2)
      · rw [Kfd h hc]
        obtain ⟨a1,a2,a3,a4⟩:=V9b (pr:=pr) hf _ lo (lo + (hi - lo).tdiv 2) rfl h1 za za
        refine ⟨a1,by omega,a3,fun x hx1 hx2=>?_⟩
        rcases Int.lt_or_le x (lo + (hi - lo).tdiv 2) with hx | hx
        · exact a4 x hx1 hx
        · exact Int.le_trans hc (hf.le za hx za)
      · rw [J4d h hc]
        obtain ⟨a1,a2,a3,a4⟩:=V9b (pr:=pr) hf _ (lo + (hi - lo).tdiv 2 + 1) hi rfl za za h2
        refine ⟨by omega,a2,fun x hx1 hx2=>?_,a4⟩
        rcases Int.lt_or_le x (lo + (hi - lo).tdiv 2 + 1) with hx | hx
        · have := hf.le (x := x) (y := lo + (hi - lo).tdiv 2) za za za
          omega
        · exact a3 x hx hx2
    · rw [Vhc h]
      exact ⟨by omega,by omega,fun x _ _=>by omega,fun x _ _=>by omega⟩
termination_by n=>n
decreasing_by all_goals (have:=Vva (x:=hi - lo) za;omega)
theorem Zwd {a:XAir} {s:XSetting} (ha:AirOk a) {r:Int} (hr:0≤r∧r < a.mine.roads.l.length):Rises fun q=>(Uk a s r q).low:=fun _ _ _ h _=>(U7b ha hr h).1
theorem U3d {a:XAir} {s:XSetting} (ha:AirOk a) {r:Int} (hr:0≤r∧r < a.mine.roads.l.length):Rises fun q=>(Uk a s r q).high:=fun _ _ _ h _=>(U7b ha hr h).2
end Go.Proofs.YtchfclmokpbldaaGreat
end
section
namespace Go.Proofs.YtchfclmokpbldaaGreat
open Go.Aw Go
set_option maxRecDepth 20000
attribute [local irreducible] CJ LJ DJ Tri YV Gives Ui J0 Ke Uh RV J2
def Zw (n:Int):List Value:=[.int .u8 n]
abbrev bsl (x:Arr Int):Sl:=x.sl 1 Zw []
abbrev cblk (c:Nat) (x:Arr Int) (k:Nat):Blk:=⟨c,[x.val,.int .i64 (k:Int)],168⟩
structure CodesR (x:Arr Int) (R:List Sl):Prop where
  sl:InR (bsl x) R
  byte:∀(i:Nat) (b:Int),x.l[i]?=some b→0≤b∧b≤255
theorem U6b (c:Nat) (x:Arr Int) (k:Nat) (n:Int) (R:List Sl) (hx:CodesR x R) (hk:k≤x.l.length) (hn:n≤1000000):
    Tri Tryz.prog 20 [.pointer (some ⟨c, 0, none⟩), .int .i64 n].toArray [cblk c x k] R
      (fun v L' R'=>∃(r:Int) (k':Nat),v=.int .i64 r∧0≤r∧(1≤n→r < n)∧(n < 1→r=0)∧k'≤x.l.length∧(x.l.length≤k→r=0∧k'=k)∧[cblk c x k']=L'∧R=R'):=by
  have hsl:=hx.sl
  refine U8 Tryz.call20 hsl fun hxn=>?_
  refine Jg 77 Tryz.call20 Tryz.func20 rfl rfl rfl ?_
  refine Xab ?_
  refine qco ?_
  refine Kn tb [0,1,2,3,4,5,6,7,8,9,10,11,12,13] _ K1 ze (List.Sublist.refl _) ?_
  refine qao ?_
  refine Kv zlc rfl rfl rfl ?_
  refine qb2 ?_
  refine Vd (k:=8) zdb (fun hg2=>?_) (fun hg2=>?_)
  ·
   replace hg2:=qb hg2
   iterate 10 refine qap ?_
   refine Xbu ?_
   refine K3 rfl ?_
   exact zAd
  replace hg2:=qb hg2
  refine Xcr ?_
  refine Xcr ?_
  refine Kv ztb rfl rfl rfl ?_
  refine Kv (Zob rfl rfl) rfl rfl rfl ?_
  refine Xbu ?_
  refine q_c (fun hc0=>?_) (fun hc0=>?_)
  ·
   exact zAd
  have hb:=Jw (l:=x.l) (k:=k) 0 za
  have hbb:=hx.byte _ _ hb
  refine qbv ?_
  refine qa6 ?_
  refine Jx zIb rfl ?_
  refine Xaa ?_
  refine qar ?_
  refine Jx zIb rfl ?_
  refine Xbj ?_
  refine qa4 ?_
  refine Kn tb [0,1,2,3,4,5,6,7,8,9,10,11,12] _ K1 ze (List.Sublist.refl _) ?_
  refine Xcr ?_
  refine Xcr ?_
  refine qb7 ?_
  refine qds ?_
  refine qbl ?_
  refine qdm ?_
  refine qcg ?_
  refine J1 (Jb (Jn (Jn ?_)))
  refine Kn tb [0,1,2,3,4,5,6,7,8,9,10,11,12,13] _ K1 ze (List.Sublist.refl _) ?_
  refine qao ?_
  refine Kv (U0c rfl rfl) rfl rfl rfl ?_
  refine qb2 ?_
  refine Vd (k:=41) zdb (fun hg2=>?_) (fun hg2=>?_)
  ·
   replace hg2:=qb hg2
   refine Xcr ?_
   refine Xcr ?_
   refine Kv ztb rfl rfl rfl ?_
   refine Kv zlc rfl rfl rfl ?_
   refine Xbu ?_
   refine q_c (fun hc1=>?_) (fun hc1=>?_)
   ·
    obtain ⟨kk,hkk⟩:∃kk,kk=k + 2:=⟨_,rfl⟩
    have hb2:=Jw (l:=x.l) (k:=k + 1) 0 za
    have hbb2:=hx.byte _ _ hb2
    refine Jn ?_
    refine Kn tb [0,1,2,3,4,5,6,7,8,9,10,11,12,13,14] _ K1 ze (List.Sublist.refl _) ?_
    refine qao ?_
    refine qdh ?_
    refine Xcr ?_
    refine Xcr ?_
    refine qdy ?_
    refine qbl ?_
    refine qdm ?_
    refine qc2 ?_
    refine qcg ?_
    refine J1 (Jb (Jh ?_))
    refine qa6 ?_
    refine Jx zIb rfl ?_
    refine Xaa ?_
    refine qar ?_
    refine Jx zIb rfl ?_
    refine Xbj ?_
    refine qam ?_
    refine Xbh ?_
    refine qda ?_
    refine Xah ?_
    have htm:=fun y (h:0≤y)=>And.intro (Int.tmod_nonneg n h) (Int.tmod_lt_of_pos y (show 0 < n by omega))
    refine Ks (L':=[cblk c x kk]) (R':=R) zVc ?hp ?hL ?hR
    case hp=>exact ⟨_,kk,rfl,(htm _ za).1,fun _=>(htm _ za).2,fun _=>by omega,by omega,fun h=>by omega,rfl,rfl⟩
    case hL=>subst hkk;exact zi
    case hR=>exact Jc _
   obtain ⟨kk,hkk⟩:∃kk,kk=k + 1:=⟨_,rfl⟩
   refine qbv ?_
   refine Xbh ?_
   refine qda ?_
   refine Xah ?_
   have htm:=fun y (h:0≤y)=>And.intro (Int.tmod_nonneg n h) (Int.tmod_lt_of_pos y (show 0 < n by omega))
   refine Ks (L':=[cblk c x kk]) (R':=R) zVc ?hp ?hL ?hR
   case hp=>exact ⟨_,kk,rfl,(htm _ za).1,fun _=>(htm _ za).2,fun _=>by omega,by omega,fun h=>by omega,rfl,rfl⟩
   case hL=>subst hkk;exact zi
   case hR=>exact Jc _
  replace hg2:=qb hg2
  obtain ⟨kk,hkk⟩:∃kk,kk=k + 1:=⟨_,rfl⟩
  iterate 10 refine qap ?_
  refine Xbu ?_
  refine Zj rfl ?_
  refine qbv ?_
  refine Xbh ?_
  refine qda ?_
  refine Xah ?_
  have htm:=fun y (h:0≤y)=>And.intro (Int.tmod_nonneg n h) (Int.tmod_lt_of_pos y (show 0 < n by omega))
  refine Ks (L':=[cblk c x kk]) (R':=R) zVc ?hp ?hL ?hR
  case hp=>exact ⟨_,kk,rfl,(htm _ za).1,fun _=>(htm _ za).2,fun _=>by omega,by omega,fun h=>by omega,rfl,rfl⟩
  case hL=>subst hkk;exact zi
  case hR=>exact Jc _
theorem J2e (c:Nat) (x:Arr Int) (k:Nat) (n:Int) (R:List Sl) (hx:CodesR x R) (hk:k≤x.l.length) (hn:n≤1000000):
    Tri Tryz.prog 20 [.pointer (some ⟨c, 0, none⟩), .int .i64 n].toArray [cblk c x k] R
      (fun v L' R'=>∃(r:Int) (k':Nat),v=.int .i64 r∧0≤r∧(1≤n→r < n)∧(n < 1→r=0)∧k'≤x.l.length∧[cblk c x k']=L'∧R=R'):=
  (U6b c x k n R hx hk hn).mono fun v L' R' ⟨r,k',h1,h2,h3,h4,h5,_,h6,h7⟩=>⟨r,k',h1,h2,h3,h4,h5,h6,h7⟩
theorem Z1b (c:Nat) (x:Arr Int) (k:Nat) (lo hi:Int) (R:List Sl) (hx:CodesR x R) (hk:k≤x.l.length) (hl:-400000≤lo∧lo≤hi∧hi≤400000):
    Tri Tryz.prog 73 [.pointer (some ⟨c, 0, none⟩), .int .i64 lo, .int .i64 hi].toArray [cblk c x k] R
      (fun v L' R'=>∃(r:Int) (k':Nat),v=.int .i64 r∧lo≤r∧r≤hi∧k'≤x.l.length∧(x.l.length≤k→r=lo∧k'=k)∧[cblk c x k']=L'∧R=R'):=by
  refine Jg 15 Tryz.call73 Tryz.func73 rfl rfl rfl ?_
  refine Xab ?_
  refine Xde ?_
  refine qa6 ?_
  refine Xbh ?_
  refine qa9 ?_
  refine qar ?_
  refine Js rfl (U6b c x k (hi - lo + 1) _ hx hk za) rfl ?_
  rintro v L' R' ⟨r,k',rfl,h1,h2,h3,hk',he,rfl,rfl⟩
  have h4:=h2 za
  refine qar ?_
  refine Xah ?_
  refine q_i (L':=[cblk c x k']) (R':=R) ?_
  exact ⟨_,k',rfl,by omega,by omega,hk',fun h=>by have:=he h;omega,rfl,rfl⟩
theorem Ztd (c:Nat) (x:Arr Int) (k:Nat) (lo hi:Int) (R:List Sl) (hx:CodesR x R) (hk:k≤x.l.length) (hl:-400000≤lo∧lo≤hi∧hi≤400000):
    Tri Tryz.prog 73 [.pointer (some ⟨c, 0, none⟩), .int .i64 lo, .int .i64 hi].toArray [cblk c x k] R
      (fun v L' R'=>∃(r:Int) (k':Nat),v=.int .i64 r∧lo≤r∧r≤hi∧k'≤x.l.length∧[cblk c x k']=L'∧R=R'):=
  (Z1b c x k lo hi R hx hk hl).mono fun v L' R' ⟨r,k',h1,h2,h3,h5,_,h6,h7⟩=>⟨r,k',h1,h2,h3,h5,h6,h7⟩
abbrev Vda (x:Arr Int) (k:Nat):List Value:=[x.val,.int .i64 (k:Int)]
theorem Kfc {c:Nat} {x:Arr Int} {k:Nat} {n:Int} {L:List Blk} {F:List Value→List Blk} {R:List Sl} (hu:USeg c (Vda x k) 168 L F) (hx:CodesR x R) (hk:k≤x.l.length) (hn:n≤1000000):
    Tri Tryz.prog 20 [.pointer (some ⟨c, 0, none⟩), .int .i64 n].toArray L R
      (fun v L' R'=>∃(r:Int) (k':Nat),v=.int .i64 r∧0≤r∧(1≤n→r < n)∧(n < 1→r=0)∧k'≤x.l.length∧F (Vda x k')=L'∧R=R'):=
  (Tri.at1 (Post' := fun v cs' R' => ∃ (r : Int) (k' : Nat), v = .int .i64 r ∧ 0 ≤ r ∧ (1 ≤ n → r < n) ∧ (n < 1 → r = 0) ∧ k' ≤ x.l.length ∧ cs' = Vda x k' ∧ R = R') hu (J2e c x k n R hx hk hn)
    (fun v L' R' ⟨r,k',h1,h2,h3,h4,h5,h6,h7⟩=>⟨_,h6,r,k',h1,h2,h3,h4,h5,rfl,h7⟩)).mono
    (fun v L' R' ⟨cs',h0,r,k',h1,h2,h3,h4,h5,h6,h7⟩=>⟨r,k',h1,h2,h3,h4,h5,by rw [← h6];exact h0,h7⟩)
theorem K3f {c:Nat} {x:Arr Int} {k:Nat} {n:Int} {L:List Blk} {F:List Value→List Blk} {R:List Sl} (hu:USeg c (Vda x k) 168 L F) (hx:CodesR x R) (hk:k≤x.l.length) (hn:n≤1000000):
    Tri Tryz.prog 20 [.pointer (some ⟨c, 0, none⟩), .int .i64 n].toArray L R
      (fun v L' R'=>∃(r:Int) (k':Nat),v=.int .i64 r∧0≤r∧(1≤n→r < n)∧(n < 1→r=0)∧k'≤x.l.length∧(x.l.length≤k→r=0∧k'=k)∧F (Vda x k')=L'∧R=R'):=
  (Tri.at1 (Post' := fun v cs' R' => ∃ (r : Int) (k' : Nat), v = .int .i64 r ∧ 0 ≤ r ∧ (1 ≤ n → r < n) ∧ (n < 1 → r = 0) ∧ k' ≤ x.l.length ∧ (x.l.length ≤ k → r = 0 ∧ k' = k) ∧ cs' = Vda x k' ∧ R = R') hu (U6b c x k n R hx hk hn)
    (fun v L' R' ⟨r,k',h1,h2,h3,h4,h5,he,h6,h7⟩=>⟨_,h6,r,k',h1,h2,h3,h4,h5,he,rfl,h7⟩)).mono
    (fun v L' R' ⟨cs',h0,r,k',h1,h2,h3,h4,h5,he,h6,h7⟩=>⟨r,k',h1,h2,h3,h4,h5,he,by rw [← h6];exact h0,h7⟩)
theorem Jsf {c:Nat} {x:Arr Int} {k:Nat} {lo hi:Int} {L:List Blk} {F:List Value→List Blk} {R:List Sl} (hu:USeg c (Vda x k) 168 L F) (hx:CodesR x R) (hk:k≤x.l.length) (hl:-400000≤lo∧lo≤hi∧hi≤400000):
    Tri Tryz.prog 73 [.pointer (some ⟨c, 0, none⟩), .int .i64 lo, .int .i64 hi].toArray L R
      (fun v L' R'=>∃(r:Int) (k':Nat),v=.int .i64 r∧lo≤r∧r≤hi∧k'≤x.l.length∧F (Vda x k')=L'∧R=R'):=
  (Tri.at1 (Post' := fun v cs' R' => ∃ (r : Int) (k' : Nat), v = .int .i64 r ∧ lo ≤ r ∧ r ≤ hi ∧ k' ≤ x.l.length ∧ cs' = Vda x k' ∧ R = R') hu (Ztd c x k lo hi R hx hk hl)
    (fun v L' R' ⟨r,k',h1,h2,h3,h5,h6,h7⟩=>⟨_,h6,r,k',h1,h2,h3,h5,rfl,h7⟩)).mono
    (fun v L' R' ⟨cs',h0,r,k',h1,h2,h3,h5,h6,h7⟩=>⟨r,k',h1,h2,h3,h5,by rw [← h6];exact h0,h7⟩)
theorem Jfd {c:Nat} {x:Arr Int} {k:Nat} {lo hi:Int} {L:List Blk} {F:List Value→List Blk} {R:List Sl} (hu:USeg c (Vda x k) 168 L F) (hx:CodesR x R) (hk:k≤x.l.length) (hl:-400000≤lo∧lo≤hi∧hi≤400000):
    Tri Tryz.prog 73 [.pointer (some ⟨c, 0, none⟩), .int .i64 lo, .int .i64 hi].toArray L R
      (fun v L' R'=>∃(r:Int) (k':Nat),v=.int .i64 r∧lo≤r∧r≤hi∧k'≤x.l.length∧(x.l.length≤k→r=lo∧k'=k)∧F (Vda x k')=L'∧R=R'):=
  (Tri.at1 (Post' := fun v cs' R' => ∃ (r : Int) (k' : Nat), v = .int .i64 r ∧ lo ≤ r ∧ r ≤ hi ∧ k' ≤ x.l.length ∧ (x.l.length ≤ k → r = lo ∧ k' = k) ∧ cs' = Vda x k' ∧ R = R') hu (Z1b c x k lo hi R hx hk hl)
    (fun v L' R' ⟨r,k',h1,h2,h3,h5,he,h6,h7⟩=>⟨_,h6,r,k',h1,h2,h3,h5,he,rfl,h7⟩)).mono
    (fun v L' R' ⟨cs',h0,r,k',h1,h2,h3,h5,he,h6,h7⟩=>⟨r,k',h1,h2,h3,h5,he,by rw [← h6];exact h0,h7⟩)
end Go.Proofs.YtchfclmokpbldaaGreat
end
