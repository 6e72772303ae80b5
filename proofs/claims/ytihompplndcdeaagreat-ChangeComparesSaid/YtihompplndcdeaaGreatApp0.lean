import Derived.Test.YtihompplndcdeaaGreatChangeS
import Derived.Test.YtihompplndcdeaaGreatData
import Derived.Test.YtihompplndcdeaaGreatOwn
section
/-
  The search for an order of steps. Plain. By an AI agent; no person has read it.
-/
namespace Go.Proofs.YtihompplndcdeaaGreat
open Go.Aw Go
def Jjp (l:List XDoor) (st:List Int) (door state:Int):Int:=
  if Jb1 l≠0 then Jb1 l else if st.length≠l.length then 11 else if door < 0∨(l.length:Int)≤door then 15
  else if state < 0∨((l.getD door.toNat default).rests.l.length:Int)≤state then 1
  else if state≠0∧0≤(l.getD door.toNat default).other∧st.getD (l.getD door.toNat default).other.toNat 0≠0 then 10 else 0
abbrev Sts:=List Int×List Int
def mkS (s:Sts):XSetting:=⟨⟨none,0,s.1⟩,⟨none,0,s.2⟩⟩
abbrev Jaj (s:XSetting):Sts:=(s.fans.l,s.doors.l)
def flS (a:XAir) (A:List Bool) (s:Sts):List XSpan:=(Jgi a (mkS s) A).2
def J8q (a:XAir) (A:List Bool) (K:List XSpan→List Int) (fc:List XFace) (s s':Sts):XVerd:=
  Jzq a.mine (flS a A s) a.mine (flS a A s') fc A A (K (flS a A s)) (K (flS a A s'))
def Jja (t s:Sts) (k:Int):Sts:=if k < s.1.length then (s.1.set k.toNat (t.1.getD k.toNat 0),s.2) else (s.1,s.2.set (k - s.1.length).toNat (t.2.getD (k - s.1.length).toNat 0))
def Jst (D:List XDoor) (t s:Sts) (k:Int):Bool:=decide (k < s.1.length) || decide (t.2.getD (k - s.1.length).toNat 0= -1) || decide (Jjp D s.2 (k - s.1.length) (t.2.getD (k - s.1.length).toNat 0)=0)
def nxS (a:XAir) (A:List Bool) (K:List XSpan→List Int) (fc:List XFace) (t s:Sts) (k:Int):Option Sts:=
  if Jst a.doors.l t s k=true then (if (J8q a A K fc s (Jja t s k)).quiet=true then some (Jja t s k) else none) else none
def Jl3 (nx:Sts→Int→Option Sts) (go:Sts→List Int→Option (List Int)) (s:Sts) (left:List Int) (i:Nat):Option (List Int):=
  (nx s (left.getD i 0)).bind fun s'=>(go s' (left.eraseIdx i)).map (left.getD i 0 :: ·)
def Jpg (nx : Sts → Int → Option Sts) : Nat → Sts → List Int → Option (List Int)
  | 0,_,left=>if left=[] then some [] else none
  | n + 1,s,left=>if left=[] then some [] else (List.range left.length).findSome? (Jl3 nx (Jpg nx n) s left)
def Jfg (nx:Sts→Int→Option Sts) (s:Sts) (left:List Int):Option (List Int):=Jpg nx left.length s left
theorem Jkx {nx:Sts→Int→Option Sts} {s:Sts}:Jfg nx s []=some []:=rfl
theorem Jg8 {nx:Sts→Int→Option Sts} {s:Sts} {left:List Int} (h:left≠[]):Jfg nx s left=(List.range left.length).findSome? (Jl3 nx (Jfg nx) s left):=by
  obtain ⟨n,hn⟩:∃n,left.length=n + 1:=⟨left.length - 1,by have:=List.length_pos_iff.2 h;omega⟩
  rw [Jfg,hn,Jpg,if_neg h,hn]
  have key:∀l:List Nat,(∀i∈l,i < n + 1)→l.findSome? (Jl3 nx (Jpg nx n) s left)=l.findSome? (Jl3 nx (Jfg nx) s left):=by
    intro l
    induction l with
    | nil=>intro _;rfl
    | cons i r ih=>
      intro hl
      have hi:=hl i (by simp)
      have e:Jl3 nx (Jpg nx n) s left i=Jl3 nx (Jfg nx) s left i:=by
        rw [Jl3,Jl3]
        congr 1
        funext s'
        rw [Jfg,List.length_eraseIdx,if_pos (by omega),hn]
        rfl
      rw [List.findSome?_cons,List.findSome?_cons,e,ih (fun j hj=>hl j (by simp [hj]))]
  exact key _ (fun i hi=>List.mem_range.1 hi)
theorem Jq3 {nx : Sts → Int → Option Sts} : ∀ (n : Nat) {s : Sts} {left r : List Int}, left.length = n → Jfg nx s left = some r → r.length = n
  | 0,s,left,r,hn,h=>by
    rw [List.eq_nil_of_length_eq_zero hn,Jkx] at h
    cases h;rfl
  | n + 1,s,left,r,hn,h=>by
    rw [Jg8 (by intro e;rw [e] at hn;cases hn)] at h
    obtain ⟨i,hi,h1⟩:=List.exists_of_findSome?_eq_some h
    rw [List.mem_range] at hi
    rw [Jl3] at h1
    cases h2:nx s (left.getD i 0) with
    | none=>rw [h2] at h1;cases h1
    | some s'=>
      rw [h2,Option.bind_some] at h1
      cases h3:Jfg nx s' (left.eraseIdx i) with
      | none=>rw [h3] at h1;cases h1
      | some r'=>
        rw [h3,Option.map_some] at h1
        cases h1
        have:=Jq3 n (by rw [List.length_eraseIdx,if_pos hi,hn];rfl) h3
        simp [this]
def Jsh (s t:List Int) (i:Nat):Bool:=decide (s.getD i 0≠t.getD i 0)
def Jn5 (s t:Sts):List Int:=Jms (Jsh s.1 t.1) s.1.length ++ (Jms (Jsh s.2 t.2) s.2.length).map (fun k=>(s.1.length:Int) + k)
def Jyj (a:XAir) (s t:XSetting) (fc:List XFace) (A:List Bool) (K:List XSpan→List Int):Int×List Int:=
  if Ja4 a≠0 then (Ja4 a,[]) else if Jdq a s=false∨Jdq a t=false then (21,[]) else if 3 < (Jn5 (Jaj s) (Jaj t)).length then (2,[])
  else match Jfg (nxS a A K fc (Jaj t)) (Jaj s) (Jn5 (Jaj s) (Jaj t)) with
    | some r=>(0,r)
    | none=>(13,[])
def Jmp (a:XAir) (s t:XSetting):List Int:=if Jdn a s=true∧Jdn a t=true then Jn5 (Jaj s) (Jaj t) else []
def Jc7 : List Int → Nat → List Int
  | [],_=>[]
  | k :: r,d=>if d % 2=1 then Jc7 r (d / 2) else k :: Jc7 r (d / 2)
def Jkw (t : Sts) : List Int → Nat → Sts → Sts
  | [],_,s=>s
  | k :: r,d,s=>Jkw t r (d / 2) (if d % 2=1 then Jja t s k else s)
def Jm0 (d i:Nat):Bool:=decide (d / 2 ^ i % 2=1)
theorem Jtg : ∀ (l : List Int) (d : Nat), (Jc7 l d).length ≤ l.length
  | [],_=>Nat.le_refl _
  | k :: r,d=>by
    have:=Jtg r (d / 2)
    rw [Jc7]
    split
    · simp;omega
    · simp;omega
theorem Jq0 : ∀ l : List Int, Jc7 l 0 = l
  | []=>rfl
  | k :: r=>by rw [Jc7,if_neg (by decide),Nat.zero_div,Jq0 r]
theorem Jtr (t : Sts) : ∀ (l : List Int) (s : Sts), Jkw t l 0 s = s
  | [],_=>rfl
  | k :: r,s=>by rw [Jkw,if_neg (by decide),Nat.zero_div,Jtr t r]
theorem Jk9 {d i:Nat}:Jm0 d (i + 1)=Jm0 (d / 2) i:=by
  rw [Jm0,Jm0,Nat.pow_succ,Nat.mul_comm,← Nat.div_div_eq_div_mul]
theorem Jv9 {d i:Nat}:(d + 2 ^ (i + 1)) / 2=d / 2 + 2 ^ i∧(d + 2 ^ (i + 1)) % 2=d % 2:=by
  rw [Nat.pow_succ];omega
theorem Jnh (t s:Sts) (k:Int):(Jja t s k).1.length=s.1.length∧(Jja t s k).2.length=s.2.length:=by
  rw [Jja]
  split <;> simp
theorem Jy7 (t s:Sts) (k k':Int):Jja t (Jja t s k) k'=Jja t (Jja t s k') k:=by
  have h1:=(Jnh t s k).1
  have h2:=(Jnh t s k').1
  have sw:∀(l u:List Int) (i j:Nat),(l.set i (u.getD i 0)).set j (u.getD j 0)=(l.set j (u.getD j 0)).set i (u.getD i 0):=by
    intro l u i j
    by_cases h:i=j
    · subst h;rfl
    · exact List.set_comm _ _ h
  unfold Jja at h1 h2 ⊢
  by_cases a:k < s.1.length <;> by_cases b:k' < s.1.length <;> simp only [a,b,if_true,if_false,List.length_set,sw]
theorem Jr0 (t : Sts) : ∀ (l : List Int) (d : Nat) (s : Sts) (k : Int), Jkw t l d (Jja t s k) = Jja t (Jkw t l d s) k
  | [],_,_,_=>rfl
  | x :: r,d,s,k=>by
    rw [Jkw,Jkw]
    split
    · rw [Jy7,Jr0 t r]
    · rw [Jr0 t r]
theorem Jwd (t : Sts) : ∀ (l : List Int) (d i : Nat) (s : Sts), i < l.length → Jm0 d i = false → Jkw t l (d + 2 ^ i) s = Jja t (Jkw t l d s) (l.getD i 0)
  | [],_,_,_,h,_=>absurd h (by simp)
  | k :: r,d,0,s,_,hb=>by
    have hb':d % 2=0:=by simp [Jm0] at hb;omega
    rw [Jkw,Jkw,if_pos (by omega),if_neg (by omega),show (d + 2 ^ 0) / 2=d / 2 by omega,Jr0]
    rfl
  | k :: r,d,i + 1,s,h,hb=>by
    obtain ⟨e1,e2⟩:=Jv9 (d:=d) (i:=i)
    rw [Jkw,Jkw,e1,e2]
    exact Jwd t r (d / 2) i _ (by simpa using h) (by rw [← Jk9];exact hb)
def Jrg : Nat → Nat → Nat
  | 0,_=>0
  | i + 1,d=>(if d % 2=1 then 0 else 1) + Jrg i (d / 2)
theorem Jo7 : ∀ (i d : Nat), Jrg (i + 1) d = Jrg i d + if Jm0 d i = true then 0 else 1
  | 0,d=>by simp [Jrg,Jm0]
  | i + 1,d=>by
    rw [Jrg,Jo7 i (d / 2),Jrg,Jk9]
    omega
theorem Jw0 : ∀ (l : List Int) (d : Nat), Jrg l.length d = (Jc7 l d).length
  | [],_=>rfl
  | k :: r,d=>by
    rw [List.length_cons,Jrg,Jc7,Jw0 r]
    split
    · simp
    · simp;omega
theorem Jnb : ∀ (l : List Int) (d i : Nat), i < l.length → Jm0 d i = false → Jrg i d < (Jc7 l d).length ∧ (Jc7 l d).getD (Jrg i d) 0 = l.getD i 0 ∧ (Jc7 l d).eraseIdx (Jrg i d) = Jc7 l (d + 2 ^ i)
  | [],_,_,h,_=>absurd h (by simp)
  | k :: r,d,0,_,hb=>by
    have hb':d % 2=0:=by simp [Jm0] at hb;omega
    rw [Jc7,if_neg (by omega),Jc7,if_pos (by omega),show (d + 2 ^ 0) / 2=d / 2 by omega,Jrg]
    exact ⟨by simp,rfl,rfl⟩
  | k :: r,d,i + 1,h,hb=>by
    obtain ⟨e1,e2⟩:=Jv9 (d:=d) (i:=i)
    obtain ⟨h1,h2,h3⟩:=Jnb r (d / 2) i (by simpa using h) (by rw [← Jk9];exact hb)
    rw [Jc7,Jc7,e1,e2,Jrg]
    by_cases hd:d % 2=1
    · rw [if_pos hd, if_pos hd, if_pos hd, Nat.zero_add]
      exact ⟨h1,h2,h3⟩
    · rw [if_neg hd, if_neg hd, if_neg hd, Nat.add_comm]
      exact ⟨by simp;exact h1,by simpa using h2,by simpa using h3⟩
theorem Jp6 : ∀ (l : List Int) (d : Nat), d < 2 ^ l.length → (Jc7 l d = [] ↔ d = 2 ^ l.length - 1)
  | [],d,h=>by simp at h;simp [Jc7,h]
  | k :: r,d,h=>by
    rw [List.length_cons,Nat.pow_succ] at h ⊢
    have ih:=Jp6 r (d / 2) (by omega)
    have hp:0 < 2 ^ r.length:=Nat.pow_pos (by decide)
    rw [Jc7]
    split
    · rw [ih];omega
    · refine ⟨fun h => (by cases h), fun h => ?_⟩
      omega
theorem Jp4 : ∀ (n d i : Nat), d < 2 ^ n → i < n → Jm0 d i = false → d + 2 ^ i < 2 ^ n
  | 0,_,_,_,h,_=>absurd h (by omega)
  | n + 1,d,0,h,_,hb=>by
    have hb':d % 2=0:=by simp [Jm0] at hb;omega
    rw [Nat.pow_succ] at h ⊢
    omega
  | n + 1,d,i + 1,h,hi,hb=>by
    have:=Jp4 n (d / 2) i (by rw [Nat.pow_succ] at h;omega) (by omega) (by rw [← Jk9];exact hb)
    rw [Nat.pow_succ] at h ⊢
    rw [Nat.pow_succ] 
    omega
theorem Jo8 {nx : Sts → Int → Option Sts} {s : Sts} {l : List Int} {d i : Nat} {X : Option (List Int)} (hi : i < l.length) (hb : Jm0 d i = false)
    (h:X=((List.range (Jc7 l d).length).drop (Jrg i d)).findSome? (Jl3 nx (Jfg nx) s (Jc7 l d))) (hn:Jl3 nx (Jfg nx) s (Jc7 l d) (Jrg i d)=none):
    X=((List.range (Jc7 l d).length).drop (Jrg (i + 1) d)).findSome? (Jl3 nx (Jfg nx) s (Jc7 l d)):=by
  obtain ⟨h1,_,_⟩:=Jnb l d i hi hb
  rw [h,Jo7,if_neg (by rw [hb];decide),Jd2 (Jhd h1),List.findSome?_cons,hn]
theorem J6j {nx:Sts→Int→Option Sts} {s:Sts} {l:List Int} {d i:Nat} (hi:i < l.length) (hb:Jm0 d i=false):
    Jl3 nx (Jfg nx) s (Jc7 l d) (Jrg i d)=(nx s (l.getD i 0)).bind fun s'=>(Jfg nx s' (Jc7 l (d + 2 ^ i))).map (l.getD i 0 :: ·):=by
  obtain ⟨_,h2,h3⟩:=Jnb l d i hi hb
  rw [Jl3,h2,h3]
end Go.Proofs.YtihompplndcdeaaGreat
end
section
/-
  What is known of the air does not hang on where its lists lie. Plain. By an AI agent; no person has read it.
-/
namespace Go.Proofs.YtihompplndcdeaaGreat
open Go.Aw Go
def J41 (f:XFan):XFan:=⟨f.road,f.back,f.aux,⟨none,0,f.curve.l⟩⟩
def Jrz (d:XDoor):XDoor:=⟨d.road,d.other,⟨none,0,d.rests.l⟩⟩
def J3u (m:XMine):XMine:=⟨⟨none,0,m.places.l⟩,⟨none,0,m.roads.l⟩⟩
def Jii (a:XAir):XAir:=⟨J3u a.mine,⟨none,0,a.fans.l.map J41⟩,⟨none,0,a.doors.l.map Jrz⟩⟩
abbrev Jsx (s:XSetting):XSetting:=mkS (Jaj s)
theorem Jry {α β:Type} {f:α→β} {l:List α} {k:Nat} {d:α} {e:β} (h:f d=e):(l.map f).getD k e=f (l.getD k d):=by
  rw [List.getD_eq_getElem?_getD,List.getD_eq_getElem?_getD,List.getElem?_map]
  cases l[k]? with
  | none=>exact h.symm
  | some x=>rfl
theorem J24 (a:XAir) (k:Nat):(Jii a).fans.l.getD k default=J41 (a.fans.l.getD k default):=Jry rfl
theorem Jzv (a:XAir) (k:Nat):(Jii a).doors.l.getD k default=Jrz (a.doors.l.getD k default):=Jry rfl
theorem Jpi (a : XAir) (s : XSetting) (r : Int) : ∀ k, Jb4 (Jii a) (Jsx s) r k = Jb4 a s r k
  | 0=>rfl
  | k + 1=>by rw [Jb4,Jb4,Jpi a s r k,Jzv];rfl
theorem Jmr (a : XAir) (s : XSetting) (r q : Int) : ∀ k, innerTo (Jii a) (Jsx s) r q k = innerTo a s r q k
  | 0=>by rw [innerTo,innerTo,Jpi,show (Jii a).doors.l.length=a.doors.l.length from List.length_map _];rfl
  | k + 1=>by rw [innerTo,innerTo,Jmr a s r q k,J24];rfl
theorem Jyk (a:XAir) (s:XSetting):Jbr (Jii a) (Jsx s)=Jbr a s:=by
  funext r q
  rw [Jbr,Jbr,Jmr,show (Jii a).fans.l.length=a.fans.l.length from List.length_map _]
theorem Js8 (l:List XDoor):Je5 (l.map Jrz)=Je5 l:=by
  funext i
  rw [Je5,Je5,List.getElem?_map]
  cases l[i]? with
  | none=>rfl
  | some d=>
    have hp:Jj1 (l.map Jrz) i (Jrz d)↔Jj1 l i d:=by
      unfold Jj1
      simp only [List.length_map,Jry (f:=Jrz) (l:=l) (d:=default) (e:=default) rfl]
      exact Iff.rfl
    simp only [Option.map_some,hp]
    rfl
theorem Jre (l:List XDoor):Jb1 (l.map Jrz)=Jb1 l:=by rw [Jb1,Jb1,Js8,List.length_map]
theorem Ju0 (a:XAir):Ja4 (Jii a)=Ja4 a:=by
  have h1:(Jii a).fans.l=a.fans.l.map J41:=rfl
  have h2:(Jii a).doors.l=a.doors.l.map Jrz:=rfl
  have h3:(Jii a).mine=J3u a.mine:=rfl
  have h4:Jbv (J3u a.mine)=Jbv a.mine:=rfl
  rw [Ja4,Ja4,h1,h2,h3,h4,Jre,List.length_map,List.findSome?_map,List.findSome?_map]
  rfl
theorem Jy2 (a:XAir) (s:XSetting):Jdq (Jii a) (Jsx s)=Jdq a s:=by
  have h1:(Jii a).fans.l.length=a.fans.l.length:=List.length_map _
  have h2:(Jii a).doors.l.length=a.doors.l.length:=List.length_map _
  have h3:Jds (Jii a).doors.l (Jsx s).doors.l=Jds a.doors.l s.doors.l:=by
    funext i
    show Jds (a.doors.l.map Jrz) s.doors.l i=_
    rw [Jds,Jds,List.getElem?_map]
    cases s.doors.l[i]? <;> cases a.doors.l[i]? <;> rfl
  rw [Jdq,Jdq,h1,h2,h3]
  rfl
section
variable {a a':XAir} {s s':XSetting}
structure AirE (a a':XAir) (s s':XSetting):Prop where
  mine:a.mine.places.l=a'.mine.places.l∧a.mine.roads.l=a'.mine.roads.l
  inner:Jbr a s=Jbr a' s'
  err:Ja4 a=Ja4 a'
  fit:Jdq a s=Jdq a' s'
variable (h:AirE a a' s s')
include h
theorem AirE.term (F G:(Int→XSpan)→Int→Int):Jg6 F G a s=Jg6 F G a' s':=by
  funext ps v k
  rw [Jg6,Jg6,Je1,Je1,h.inner,h.mine.2]
theorem AirE.sum (F G : (Int → XSpan) → Int → Int) (ps : List Int) (v : Int) : ∀ k, Joa F G a s ps v k = Joa F G a' s' ps v k
  | 0=>rfl
  | k + 1=>by rw [Joa,Joa,AirE.sum F G ps v k,h.term]
theorem AirE.low:Jps a s=Jps a' s':=by
  funext ps v
  rw [Jps,Jps,h.sum,h.mine.2]
theorem AirE.high:Jg3 a s=Jg3 a' s':=by
  funext ps v
  rw [Jg3,Jg3,h.sum,h.mine.2]
theorem AirE.test (up:Bool) (l:List Int):Jrq a s up l=Jrq a' s' up l:=by
  funext v q
  rw [Jrq,Jrq]
  unfold Juc Jjm
  rw [h.low,h.high]
theorem AirE.next (up:Bool):Jet a s up=Jet a' s' up:=by
  funext l k
  rw [Jet,Jet,h.test]
theorem AirE.fix (A:List Bool):Jlc a A=Jlc a' A:=by
  funext k
  rw [Jlc,Jlc,h.mine.1]
theorem AirE.sweep (A : List Bool) (up : Bool) (l : List Int) : ∀ k, Jck a s A up l k = Jck a' s' A up l k
  | 0=>rfl
  | k + 1=>by rw [Jck,Jck,AirE.sweep A up l k,h.fix,h.next]
theorem AirE.rounds (A : List Bool) (up : Bool) : ∀ n l, Jcv a s A up n l = Jcv a' s' A up n l
  | 0,_=>rfl
  | n + 1,l=>by
    rw [Jcv,Jcv,h.sweep,h.mine.1]
    cases Jck a' s' A up l a'.mine.places.l.length with
    | none=>rfl
    | some m=>dsimp only;rw [AirE.rounds A up n m]
theorem AirE.start (ps:List Int) (A:List Bool):Jch a s ps A=Jch a' s' ps A:=by
  have e:Jdc a ps A=Jdc a' ps A:=by
    funext i
    rw [Jdc,Jdc,h.fix]
  rw [Jch,Jch,h.err,h.fit,h.mine.1,e]
theorem AirE.relax (A:List Bool) (up:Bool) (ps:List Int):Jbj a s A up ps=Jbj a' s' A up ps:=by
  rw [Jbj,Jbj,h.start,h.rounds]
theorem AirE.solve (A:List Bool):Jc1 a s A=Jc1 a' s' A:=by
  have e:Jbj a s A=Jbj a' s' A:=by
    funext up ps
    exact h.relax A up ps
  rw [Jc1,Jc1,e,h.mine.1]
theorem AirE.check (b:XBounds) (A:List Bool):Jdb a s b A=Jdb a' s' b A:=by
  have e:Jcp a s b A=Jcp a' s' b A:=by
    funext i
    rw [Jcp,Jcp,h.low,h.high,h.mine.1]
  rw [Jdb,Jdb,h.err,h.fit,h.mine.1,e]
theorem AirE.flows (b:XBounds) (A:List Bool):Jb5 a s b A=Jb5 a' s' b A:=by
  have e:Jb2 a s b A=Jb2 a' s' b A:=by
    funext k
    rw [Jb2,Jb2,h.inner,h.mine.2]
  rw [Jb5,Jb5,h.check,h.mine.2,e]
theorem AirE.ana (A:List Bool):Jgi a s A=Jgi a' s' A:=by
  have e:Jer a=Jer a':=by
    funext k
    rw [Jer,Jer,h.mine.2]
  rw [Jgi,Jgi,h.err,h.fit,Jig,Jig,h.solve,h.flows,h.mine.2,e]
end
theorem AirE.bare (a:XAir) (s:XSetting):AirE (Jii a) a (Jsx s) s:=⟨⟨rfl,rfl⟩,Jyk a s,Ju0 a,Jy2 a s⟩
theorem AirE.symm {a a':XAir} {s s':XSetting} (h:AirE a a' s s'):AirE a' a s' s:=⟨⟨h.mine.1.symm,h.mine.2.symm⟩,h.inner.symm,h.err.symm,h.fit.symm⟩
theorem AirE.trans {a a' a'':XAir} {s s' s'':XSetting} (h:AirE a a' s s') (k:AirE a' a'' s' s''):AirE a a'' s s'':=⟨⟨h.mine.1.trans k.mine.1,h.mine.2.trans k.mine.2⟩,h.inner.trans k.inner,h.err.trans k.err,h.fit.trans k.fit⟩
theorem AirE.of {a a':XAir} {s s':XSetting} (h1:Jii a=Jii a') (h2:Jaj s=Jaj s'):AirE a a' s s':=by
  have e1:=(AirE.bare a s).symm
  have e2:=AirE.bare a' s'
  rw [h1,show Jsx s=Jsx s' from congrArg mkS h2] at e1
  exact e1.trans e2
theorem J4w (a:XAir) {s s':XSetting} (A:List Bool) (h:Jaj s=Jaj s'):Jgi a s A=Jgi a s' A:=(AirE.of rfl h).ana A
theorem Jox (a:XAir) {s s':XSetting} (h:Jaj s=Jaj s'):Jdq a s=Jdq a s':=(AirE.of rfl h).fit
theorem Jzf (a:XAir) (s:XSetting) (A:List Bool):flS a A (Jaj s)=(Jgi a s A).2:=by rw [flS,J4w a (s:=mkS (Jaj s)) (s':=s) A rfl]
end Go.Proofs.YtihompplndcdeaaGreat
end
section
/-
  Appending nothing. By an AI agent; no person has read it.
-/
namespace Go.Proofs.YtihompplndcdeaaGreat
open Go.Aw Go
theorem Jno {P:Program} (w:World) (t ty e:TypeId) (i:TypeInfo) (ht:P.underlying t=some (.slice e)) (hi:P.info? e=some i) (b off sLen sCap:Nat) (a:Option Addr) (c:Nat) (hl:sLen≤sCap):
    (Builtin.append_ #[t,t] ty #[.slice (some ⟨b,off,none⟩) sLen sCap,.slice a 0 c]).run P w=.ok (.slice (some ⟨b,off,none⟩) sLen sCap) w:=by
  have hst:=run_storeCells_cells (P:=P) b (off + sLen * i.size) [] 0 w (by simp) (by simp) (by simp)
  cases a with
  | none=>simp [Builtin.append_,run_underlying ht,sizeOf,typeInfo,hi,Builtin.lenOf,hl,Builtin.firstCells,storeCells]
  | some a=>
    have hf:=run_firstCells_some (P:=P) w i.size 0 a 0 c [] (by simp) (by simp)
    simp [Builtin.append_,run_underlying ht,sizeOf,typeInfo,hi,Builtin.lenOf,hl,hf,storeCells]
section
variable {P:Program} {ρ:Operand→Value} {L:List Blk} {R:List Sl} {dst:Option Tmp} {ty:TypeId} {pos:String} {after:Array Edge} {guard:Option (Nat×Bool)} (tb:Tabs P) {T:TypeId} {x y:Operand}
theorem Jlu {e n fl bt z k2 n2 fl2 bt2 z2} {b sLen sCap c:Nat} {ar:Option Addr} (hT:Jee tb.tab T=some ⟨.slice e,n,fl,bt,z⟩) (hE:Jee tb.tab e=some ⟨k2,n2,fl2,bt2,z2⟩) (hx:ρ x=.slice (some ⟨b,0,none⟩) sLen sCap) (hy:ρ y=.slice ar 0 c) (hl:sLen≤sCap):
    Gives P ⟨dst,.call ⟨.builtin .append,#[x,y],#[T,T]⟩,ty,pos,after,guard⟩ ρ L R (fun v L' R'=>v=.slice (some ⟨b,0,none⟩) sLen sCap∧L=L'∧R=R'):=by
  intro c1 w hst a next Q kk
  have hu:=Jdj (tb.ok _ _ hT) rfl
  obtain ⟨ti,u,zv,i1,i2,i3,i4⟩:=Jc6 (tb.ok _ _ hE)
  have e1:execOp ρ ⟨dst,.call ⟨.builtin .append,#[x,y],#[T,T]⟩,ty,pos,after,guard⟩=(do pure (.value (← Builtin.append_ #[T,T] ty #[ρ x,ρ y]))):=by
    simp [execOp,resolve,invoke,builtin]
  have hr:=Jno w T ty e ti hu i1 b 0 sLen sCap ar c hl
  refine Jde (w':=w) (v:=.slice (some ⟨b,0,none⟩) sLen sCap) ?_ (kk _ _ _ w ⟨rfl,rfl,rfl⟩ hst)
  rw [e1,hx,hy]
  simp only [Sem.run_bind,hr,Result.andThen_ok,Sem.run_pure]
end
theorem Jsd {α : Type} {f : α → List Value} (h1 : ∀ x, (f x).all (·.oneCell') = true) : ∀ l : List α, (l.flatMap f).all (·.oneCell') = true
  | []=>rfl
  | x :: l=>by rw [List.flatMap_cons,List.all_append,h1 x,Jsd h1 l];rfl
theorem J2k {α:Type} {f:α→List Value} {wd:Nat} {T':TypeId} {q:OwL α} {L:List Blk} {R:List Sl} (hf:∀x,(f x).length=wd) (hok:q.ok wd f) (hin:InB (q.L T' f) L) (hm:0 < q.l.length):Jt2 L R q.val q.l.length wd (q.l.flatMap f):=by
  obtain ⟨g,cap,spare,ho⟩:=OwL.own_of hok hm
  refine ⟨⟨g,0,none⟩,cap,by rw [OwL.val,ho];rfl,Jcj hf q.l,fun c w hst j u hj=>?_⟩
  have hmem:(⟨g,q.l.flatMap f ++ spare,T'⟩:Blk)∈L:=hin _ (by rw [OwL.L,ho];simp [Ow.L])
  rw [Jf3,Nat.zero_add,Jhh hst hmem]
  rw [List.getElem?_append_left (List.getElem?_eq_some_iff.1 hj).1]
  exact hj
section
variable {P:Program} {ρ:Operand→Value} {L:List Blk} {R:List Sl} {dst:Option Tmp} {ty:TypeId} {pos:String} {after:Array Edge} {guard:Option (Nat×Bool)} (tb:Tabs P) {T:TypeId} {x y:Operand}
theorem Jsg {α : Type} {e n fl bt z k2 n2 fl2 bt2 z2} {f : α → List Value} (p q : OwL α) {T' : TypeId} {F : OwL α → List Blk} (hT : Jee tb.tab T = some ⟨.slice e, n, fl, bt, z⟩) (hE : Jee tb.tab e = some ⟨k2, n2, fl2, bt2, z2⟩) (hn2 : z2.length = n2)
    (hx:ρ x=p.val) (hy:ρ y=q.val) (hok:p.ok n2 f) (hokq:q.ok n2 f) (hf:∀x,(f x).length=n2) (hseg:OSeg e f p L F) (hB:InB (q.L T' f) L) (hm:0 < q.l.length) (h1:∀x,(f x).all (·.oneCell')=true) (hby:(p.l.length + q.l.length) * (bt2 + 1)≤140737488355328):
    Gives P ⟨dst,.call ⟨.builtin .append,#[x,y],#[T,T]⟩,ty,pos,after,guard⟩ ρ L R (fun v L' R'=>∃o:Ow,v=(⟨o,p.l ++ q.l⟩:OwL α).val∧(⟨o,p.l ++ q.l⟩:OwL α).ok n2 f∧F ⟨o,p.l ++ q.l⟩=L'∧R=R'):=by
  have hsh:Jt2 L R q.val q.l.length n2 (q.l.flatMap f):=J2k hf hokq hB hm
  rw [← hy] at hsh
  obtain ⟨A,B,hL,hF⟩:=hseg.split
  subst hL
  have hb1:(p.l.length + q.l.length) * bt2≤140737488355328:=Nat.le_trans (Nat.mul_le_mul_left _ (Nat.le_succ _)) hby
  have hb2:p.l.length + q.l.length≤140737488355328:=Nat.le_trans (Nat.le_mul_of_pos_right _ (Nat.succ_pos _)) hby
  have hx':ρ x=p.o.val p.l.length:=by rw [hx,Ow.val_of_ok hok];rfl
  have:=Jgu (dst:=dst) (ty:=ty) (pos:=pos) (after:=after) (guard:=guard) tb hT hE hn2 hx' hok (Ju8 A _ B) hsh hm (Jsd h1 _) (by omega) hb1
  intro c w hst ac next Q kk
  refine this c w hst ac next Q ?_
  rintro v L' R' w' ⟨g,cap,spare,rfl,hok',rfl,rfl⟩ hst'
  have e:p.l.flatMap f ++ q.l.flatMap f=(p.l ++ q.l).flatMap f:=by simp
  rw [e] at hok'
  have hl:(p.l ++ q.l).length=p.l.length + q.l.length:=by simp
  refine kk _ _ _ w' ⟨.own g cap spare,?_,?_,?_,rfl⟩ hst'
  · rw [OwL.val];dsimp only;rw [hl];rfl
  · rw [OwL.ok];dsimp only;rw [hl];exact hok'
  · rw [hF,OwL.L];dsimp only;rw [← e]
theorem Jlr {α : Type} {e n fl bt z k2 n2 fl2 bt2 z2} {f : α → List Value} (p q : OwL α) {T' : TypeId} {F : OwL α → List Blk} (hT : Jee tb.tab T = some ⟨.slice e, n, fl, bt, z⟩) (hE : Jee tb.tab e = some ⟨k2, n2, fl2, bt2, z2⟩) (hn2 : z2.length = n2)
    (hx:ρ x=p.val) (hy:ρ y=q.val) (hok:p.ok n2 f) (hokq:q.ok n2 f) (hf:∀x,(f x).length=n2) (hseg:OSeg e f p L F) (hB:InB (q.L T' f) L) (hm:0 < p.l.length) (h1:∀x,(f x).all (·.oneCell')=true) (hby:(p.l.length + q.l.length) * (bt2 + 1)≤140737488355328):
    Gives P ⟨dst,.call ⟨.builtin .append,#[x,y],#[T,T]⟩,ty,pos,after,guard⟩ ρ L R (fun v L' R'=>∃o:Ow,v=(⟨o,p.l ++ q.l⟩:OwL α).val∧(⟨o,p.l ++ q.l⟩:OwL α).ok n2 f∧F ⟨o,p.l ++ q.l⟩=L'∧R=R'):=by
  rcases Nat.eq_zero_or_pos q.l.length with h0 | h0
  · have hnil : q.l = [] := List.eq_nil_of_length_eq_zero h0
    obtain ⟨g,cap,spare,ho⟩:=OwL.own_of hok hm
    have hcap:p.l.length≤cap:=by
      rw [OwL.ok,ho] at hok
      exact hok.2.1
    have hy':ρ y=.slice q.o.addr 0 q.o.cap:=by rw [hy,OwL.val,h0]
    have hx':ρ x=.slice (some ⟨g,0,none⟩) p.l.length cap:=by rw [hx,OwL.val,ho];rfl
    have:=Jlu (L:=L) (R:=R) (dst:=dst) (ty:=ty) (pos:=pos) (after:=after) (guard:=guard) tb hT hE hx' hy' hcap
    obtain ⟨A,B,hL,hF⟩:=hseg.split
    intro c w hst ac next Q kk
    refine this c w hst ac next Q ?_
    rintro v L' R' w' ⟨rfl,rfl,rfl⟩ hst'
    rw [hnil,List.append_nil] at kk
    exact kk _ _ _ w' ⟨p.o,by rw [OwL.val,ho];rfl,hok,by rw [hF,hL],rfl⟩ hst'
  · exact Jsg tb p q hT hE hn2 hx hy hok hokq hf hseg hB h0 h1 hby
end
def J3e {γ : Type} (ws : List Nat) (t0 : Nat → Value) (hd : Head γ) (Q : Jbp) : Jbp
  | .normal,t,L,R=>∃g,Off ws t0 t∧Jih t (hd.slots g)∧(∃L1,L.Perm L1∧(hd.L g).Sublist L1)∧∀r∈hd.R g,InR r R
  | e,t,L,R=>Q e t L R
theorem Jbg {γ:Type} {ws:List Nat} {t0 t:Nat→Value} {L L1:List Blk} {R:List Sl} {hd:Head γ} {Q:Jbp} (g:γ) (ho:Off ws t0 t) (hs:Jih t (hd.slots g)) (hp:L.Perm L1) (hL:(hd.L g).Sublist L1) (hR:∀r∈hd.R g,InR r R):J3e ws t0 hd Q .normal t L R:=⟨g,ho,hs,⟨L1,hp,hL⟩,hR⟩
theorem Jrl {P n code t L L' R} {Q:Jbp} (hp:L.Perm L') (h:CJ P n code t L' R Q):CJ P n code t L R Q:=Jg1 fun _ _ hst=>⟨_,_,hst.perm hp,h⟩
theorem J2o {γ:Type} {P n x y t L R} {Q:Jbp} (ws:List Nat) (hd:Head γ) (h:CJ P n x t L R (J3e ws t hd Q)) (k:∀g junk,CJ P n y (updL (havoc ws t junk) (hd.slots g)) (hd.L g) (hd.R g) Q):CJ P n x t L R (Jd5 P n y Q):=by
  intro c a w hf hs
  refine wp_mono (h c a w hf hs) ?_
  rintro e a w ⟨hnp,t',L',R',hq,hf',hs'⟩
  cases e with
  | normal=>
    obtain ⟨g,ho,hsh,⟨L1,hp,hL⟩,hR⟩:=hq
    have e:updL (havoc ws t t') (hd.slots g)=t':=by rw [Je6 ho,Jei hsh]
    refine ⟨trivial,t',L',R',?_,hf',hs'⟩
    have:=k g t'
    rw [e] at this
    exact Jrl hp (Jke hL hR this)
  | _=>exact ⟨hnp,t',L',R',hq,hf',hs'⟩
theorem Jnv {P : Program} {dst : Option Tmp} {f : FuncId} {xs : List Operand} {ts : Array TypeId} {pos : String} {after : Array Edge} {guard : Option (Nat × Bool)} {ty : TypeId} {t : Nat → Value} {L : List Blk} {R : List Sl} {args : List Value} {Post : Jeq} (ha : xs.map (ev t) = args)
    (h:Tri P f args.toArray L R Post):Gives P ⟨dst,.call ⟨.value (.func f),xs.toArray,ts⟩,ty,pos,after,guard⟩ (ev t) L R Post:=
  Jg9 (by rw [← ha];simp) rfl h
theorem YV.gives2 {P op ρ L R v} (h:YV P op ρ L R v):Gives P op ρ L R (fun v' L' R'=>v'=v∧L=L'∧R=R'):=by
  intro c w hs a next Q k
  rw [h c w hs]
  exact k v L R w ⟨rfl,rfl,rfl⟩ hs
end Go.Proofs.YtihompplndcdeaaGreat
end
