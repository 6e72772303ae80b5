/-
  Merged texts. By an AI agent.
-/
import Derived.Test.YtchfclmokpbldaaGreatFits
import Derived.Test.YtchfclmokpbldaaGreatCflowS
import Derived.Test.YtchfclmokpbldaaGreatLaw12a
set_option linter.all false
set_option maxHeartbeats 4000000
set_option maxRecDepth 20000
namespace Go.Proofs.YtchfclmokpbldaaGreat
open Go.Aw Go
section
structure XArc where
 road:Int
 fr:Int
 to:Int
 deriving DecidableEq,Inhabited
def XArc.cells (a:XArc):List Value:=[.int .i64 a.road,.int .i64 a.fr,.int .i64 a.to]
abbrev Vff (x:Arr XArc):Sl:=x.sl 3 XArc.cells []
def Uva (m:XMine) (fl:List XSpan) (i:Nat):List XArc:=
 if (m.roads.l.getD i default).closed=true then [] else
 (if 0 < (fl.getD i default).high then [(⟨i,(m.roads.l.getD i default).fr,(m.roads.l.getD i default).to⟩:XArc)] else []) ++ (if (fl.getD i default).low < 0 then [⟨i,(m.roads.l.getD i default).to,(m.roads.l.getD i default).fr⟩] else [])
def Jka (m : XMine) (fl : List XSpan) : Nat → List XArc
 | 0=>[]
 | k + 1=>Jka m fl k ++ Uva m fl k
abbrev Vda (m:XMine) (fl:List XSpan):List XArc:=Jka m fl m.roads.l.length
def Uhc {m : XMine} {fl : List XSpan} {a : XArc} : ∀ {k : Nat}, a ∈ Jka m fl k ↔ ∃ i : Nat, i < k ∧ a ∈ Uva m fl i
 | 0=>⟨fun h=>zE,fun ⟨i,h,_⟩=>za⟩
 | k + 1=>by
  rw [Jka,yba,Uhc]
  refine ⟨fun h=>?_,fun ⟨i,h1,h2⟩=>?_⟩
  ·rcases h with ⟨i, h1, h2⟩ | h
   ·exact ⟨i,by omega,h2⟩
   ·exact ⟨k,by omega,h⟩
  ·rcases yk i k with h | h
   ·exact .inl ⟨i,h,h2⟩
   ·obtain rfl : i = k := by omega
    exact .inr h2
def Kne (m:XMine) (fl:List XSpan) (i:Nat) (back:Bool):Bool:=
 !(m.roads.l.getD i default).closed && (if back=true then decide ((fl.getD i default).low < 0) else decide (0 < (fl.getD i default).high))
def Upb (m:XMine) (i:Nat) (back:Bool):Int:=if back=true then (m.roads.l.getD i default).to else (m.roads.l.getD i default).fr
def Zea (m:XMine) (i:Nat) (back:Bool):Int:=if back=true then (m.roads.l.getD i default).fr else (m.roads.l.getD i default).to
def U6b {m:XMine} {fl:List XSpan} {a:XArc} {i:Nat}:a∈Uva m fl i↔∃back,Kne m fl i back=true∧a=⟨i,Upb m i back,Zea m i back⟩:=by
 unfold Uva Kne Upb Zea;constructor;·
  intro h;split at h;·cases h
  ·
   rename_i hc;rcases List.mem_append.1 h with h | h;·
    split at h;·rename_i h1;exact ⟨false,by rw [if_neg ze,yo,decide_eq_true_eq];exact ⟨by simpa using hc,h1⟩,by simpa using h⟩
    ·cases h
   ·
    split at h;·rename_i h1;exact ⟨true,by rw [if_pos rfl,yo,decide_eq_true_eq];exact ⟨by simpa using hc,h1⟩,by simpa using h⟩
    ·cases h
 ·
  rintro ⟨back, h, rfl⟩;cases back with
  | false=>simp only [yhb,if_false,yo,yTa,decide_eq_true_eq] at h;rw [if_neg (by rw [h.1];decide),if_pos h.2];simp
  | true=>simp only [if_true,yo,yTa,decide_eq_true_eq] at h;rw [if_neg (by rw [h.1];decide),if_pos h.2];simp
def Uha {m:XMine} {fl:List XSpan} {a:XArc}:a∈Vda m fl↔∃(i:Nat) (back:Bool),i < m.roads.l.length∧Kne m fl i back=true∧a=⟨i,Upb m i back,Zea m i back⟩:=by rw [Vda,Uhc];exact ⟨fun ⟨i,h1,h2⟩=>let ⟨b,h3,h4⟩:=U6b.1 h2;⟨i,b,h1,h3,h4⟩,fun ⟨i,b,h1,h3,h4⟩=>⟨i,h1,U6b.2 ⟨b,h3,h4⟩⟩⟩
def K6b {m : XMine} {fl : List XSpan} : ∀ k, (Jka m fl k).Pairwise (fun a b => a.road ≤ b.road) ∧ ∀ a ∈ Jka m fl k, a.road < (k : Int)
 | 0=>⟨List.Pairwise.nil,fun a h=>by cases h⟩
 | k + 1=>by
  obtain ⟨h1,h2⟩:=K6b (m:=m) (fl:=fl) k
  have h3:∀a∈Uva m fl k,a.road=(k:Int):=fun a ha=>by
   obtain ⟨b,_,e⟩:=U6b.1 ha
   rw [e]
  refine ⟨?_,fun a ha=>?_⟩
  ·rw [Jka, yob]
   refine ⟨h1,?_,fun a ha b hb=>by have:=h2 a ha;have:=h3 b hb;omega⟩
   exact List.Pairwise.imp_of_mem (R:=fun _ _=>True) (fun ha hb _=>by have:=h3 _ ha;have:=h3 _ hb;omega) (List.pairwise_of_forall (fun _ _=>trivial))
  ·rw [Jka, yba] at ha
   rcases ha with ha | ha
   ·have:=h2 a ha;omega
   ·have:=h3 a ha;omega
def Wy (m:XMine) (l:List XArc) (w:Int) (u v:Nat):Prop:=∃a∈l,a.road≠w∧a.fr=(u:Int)∧a.to=(v:Int)∧(m.places.l.getD v default).surface=false
inductive Goes (m : XMine) (l : List XArc) (w : Int) (u : Nat) : Nat → Prop
 | refl:Goes m l w u u
 | tail {v x:Nat} (h:Goes m l w u v) (k:Wy m l w v x):Goes m l w u x
def Goes.closed {m:XMine} {l:List XArc} {w:Int} {P:Nat→Prop} (hP:∀u v,P u→Wy m l w u v→P v) {u v:Nat} (h:Goes m l w u v) (hu:P u):P v:=by
 induction h with
 | refl=>exact hu
 | tail _ s ih=>exact hP _ _ ih s
structure SprIs (m:XMine) (l:List XArc) (w:Int) (seen out:List Bool):Prop where
 len:out.length=seen.length
 iff:∀i:Nat,i < seen.length→(out.getD i false=true↔∃j:Nat,j < seen.length∧seen.getD j false=true∧Goes m l w j i)
structure SprTo (m:XMine) (l:List XArc) (w:Int) (seen out:List Bool):Prop where
 len:out.length=seen.length
 sub:∀i:Nat,seen.getD i false=true→out.getD i false=true
 goes:∀i:Nat,out.getD i false=true→∃j:Nat,j < seen.length∧seen.getD j false=true∧Goes m l w j i
section
variable {m:XMine} {l:List XArc} {w:Int} {seen out:List Bool}
def SprTo.init:SprTo m l w seen seen:=⟨rfl,fun _ h=>h,fun i h=>⟨i,Ysf h,h,.refl⟩⟩
def SprTo.next (h:SprTo m l w seen out) {u v:Nat} (hs:Wy m l w u v) (hu:out.getD u false=true) (hv:v < out.length):SprTo m l w seen (out.set v true):=by
 refine ⟨by simp [h.len],fun i hi=>?_,fun i hi=>?_⟩;·
  rw [Vea hv];split;·rfl
  ·exact h.sub i hi
 ·
  rw [Vea hv] at hi;split at hi;·rename_i e;obtain ⟨j,h1,h2,h3⟩:=h.goes u hu;exact ⟨j,h1,h2,by rw [e];exact h3.tail hs⟩
  ·exact h.goes i hi
def SprTo.done (h:SprTo m l w seen out) (hr:∀u v:Nat,Wy m l w u v→out.getD u false=true→out.getD v false=true):SprIs m l w seen out:=
 ⟨h.len,fun i _=>⟨h.goes i,fun ⟨j,_,h2,h3⟩=>Goes.closed (P:=fun x=>out.getD x false=true) (fun u v hu hs=>hr u v hs hu) h3 (h.sub j h2)⟩⟩
end
def Vga (m:XMine) (fl:List XSpan) (i:Nat) (back:Bool):Prop:=
 Kne m fl i back=true∧(m.places.l.getD (Upb m i back).toNat default).surface=false∧(m.places.l.getD (Zea m i back).toNat default).surface=false∧Goes m (Vda m fl) i (Zea m i back).toNat (Upb m i back).toNat
def U1c (n v:Nat):List Bool:=(List.replicate n false).set v true
def V8c {n v i:Nat} (hv:v < n):(U1c n v).getD i false=true↔i=v:=by
 rw [U1c,Vea (by simp;exact hv)];split;·rename_i e;exact ⟨fun _=>e,fun _=>rfl⟩
 ·rename_i e;rw [yh,yB];refine ⟨fun h=>?_,fun h=>absurd h e⟩;split at h <;> simp at h
def Yre {m:XMine} {l:List XArc} {w:Int} {n u v:Nat} {out:List Bool} (h:SprIs m l w (U1c n v) out) (hv:v < n) (hu:u < n):out.getD u false=true↔Goes m l w v u:=by
 have hl:(U1c n v).length=n:=by simp [U1c]
 refine (h.iff u za).trans ⟨fun ⟨j,_,h2,h3⟩=>?_,fun h3=>⟨v,by omega,(V8c hv).2 rfl,h3⟩⟩;rw [(V8c hv).1 h2] at h3;exact h3
structure CircIs (m:XMine) (fl:List XSpan) (C:List Int):Prop where
 up:C.Pairwise (· < ·)
 iff:∀x:Int,x∈C↔∃(i:Nat) (back:Bool),x=(i:Int)∧i < m.roads.l.length∧Vga m fl i back
structure CircTo (m:XMine) (fl:List XSpan) (k:Nat) (C:List Int):Prop where
 up:C.Pairwise (· < ·)
 lt:∀x∈C,x < (k:Int)
 len:C.length≤k
 iff:∀x:Int,x∈C↔∃(i:Nat) (back:Bool),x=(i:Int)∧i < k∧Vga m fl i back
def CircTo.zero {m:XMine} {fl:List XSpan}:CircTo m fl 0 []:=⟨List.Pairwise.nil,fun x h=>zE,ym _,fun x=>⟨fun h=>zE,fun ⟨i,b,_,h,_⟩=>za⟩⟩
def CircTo.yes {m:XMine} {fl:List XSpan} {k:Nat} {C:List Int} (h:CircTo m fl k C) (hk:Vga m fl k false∨Vga m fl k true):CircTo m fl (k + 1) (C ++ [(k:Int)]):=by
 refine ⟨?_,fun x hx=>?_,by have:=h.len;simp;omega,fun x=>?_⟩;·rw [yob];exact ⟨h.up,List.pairwise_singleton _ _,fun a ha b hb=>by rw [List.mem_singleton.1 hb];exact h.lt a ha⟩
 ·
  rcases List.mem_append.1 hx with hx | hx;·have:=h.lt x hx;omega
  ·have:=List.mem_singleton.1 hx;omega
 ·
  rw [yba, h.iff, yxa];refine ⟨fun h1=>?_,fun ⟨i,b,h1,h2,h3⟩=>?_⟩;·
   rcases h1 with ⟨i, b, h1, h2, h3⟩ | h1;·exact ⟨i,b,h1,by omega,h3⟩
   ·
    rcases hk with hk | hk;·exact ⟨k,_,h1,by omega,hk⟩
    ·exact ⟨k,_,h1,by omega,hk⟩
  ·
   rcases yk i k with h4 | h4;·exact .inl ⟨i,b,h1,h4,h3⟩
   ·exact .inr za
def CircTo.no {m:XMine} {fl:List XSpan} {k:Nat} {C:List Int} (h:CircTo m fl k C) (h1:¬ Vga m fl k false) (h2:¬ Vga m fl k true):CircTo m fl (k + 1) C:=by
 refine ⟨h.up,fun x hx=>by have:=h.lt x hx;omega,by have:=h.len;omega,fun x=>(h.iff x).trans ⟨fun ⟨i,b,a1,a2,a3⟩=>⟨i,b,a1,by omega,a3⟩,fun ⟨i,b,a1,a2,a3⟩=>?_⟩⟩;rcases yk i k with h4 | h4;·exact ⟨i,b,a1,h4,a3⟩
 ·
  obtain rfl : i = k := by omega
  cases b with
  | false=>exact absurd a3 h1
  | true=>exact absurd a3 h2
def CircTo.done {m:XMine} {fl:List XSpan} {C:List Int} (h:CircTo m fl m.roads.l.length C):CircIs m fl C:=⟨h.up,h.iff⟩
def Jtf (m:XMine) (l:List XArc) (a:XArc):Prop:=(m.places.l.getD a.fr.toNat default).surface=false∧(m.places.l.getD a.to.toNat default).surface=false∧Goes m l a.road a.to.toNat a.fr.toNat
def Kre {m:XMine} {fl:List XSpan} {x:Int}:(∃a∈Vda m fl,a.road=x∧Jtf m (Vda m fl) a)↔∃(i:Nat) (back:Bool),x=(i:Int)∧i < m.roads.l.length∧Vga m fl i back:=by
 constructor;·rintro ⟨a, ha, rfl, h1, h2, h3⟩;obtain ⟨i,b,hi,hc,rfl⟩:=Uha.1 ha;exact ⟨i,b,rfl,hi,hc,h1,h2,h3⟩
 ·rintro ⟨i, b, rfl, hi, hc, h1, h2, h3⟩;exact ⟨_,Uha.2 ⟨i,b,hi,hc,rfl⟩,rfl,h1,h2,h3⟩
structure OnTo (m:XMine) (l:List XArc) (k:Nat) (M:List XArc):Prop where
 sub:M.Sublist (l.take k)
 iff:∀a:XArc,a∈M↔a∈l.take k∧Jtf m l a
def OnTo.zero {m:XMine} {l:List XArc}:OnTo m l 0 []:=⟨yJb _,fun a=>⟨fun h=>zE,fun h=>(by simp at h)⟩⟩
def Vba {α:Type} {l:List α} {k:Nat} {x:α} (h:l[k]?=some x):l.take (k + 1)=l.take k ++ [x]:=by rw [yha,h];rfl
def OnTo.yes {m:XMine} {l:List XArc} {k:Nat} {M:List XArc} {a:XArc} (h:OnTo m l k M) (ha:l[k]?=some a) (hc:Jtf m l a):OnTo m l (k + 1) (M ++ [a]):=by
 refine ⟨by rw [Vba ha];exact h.sub.append_right _,fun x=>?_⟩;rw [Vba ha,yba,yba,h.iff,yxa];refine ⟨fun h1=>?_,fun ⟨h1,h2⟩=>?_⟩;·
  rcases h1 with h1 | h1;·exact ⟨.inl h1.1,h1.2⟩
  ·exact ⟨.inr h1,by rw [h1];exact hc⟩
 ·
  rcases h1 with h1 | h1;·exact .inl ⟨h1,h2⟩
  ·exact .inr h1
def OnTo.no {m:XMine} {l:List XArc} {k:Nat} {M:List XArc} {a:XArc} (h:OnTo m l k M) (ha:l[k]?=some a) (hc:¬ Jtf m l a):OnTo m l (k + 1) M:=by
 refine ⟨by rw [Vba ha];exact h.sub.trans (ydb _ _),fun x=>?_⟩;rw [Vba ha,yba,h.iff,yxa];refine ⟨fun h1=>⟨.inl h1.1,h1.2⟩,fun ⟨h1,h2⟩=>?_⟩;rcases h1 with h1 | h1;·exact ⟨h1,h2⟩
 ·rw [h1] at h2;exact absurd h2 hc
structure RdsTo (M:List XArc) (k:Nat) (C:List Int):Prop where
 up:C.Pairwise (· < ·)
 len:C.length≤k
 last:∀x∈C,∀a∈M.drop k,x≤a.road
 iff:∀x:Int,x∈C↔∃a∈M.take k,a.road=x
def RdsTo.zero {M:List XArc}:RdsTo M 0 []:=⟨List.Pairwise.nil,ym _,fun x h=>zE,fun x=>⟨fun h=>zE,fun ⟨a,h,_⟩=>(by simp at h)⟩⟩
def RdsTo.yes {M:List XArc} {k:Nat} {C:List Int} {a:XArc} (h:RdsTo M k C) (hM:M.Pairwise (fun a b=>a.road≤b.road)) (ha:M[k]?=some a) (hc:C=[]∨C.getLast?≠some a.road):RdsTo M (k + 1) (C ++ [a.road]):=by
 have hdr:=Kha ha;have hlt:∀x∈C,x < a.road:=fun x hx=>by
  have h1:=h.last x hx a (by rw [hdr];simp);rcases Int.lt_or_eq_of_le h1 with h1 | h1;·exact h1
  ·
   exfalso;rcases hc with hc | hc;·rw [hc] at hx;cases hx
   ·
    refine hc ?_
    -- the greatest one stands last
    have hne:C≠[]:=yIa hx;rw [List.getLast?_eq_some_getLast hne];have h2:=h.last _ (List.getLast_mem hne) a (by rw [hdr];simp);have hdl:C=C.dropLast ++ [C.getLast hne]:=(List.dropLast_concat_getLast hne).symm;have hup:=h.up;rw [hdl,yob] at hup;rw [hdl,yba,yxa] at hx;rcases hx with hx | hx;·have:=hup.2.2 x hx _ (List.mem_singleton.2 rfl);omega
    ·rw [← hx,h1]
 refine ⟨?_,by have:=h.len;simp;omega,fun x hx b hb=>?_,fun x=>?_⟩;·rw [yob];exact ⟨h.up,List.pairwise_singleton _ _,fun x hx b hb=>by rw [List.mem_singleton.1 hb];exact hlt x hx⟩
 ·
  have hab:a.road≤b.road:=by have h1:(M.drop k).Pairwise (fun a b=>a.road≤b.road):=hM.sublist (List.drop_sublist _ _);rw [hdr,List.pairwise_cons] at h1;exact h1.1 b hb
  rcases List.mem_append.1 hx with hx | hx;·have:=hlt x hx;omega
  ·rw [List.mem_singleton.1 hx];exact hab
 ·
  rw [Vba ha, yba, h.iff, yxa];refine ⟨fun h1=>?_,fun ⟨b,h1,h2⟩=>?_⟩;·
   rcases h1 with ⟨b, h1, h2⟩ | h1;·exact ⟨b,yp _ h1,h2⟩
   ·exact ⟨a,by simp,h1.symm⟩
  ·
   rcases List.mem_append.1 h1 with h1 | h1;·exact .inl ⟨b,h1,h2⟩
   ·rw [List.mem_singleton.1 h1] at h2;exact .inr h2.symm
def RdsTo.no {M:List XArc} {k:Nat} {C:List Int} {a:XArc} (h:RdsTo M k C) (ha:M[k]?=some a) (hc:C.getLast?=some a.road):RdsTo M (k + 1) C:=by
 have hdr:=Kha ha;refine ⟨h.up,by have:=h.len;omega,fun x hx b hb=>h.last x hx b (by rw [hdr];simp [hb]),fun x=>?_⟩;rw [Vba ha,h.iff];refine ⟨fun ⟨b,h1,h2⟩=>⟨b,yp _ h1,h2⟩,fun ⟨b,h1,h2⟩=>?_⟩;rcases List.mem_append.1 h1 with h1 | h1;·exact ⟨b,h1,h2⟩
 ·rw [List.mem_singleton.1 h1] at h2;exact (h.iff x).1 (by rw [← h2];exact List.mem_of_getLast? hc)
def RdsTo.done {m:XMine} {fl:List XSpan} {M:List XArc} {C:List Int} (hM:OnTo m (Vda m fl) (Vda m fl).length M) (h:RdsTo M M.length C):CircIs m fl C:=by refine ⟨h.up,fun x=>?_⟩;rw [← Kre,h.iff,yKa];have h1:=hM.iff;rw [yKa] at h1;exact ⟨fun ⟨a,a1,a2⟩=>⟨a,((h1 a).1 a1).1,a2,((h1 a).1 a1).2⟩,fun ⟨a,a1,a2,a3⟩=>⟨a,(h1 a).2 ⟨a1,a3⟩,a2⟩⟩
def OnTo.sorted {m:XMine} {fl:List XSpan} {k:Nat} {M:List XArc} (h:OnTo m (Vda m fl) k M):M.Pairwise (fun a b=>a.road≤b.road):=
 (K6b m.roads.l.length).1.sublist (h.sub.trans (List.take_sublist _ _))
end
section
attribute [local irreducible] CJ LJ DJ Tri YV Gives U5 J2 Kn U6 RV J4 OwL.L
def Ybb {a:XAir} {s:XSetting} {b b':XBounds} {A:List Bool} (h1:b.low.l=b'.low.l) (h2:b.high.l=b'.high.l):U7 a s b A=U7 a s b' A:=by
 have e1:Vq a s b A=Vq a s b' A:=funext fun i=>by rw [Vq,Vq,h1,h2]
 have e2:Y9 a s b A=Y9 a s b' A:=by rw [Y9,Y9,h1,h2,e1]
 have e3:Ui a s b A=Ui a s b' A:=funext fun i=>by rw [Ui,Ui,h1,h2]
 rw [U7,U7,e2,e3]
def Yta (a:XAir) (s:XSetting) (A:List Bool):XBounds:=⟨⟨none,0,(Yu a s A).2.1⟩,⟨none,0,(Yu a s A).2.2⟩⟩
def Jea (a:XAir) (k:Nat):XSpan:=if (a.mine.roads.l.getD k default).closed=true then ⟨0,0⟩ else nothingS
def Uyb (a:XAir) (s:XSetting) (A:List Bool):Int×List XSpan:=
 if Ky a≠0 then (Ky a,[]) else if Una a s=false then (21,[]) else if (Yu a s A).1=0 then (0,U7 a s (Yta a s A) A)
 else (0,(List.range a.mine.roads.l.length).map (Jea a))
def Ud (L:LB) (R:LS):
 Tri Tryz.prog 96 [].toArray L R (fun v U J=>v=nothingS.val∧L=U∧R=J):=by refine Je 2 Tryz.call96 Tryz.func96 rfl rfl rfl ?_;apply (Xd9);intro b0;apply qam∘qcd∘Xbp;refine q_r L R zhd ?_;exact zbe
structure BlindTo (a:XAir) (i:Nat) (l:List XSpan):Prop where
 len:l.length=a.mine.roads.l.length
 don:∀j:Nat,j < i→l[j]?=some (Jea a j)
 non:∀j:Nat,i≤j→j < a.mine.roads.l.length→l[j]?=some ⟨0,0⟩
def BlindTo.next {a:XAir} {i:Nat} {l:List XSpan} (h:BlindTo a i l) (hi:i < a.mine.roads.l.length) {x:XSpan} (hx:x=Jea a i):BlindTo a (i + 1) (l.set i x):=by exact uaO
def BlindTo.stay {a:XAir} {i:Nat} {l:List XSpan} (h:BlindTo a i l) (hi:i < a.mine.roads.l.length) (hx:(⟨0,0⟩:XSpan)=Jea a i):BlindTo a (i + 1) l:=by exact uaU
def BlindTo.done {a:XAir} {l:List XSpan} (h:BlindTo a a.mine.roads.l.length l):l=(List.range a.mine.roads.l.length).map (Jea a):=by
 have hl:=h.len;refine yDa fun j=>?_;rcases yk j a.mine.roads.l.length with hj | hj;·rw [h.don j hj,yr,yV hj];rfl
 ·rw [yu za,yu zH]
def Zqb (a:XAir) (s:XSetting) (A:List Bool) (L:LB) (R:LS) (hm:AirR a R) (hs:SetR s R) (hA:Ky a=0→AiryIs a.mine A):
 Tri Tryz.prog 40 [a.val,s.val].toArray L R (fun w U J=>∃p:OwL XSpan,w=.tuple #[p.val,.int .i64 (Uyb a s A).1]∧p.ok 2 XSpan.cells∧p.l=(Uyb a s A).2∧p.L 90 XSpan.cells ++ L=U∧R=J):=by
 have hmr:=hm.roads;refine Je 56 Tryz.call40 Tryz.func40 rfl rfl rfl ?_;apply (Xaf);intro b2;apply (qax);intro b3;apply qc4∘Xar∘qa8;refine q_l rfl (Zc a _ _ hm) ?_;apply (Xbh);refine q_c ?_ ?_<;>intro hc0;·apply Xbk∘qc4∘Xao;refine q_r L R zvd ?_;exact ⟨OwL.nil,by rw [Uyb,if_pos hc0];rfl,OwL.nil_ok,by rw [Uyb,if_pos hc0],by rw [Km,yv],rfl⟩
 have h0:Ky a=0:=by omega
 have hok:=V1 h0;have hnp:=hok.mine.places;have hnr:=hok.mine.roads;apply qbo∘Xcg;refine q_l rfl (Yba a s _ _ hm hs) ?_;apply (Xbl);refine q_c ?_ ?_<;>intro hc1;·apply Xea∘Xao;refine q_r L R zvd ?_;exact ⟨OwL.nil,by rw [Uyb,if_neg hc0,if_pos zM];rfl,OwL.nil_ok,by rw [Uyb,if_neg hc0,if_pos zM],by rw [Km,yv],rfl⟩
 have hf0:Una a s=true:=by simpa using hc1
 have hff:¬ Una a s=false:=by rw [hf0];decide
 apply qbo∘Xcg;refine Jw rfl (Zkc a s A _ _ hm hs hA za) rfl ?_;rintro v U J ⟨lo,hi,rfl,h1,h2,h3,h4,rfl,rfl⟩;refine Jy zSb rfl ?_;apply (Xeb);intro b7;apply qak∘Xce;refine U9 (A:=[_]) (wd:=1) [] yf ze h1 yg ?_;apply (qb1);refine U9 (A:=[_]) (wd:=1) [] yf ze h2 yg ?_;apply (qb1);have hR2:∀r∈R,InR r (isl hi.arr :: isl lo.arr :: R):=fun r hr=>Ja zF;have hB2:BoundsR ⟨lo.arr,hi.arr⟩ (isl hi.arr :: isl lo.arr :: R):=⟨Ja (.tail _ (.head _)),Ja (.head _)⟩;have hmr2:=hmr.mono hR2;apply Xbc∘Xbu;refine q_c ?_ ?_<;>intro hc2;·
  apply qae∘Xcg∘qbe;refine Jw rfl (Kve a s ⟨lo.arr,hi.arr⟩ A _ _ (Zp hm hR2) (Zua hs hR2) hB2 hA) rfl ?_;rintro v U J ⟨p,S,rfl,hpk,hpl,rfl,rfl⟩;apply qc4∘Xao;refine Kx (U:=p.L 90 XSpan.cells ++ L) (J:=R) zvd ?hp ?hL ?hR;case hp=>(have ha:Uyb a s A=(0,U7 a s (Yta a s A) A):=by rw [Uyb,if_neg hc0,if_neg hff,if_pos hc2]);exact ⟨p,by rw [ha];rfl,hpk,by rw [ha,hpl];exact Ybb h3 h4,rfl,rfl⟩
  case hL=>exact zi
  case hR=>exact fun r h=>Ja (by simp [h])
 apply qbv∘Xb9∘qc7;rintro v U J ⟨b37,rfl,rfl,hR37⟩;replace hR37:=hR37.symm;subst hR37;apply (Xd5);refine U4 zPc ?_;apply qay∘qab∘Xay;refine Jm [(9,.slice _ _ _),(40,.slice _ _ _),(41,.int _ _),(42,.int _ _)] zh fun tq0=>?_;refine q_p ([10,11]++rg 42 13) ((⟨fun g=>[(42,.int .i64 ((g.1.1:Nat):Int))],fun g=>(⟨.own b37 a.mine.roads.l.length [],g.1.2⟩:OwL XSpan).L 90 XSpan.cells ++ (⟨b7,[lo.val,hi.val],214⟩ :: ⟨b3,s.cells,80⟩ :: ⟨b2,a.cells,32⟩ :: L),fun _=>isl hi.arr :: isl lo.arr :: R,fun g=>a.mine.roads.l.length - g.1.1⟩:Head {g:Nat×List XSpan // g.1≤a.mine.roads.l.length∧BlindTo a g.1 g.2})) (⟨(0,List.replicate a.mine.roads.l.length ⟨0,0⟩),by dsimp only;omega,⟨by simp,fun j hj=>by omega,fun j _ hj=>by rw [yB,if_pos hj]⟩⟩) ?_;rintro ⟨⟨k,l⟩,w1,w2⟩ junk;try dsimp only
 dsimp only at w1 w2;have hll:=w2.len;have hkq:(⟨.own b37 a.mine.roads.l.length [],l⟩:OwL XSpan).ok 2 XSpan.cells:=by have:=Yc (f:=XSpan.cells) (wd:=2) (b:=b37) (n:=a.mine.roads.l.length) (x:=⟨0,0⟩) yf zD;exact OwL.len_ok yf this zma
 apply (Xam);refine q_c ?_ ?_<;>intro hc3;·
  have hrg:=Jn (l:=a.mine.roads.l) (k:=k) default za;have hlg:=w2.non k (ym _) za;apply (Xa1);refine Jy zC rfl ?_;apply qc8∘qaq;intro b11;apply qad∘Xcd∘Xbl;refine q_c ?_ ?_<;>intro hc4;·(have hbf:nothingS=Jea a k:=by rw [Jea,if_neg zaa]);apply (Xb5);refine q_l rfl (Ud _ _) ?_;refine Jy (Js tb ((⟨.own b37 a.mine.roads.l.length [],l⟩:OwL XSpan)) _ rfl rfl ((show _=Value.slice _ _ _ from rfl).trans (Un hll)) rfl zg (i:=k) zk zt) rfl ?_;refine V6 (Uj tb ((⟨.own b37 a.mine.roads.l.length [],l⟩:OwL XSpan)) (nothingS) rfl rfl rfl rfl zj zg yf zg (yQ rfl) zb zb) ?_;rintro v U J ⟨rfl,rfl⟩;apply (Xa8);exact q_k ⟨(k + 1,l.set k nothingS),by dsimp only;omega,w2.next za hbf⟩
  have hbf:(⟨0,0⟩:XSpan)=Jea a k:=by rw [Jea,if_pos zaa]
  apply (Xaw);exact q_k ⟨(k + 1,l),by dsimp only;omega,w2.stay za hbf⟩
 obtain rfl:k=a.mine.roads.l.length:=by omega
 apply Xcm∘qc4∘Xak;refine Kx (U:=(⟨.own b37 a.mine.roads.l.length [],l⟩:OwL XSpan).L 90 XSpan.cells ++ L) (J:=R) zvd ?hp ?hL ?hR;case hp=>
  have ha:Uyb a s A=(0,(List.range a.mine.roads.l.length).map (Jea a)):=by rw [Uyb,if_neg hc0,if_neg hff,if_neg hc2]
  exact ⟨(⟨.own b37 a.mine.roads.l.length [],l⟩:OwL XSpan),by rw [ha];simp only [OwL.val,Ow.addr,Ow.cap,hll],hkq,by rw [ha];exact w2.done,rfl,rfl⟩
 case hL=>exact zi
 case hR=>exact fun r h=>Ja (by simp [h])
def Kpd (x:XSpan):Int:=if x.high < x.low then 0 else if 0 < x.low then 1 else if x.high < 0 then -1 else 0
def Kcb (x:XSpan) (L:LB) (R:LS):
 Tri Tryz.prog 48 [x.val].toArray L R (fun v U J=>v=.int .i64 (Kpd x)∧L=U∧R=J):=by
 refine Je 17 Tryz.call48 Tryz.func48 rfl rfl rfl ?_;apply (Xaf);intro b1;apply (qad);refine Kc (Jb (Jq (Kk (Jq (Jh ?_)))));apply Xa2∘qa5∘Xau;refine q_c ?_ ?_<;>intro hc0;·apply (Xbi);refine q_i L R ?_;exact ⟨by rw [Kpd,if_pos hc0],rfl,rfl⟩
 apply qae∘Xbg∘Xau;refine q_c ?_ ?_<;>intro hc1;·apply (Xbi);refine q_i L R ?_;exact ⟨by rw [Kpd,if_neg za,if_pos hc1],rfl,rfl⟩
 apply qae∘Xcf∘Xau;refine q_c ?_ ?_<;>intro hc2;·apply (Xbi);refine q_i L R ?_;exact ⟨by rw [Kpd,if_neg za,if_neg za,if_pos hc2],rfl,rfl⟩
 refine J5 (Ji (Jb (Jq (Jh ?_))));apply (Xak);refine q_i L R ?_;exact ⟨by rw [Kpd,if_neg za,if_neg za,if_neg za],rfl,rfl⟩
end
section
def Uwe {a:XAir} {s:XSetting} {A:List Bool} (h0:Ky a=0) (hf:Una a s=true) (hA:AiryIs a.mine A):
 (Uyb a s A).1=0∧((Accept a s (Yta a s A) A∧(∀i:Nat,(Yta a s A).low.l.getD i 0≤(Yta a s A).high.l.getD i 0)∧(Uyb a s A).2=(List.range a.mine.roads.l.length).map (Ui a s (Yta a s A) A))∨(Uyb a s A).2=(List.range a.mine.roads.l.length).map (Jea a)):=by
 have hfn:¬ Una a s=false:=by rw [hf];decide
 rw [Uyb,if_neg (by rw [h0];decide),if_neg hfn];rcases K4d (A:=A) h0 hf with h | h;·have hac : Accept a s (Yta a s A) A := h.2.accept rfl rfl;rw [if_pos h.1,U7,if_pos (Vec.2 hac)];exact ⟨rfl,.inl ⟨hac,h.2.le,rfl⟩⟩
 ·rw [if_neg (by rw [h]; decide)];exact ⟨rfl,.inr rfl⟩
def Vnd {a:XAir} {s:XSetting} {A:List Bool} (h0:Ky a=0) (hf:Una a s=true) (hA:AiryIs a.mine A):(Uyb a s A).2.length=a.mine.roads.l.length:=by rcases (Uwe h0 hf hA).2 with ⟨_,_,e⟩ | e <;> rw [e] <;> simp
end
section
attribute [local irreducible] CJ LJ DJ Tri YV Gives U5 J2 Kn U6 RV J4 OwL.L
structure XFace where
 road:Int
 need:Int
 deriving Inhabited
def XFace.cells (s:XFace):List Value:=[.int .i64 s.road,.int .i64 s.need]
abbrev Yhg (x:Arr XFace):Sl:=x.sl 2 XFace.cells []
structure WrTo {α:Type} (n:Nat) (z:α) (g:Nat→α) (i:Nat) (l:List α):Prop where
 len:l.length=n
 don:∀j:Nat,j < i→l[j]?=some (g j)
 non:∀j:Nat,i≤j→j < n→l[j]?=some z
def WrTo.zero {α:Type} {n:Nat} {z:α} {g:Nat→α}:WrTo n z g 0 (List.replicate n z):=⟨by simp,fun j hj=>by omega,fun j _ hj=>by rw [yB,if_pos hj]⟩
def WrTo.next {α:Type} {n:Nat} {z:α} {g:Nat→α} {i:Nat} {l:List α} (h:WrTo n z g i l) (hi:i < n) {x:α} (hx:x=g i):WrTo n z g (i + 1) (l.set i x):=by exact uaO
def WrTo.stay {α:Type} {n:Nat} {z:α} {g:Nat→α} {i:Nat} {l:List α} (h:WrTo n z g i l) (hi:i < n) (hx:z=g i):WrTo n z g (i + 1) l:=by exact uaU
def WrTo.done {α:Type} {n:Nat} {z:α} {g:Nat→α} {l:List α} (h:WrTo n z g n l):l=(List.range n).map g:=by
 have hl:=h.len;refine yDa fun j=>?_;rcases yk j n with hj | hj;·rw [h.don j hj,yr,yV hj];rfl
 ·rw [yu za,yu zH]
def Zae (x:XSpan) (need:Int):Int:=
 if x.high < x.low then 0 else if (need≤0∨need≤x.low)∨x.high≤ -need then 1 else if -need < x.low∧x.high < need then -1 else 0
def K8b (fl:List XSpan) (f:XFace):Int:=if 0≤f.road∧f.road < fl.length then Zae (fl.getD f.road.toNat default) f.need else 0
def Ydg (fl:List XSpan) (fc:List XFace):List Int:=(List.range fc.length).map fun k=>K8b fl (fc.getD k default)
def Vhf (fc:List XFace):Prop:=∀f∈fc,-4611686018427387904≤f.need∧f.need≤4611686018427387904
def Yef (x:XSpan) (need:Int) (L:LB) (R:LS) (hn:-4611686018427387904≤need∧need≤4611686018427387904):
 Tri Tryz.prog 275 [x.val,.int .i64 need].toArray L R (fun v U J=>v=.int .i64 (Zae x need)∧L=U∧R=J):=by
 refine Je 39 Tryz.call275 Tryz.func275 rfl rfl rfl ?_;apply (Xaf);intro b2;apply (qad);refine Kc (Jb (Jq (Kk (Jq (Jh ?_)))));apply Xa2∘qa5∘Xau;refine q_c ?_ ?_<;>intro hc0;·apply (Xbi);refine q_i L R ?_;exact ⟨by rw [Zae,if_pos hc0],rfl,rfl⟩
 apply Xbk∘qbx∘qah;apply J6 (G:=[_,_,_,_]) (j:=2) (cj:=14) rfl rfl zb rfl zsb rfl;·intro hg3;replace hg3:=qb hg3;exact (Xah) zhe
 intro junk3;apply (qah);apply J6 (G:=[_,_,_,_,_]) (j:=8) (cj:=20) rfl rfl zb rfl zsb rfl;·intro hg9;replace hg9:=qb hg9;exact (Xah∘qcq) zye
 intro junk9;apply (Xau);refine q_c ?_ ?_<;>intro hc1;·apply (Xbi);refine q_i L R ?_;exact ⟨by rw [Zae,if_neg za,if_pos za],rfl,rfl⟩
 apply qae∘Xah∘qcq∘qa5∘qah;apply K9 (G:=[_,_,_,_]) (j:=5) (cj:=33) rfl rfl zb rfl zsb rfl;·intro hg6;replace hg6:=qb hg6;exact (Xah) zme
 intro junk6;apply (Xau);refine q_c ?_ ?_<;>intro hc2;·apply (Xbi);refine q_i L R ?_;exact ⟨by rw [Zae,if_neg za,if_neg za,if_pos za],rfl,rfl⟩
 refine J5 (Ji (Jb (Jq (Jh ?_))));apply (Xak);refine q_i L R ?_;exact ⟨by rw [Zae,if_neg za,if_neg za,if_neg za],rfl,rfl⟩
def Z6e (fl:Arr XSpan) (fc:Arr XFace) (L:LB) (R:LS) (hfl:InR (Yob fl) R) (hfc:InR (Yhg fc) R) (hn:Vhf fc.l) (hlen:fc.l.length≤1000) (hflen:fl.l.length≤1000):
 Tri Tryz.prog 232 [fl.val,fc.val].toArray L R (fun w U J=>∃p:OwL Int,w=p.val∧p.ok 1 Jk∧p.l=Ydg fl.l fc.l∧p.L 3 Jk ++ L=U∧R=J):=by
 refine Je 41 Tryz.call232 Tryz.func232 rfl rfl rfl ?_;apply qae∘Xcb∘Xaq∘qc7;rintro v U J ⟨b10,rfl,rfl,hR10⟩;replace hR10:=hR10.symm;subst hR10;apply (Xd5);refine U4 (Yg (f:=Jk) (x:=0) rfl _) ?_;apply qay∘Xbz;refine Jm [(0,.slice _ _ _),(5,.slice _ _ _),(11,.slice _ _ _),(12,.int _ _),(13,.int _ _)] zh fun tq0=>?_;refine q_p ([6,7]++rg 13 27) ((⟨fun g=>[(13,.int .i64 ((g.1.1:Nat):Int))],fun g=>(⟨.own b10 fc.l.length [],g.1.2⟩:OwL Int).L 3 Jk ++ L,fun _=>R,fun g=>fc.l.length - g.1.1⟩:Head {g:Nat×List Int // g.1≤fc.l.length∧WrTo fc.l.length 0 (fun k=>K8b fl.l (fc.l.getD k default)) g.1 g.2})) (⟨(0,List.replicate fc.l.length 0),by dsimp only;omega,.zero⟩) ?_;rintro ⟨⟨k,l⟩,w1,w2⟩ junk;try dsimp only
 dsimp only at w1 w2;have hll:=w2.len;have hkq:(⟨.own b10 fc.l.length [],l⟩:OwL Int).ok 1 Jk:=by have:=Yc (f:=Jk) (wd:=1) (b:=b10) (n:=fc.l.length) (x:=0) Vh zD;exact OwL.len_ok Vh this zma
 apply (Xam);refine q_c ?_ ?_<;>intro hc0;·
  have hfg:=Jn (l:=fc.l) (k:=k) default za;have hlg:=w2.non k (ym _) za;have hnd:=hn _ (yi hfg);obtain ⟨f,hf⟩:∃f,f=fc.l.getD k default:=⟨_,rfl⟩;rw [← hf] at hfg hnd;apply (Xa1);refine Jy zC rfl ?_;apply (Xds);intro b7;apply qad∘Xcd∘qbz∘qah;apply K9 (G:=[_,_,_,_,_]) (j:=3) (cj:=21) rfl rfl zb rfl zsb rfl;·intro hg4;replace hg4:=qb hg4;exact (Xaa∘Xaq) zme
  intro junk4;apply (qaf);refine q_c ?_ ?_<;>intro hc1;·have hsg:=Jn (l:=fl.l) (k:=f.road.toNat) default za;(have hfv:Zae (fl.l.getD f.road.toNat default) f.need=(fun k=>K8b fl.l (fc.l.getD k default)) k:=by dsimp only;rw [← hf,K8b,if_pos za]);refine J7 tb [] [0,1,2,3,4,5,6,7,8,9,10] [11] ([Blk.mk b7 _ _]) _ Kq zc zi yd ?_;apply Xdq∘Xcx;refine Kt (by first | exact Jd tb rfl rfl rfl rfl zu (i:=f.road.toNat) zk za | exact Jl tb rfl rfl rfl rfl (i:=f.road.toNat) zk za) rfl rfl rfl rfl ?_;apply qd1∘Xaj;refine K6 rfl (Yef (fl.l.getD f.road.toNat default) f.need _ _ hnd) rfl rfl ?_;rintro v U J ⟨rfl,rfl,rfl⟩;refine ⟨zi,zq,?_⟩;refine Kt (Js tb ((⟨.own b10 fc.l.length [],l⟩:OwL Int)) _ rfl rfl ((show _=Value.slice _ _ _ from rfl).trans (Un hll)) rfl zg (i:=k) zk zt) rfl rfl rfl rfl ?_;apply (qba);refine Kjb (Ju tb ((⟨.own b10 fc.l.length [],l⟩:OwL Int)) (Zae (fl.l.getD f.road.toNat default) f.need) rfl rfl rfl rfl zj zg yf zg ze zb zb) rfl rfl ?_;rintro v U J ⟨rfl,rfl⟩;apply qa1∘Xde;exact q_k ⟨(k + 1,l.set k (Zae (fl.l.getD f.road.toNat default) f.need)),by dsimp only;omega,w2.next za hfv⟩
  have hfv:(0:Int)=(fun k=>K8b fl.l (fc.l.getD k default)) k:=by dsimp only;rw [← hf,K8b,if_neg za]
  apply (Xaw);exact q_k ⟨(k + 1,l),by dsimp only;omega,w2.stay za hfv⟩
 obtain rfl:k=fc.l.length:=by omega
 apply (Xdu);refine q_r ((⟨.own b10 fc.l.length [],l⟩:OwL Int).L 3 Jk ++ L) R zxd ?_;exact ⟨(⟨.own b10 fc.l.length [],l⟩:OwL Int),by simp only [OwL.val,Ow.addr,Ow.cap,hll],hkq,w2.done,rfl,rfl⟩
end
section
end
section
abbrev Sts:=List Int×List Int
def mkS (s:Sts):XSetting:=⟨⟨none,0,s.1⟩,⟨none,0,s.2⟩⟩
abbrev Kpc (s:XSetting):Sts:=(s.fans.l,s.doors.l)
def flS (a:XAir) (A:List Bool) (s:Sts):List XSpan:=(Uyb a (mkS s) A).2
end
end Go.Proofs.YtchfclmokpbldaaGreat
