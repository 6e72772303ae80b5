import Derived.Test.YtihompplndcdeaaDraws
import Derived.ProofKit
import Derived.OpenShut
import Derived.ShutString
import Derived.ChangeOld
import Derived.Below
import Derived.Test.YtihompplndcdeaaChecks
import Derived.Test.YtihompplndcdeaaFans
set_option linter.unusedVariables false
set_option linter.unusedSimpArgs false
section
/-
  From a contract to a statement: the frame. By an AI agent; no person has read it.
-/
namespace Go.Proofs.Ytihompplndcdeaa
open Go.Aw Go
open Go.ChangeShapes Go.WideShapes Go.ChangeAt Go.RowKit
theorem Jqh:ownKnob Try.prog.godebug=none:=by kernel_rfl
theorem Juq:laidOutB Try.prog=true:=by kernel_rfl
abbrev Old (W:World):Nat→Prop:=fun b=>b < W.heap.size
theorem Jnp {W:World} {R:List Sl} (h:∀r∈R,Rep W (Old W) r):Holds [] (Old W) R W:=
  ⟨List.nodup_nil,(fun e he=>by cases he),(fun e he=>by cases he),(fun _ h=>h),h⟩
theorem Jqi {W W':World} {G:Nat→Prop} {L':List Blk} {R':List Sl} (h:St ⟨W,inL [],G⟩ L' R' W'):Below W.heap.size W W':=
  ⟨h.keep.os,h.keep.tape,h.keep.output,h.keep.size,fun k hk=>h.keep.block k hk (fun ⟨e,he,_⟩=>by cases he)⟩
theorem J3u {n:Int} (h:(Lit.int .u8 n).wf=true):0≤n∧n≤255:=by
  simp only [Lit.wf,Bool.and_eq_true,decide_eq_true_eq] at h
  exact h
theorem Jz5 {W:World} {a:Addr} {v:Value} (h:W.cell? a=some v):a.block < W.heap.size:=by
  rcases Nat.lt_or_ge a.block W.heap.size with h' | h'
  · exact h'
  · unfold World.cell? at h
    rw [Array.getElem?_eq_none h'] at h
    simp at h
end Go.Proofs.Ytihompplndcdeaa
end
section
/-
  Arguments, opened by their types. By an AI agent; no person has read it.
-/
namespace Go.Proofs.Ytihompplndcdeaa
open Go.Aw Go
open Go.ChangeShapes Go.WideShapes Go.ChangeAt Go.RowKit
def Rd (P:Program) (w:World) (t:TypeId) (cs:List Value):Prop:=∃(H:Type) (enc:TypeId×Value→H) (fuel:Nat) (x:DataW H×List MemPlace),DataW.trod enc P w 0 (fun _=>true) true fuel t cs=some x
def Opens (P:Program) (t:TypeId) {α:Type} (f:α→List Value) (subs:α→List Sl) (ok:α→Prop):Prop:=
  ∀(w:World) (cs:List Value),Rd P w t cs→∃a:α,cs=f a∧ok a∧∀s∈subs a,Rep w (Old w) s
theorem Jzp {P:Program} {t:TypeId} {k:IntKind} (ht:P.underlying t=some (.int k)):Opens P t (fun n=>[.int k n]) (fun _=>[]) (fun n=>(Lit.int k n).wf=true):=by
  rintro w cs ⟨H,enc,fuel,x,hx⟩
  obtain ⟨n,rfl,_,hw⟩:=DataW.trod_int ht hx
  exact ⟨n,rfl,hw,fun _ h=>by cases h⟩
theorem Jtk {P:Program} {t e:TypeId} {wd:Nat} {α:Type} {f:α→List Value} {subs:α→List Sl} {ok:α→Prop} (ht:P.underlying t=some (.slice e)) (hc:P.cellsOf e=wd) (hw:0 < wd) (hf:∀a,(f a).length=wd) (he:Opens P e f subs ok):
    Opens P t (fun x:Arr α=>[x.val]) (fun x=>[x.sl wd f (x.l.flatMap subs)]) (fun x=>∀a∈x.l,ok a):=by
  rintro w cs ⟨H,enc,fuel,x,hx⟩
  rcases DataW.trod_slice ht hx with ⟨rfl,_⟩ | ⟨a,len,cap,elems,rest,n,_,rfl,_,_,hl,hm,hlen,hel,_,_⟩
  · exact ⟨⟨none,0,[]⟩,rfl,(fun _ h=>by cases h),fun s hs=>by rw [List.mem_singleton.1 hs];exact Jyz⟩
  · have each:∀k,k≤len→∃l:List α,l.length=k∧(∀(i:Nat) (y:α),l[i]?=some y→w.cells? 0 (a.add (i * wd)) wd=some (f y))∧(∀y∈l,ok y)∧∀s∈l.flatMap subs,Rep w (Old w) s:=by
      intro k
      induction k with
      | zero=>exact fun _=>⟨[],rfl,(fun i y h=>by simp at h),(fun _ h=>by cases h),fun _ h=>by simp at h⟩
      | succ k ih=>
        intro hk
        obtain ⟨l,h1,h2,h3,h4⟩:=ih (by omega)
        have hb:=hel k (by omega)
        rw [List.getElem?_eq_getElem (by omega),hc,Option.bind_eq_some_iff] at hb
        obtain ⟨cs,hcs,hy⟩:=hb
        obtain ⟨y,rfl,hok,hsub⟩:=he w cs ⟨H,enc,n,_,hy⟩
        refine ⟨l ++ [y],by simp [h1],fun i z hi=>?_,fun z hz=>?_,fun s hs=>?_⟩
        · rcases Nat.lt_or_ge i l.length with hlt | hge
          · rw [List.getElem?_append_left hlt] at hi
            exact h2 i z hi
          · rw [List.getElem?_append_right hge] at hi
            obtain ⟨h5,h6⟩:=List.getElem?_eq_some_iff.1 hi
            simp at h5
            obtain rfl:i=k:=by omega
            simp at h6
            rw [← h6]
            exact hcs
        · rcases List.mem_append.1 hz with h | h
          · exact h3 z h
          · rw [List.mem_singleton.1 h];exact hok
        · rw [List.flatMap_append] at hs
          rcases List.mem_append.1 hs with h | h
          · exact h4 s h
          · exact hsub s (by simpa using h)
    obtain ⟨l,h1,h2,h3,h4⟩:=each len (Nat.le_refl _)
    refine ⟨⟨some a,cap,l⟩,by rw [← h1],h3,fun s hs=>?_⟩
    rw [List.mem_singleton.1 hs]
    refine .mk (by simp) (by rw [h1];exact hl) (by simp only [maxLen] at hm;show cap < _;omega) (fun r hr=>by obtain ⟨y,_,rfl⟩:=List.mem_map.1 hr;exact hf y) ?_ h4
    rcases Nat.eq_zero_or_pos len with h0 | h0
    · left
      cases l with
      | nil=>rfl
      | cons y l=>simp at h1;omega
    · right
      have cell:∀(i j:Nat) (y:α),l[i]?=some y→j < wd→w.cell? ((a.add (i * wd)).add j)=(f y)[j]?:=fun i j y hi hj=>by
        obtain ⟨_,h7,h8⟩:=World.cells?_some (h2 i y hi)
        exact h8 j (by omega)
      obtain ⟨y0,hy0⟩:=Jar (l:=l) (k:=0) (by omega)
      obtain ⟨v0,hv0⟩:=Jar (l:=f y0) (k:=0) (by rw [hf];omega)
      have hc0:=cell 0 0 y0 hy0 hw
      rw [hv0] at hc0
      obtain ⟨b,off,spot⟩:=a
      have hspot:spot=none:=by simpa [Addr.add] using World.cell?_spot hc0
      subst hspot
      refine ⟨b,off,rfl,Jz5 (a:=⟨b,off,none⟩) (v:=v0) (by simpa [Addr.add] using hc0),fun i j hi hj=>?_⟩
      obtain ⟨y,hy⟩:=Jar (l:=l) (k:=i) hi
      have:=cell i j y hy hj
      rw [Jfo,Jfo] at this
      rw [this,List.getElem?_map,hy]
      rfl
theorem Opens.conv {P:Program} {t:TypeId} {α:Type} {f:α→List Value} {subs subs':α→List Sl} {ok ok':α→Prop} (h:Opens P t f subs ok) (hs:∀a,subs' a=subs a) (ho:∀a,ok a→ok' a):Opens P t f subs' ok':=fun w cs hr=>by
  obtain ⟨a,h1,h2,h3⟩:=h w cs hr
  exact ⟨a,h1,ho a h2,by rw [hs a];exact h3⟩
theorem Jzu {α:Type} (l:List α):l.flatMap (fun _=>([]:List Sl))=[]:=by induction l <;> simp_all
theorem J6u:Opens Try.prog 5 (fun n:Int=>[.int .u8 n]) (fun _=>[]) (fun n=>(Lit.int .u8 n).wf=true):=Jzp Try.underlying5
theorem Jqd:Opens Try.prog 22 (fun x:Arr Int=>[x.val]) (fun x=>[bsl x]) (fun x=>∀n∈x.l,(Lit.int .u8 n).wf=true):=
  (Jtk (wd:=1) Try.underlying22 (by kernel_rfl) (by decide) (fun _=>rfl) J6u).conv (fun x=>by rw [Jzu];rfl) (fun _ h=>h)
end Go.Proofs.Ytihompplndcdeaa
end
section
/-
  Places that open roads connect. By an AI agent; no person has read it.
-/
namespace Go.Proofs.Ytihompplndcdeaa
open Go.Aw Go
def blc (b:Bool):List Value:=[.bool b]
theorem Jid (b:Bool):(blc b).length=1:=rfl
abbrev J6s (x:Arr Bool):Sl:=x.sl 1 blc []
def Step (m:XMine) (u v:Nat):Prop:=∃r∈m.roads.l,r.closed=false∧((r.fr=(u:Int)∧r.to=(v:Int))∨(r.fr=(v:Int)∧r.to=(u:Int)))
inductive Conn (m : XMine) (u : Nat) : Nat → Prop
  | refl:Conn m u u
  | tail {v w:Nat} (h:Conn m u v) (k:Step m v w):Conn m u w
theorem Step.symm {m:XMine} {u v:Nat} (h:Step m u v):Step m v u:=by
  obtain ⟨r,hr,hc,h1 | h1⟩:=h
  · exact ⟨r,hr,hc,.inr h1⟩
  · exact ⟨r,hr,hc,.inl h1⟩
theorem Conn.trans {m:XMine} {u v w:Nat} (h:Conn m u v) (k:Conn m v w):Conn m u w:=by
  induction k with
  | refl=>exact h
  | tail _ s ih=>exact ih.tail s
theorem Conn.symm {m:XMine} {u v:Nat} (h:Conn m u v):Conn m v u:=by
  induction h with
  | refl=>exact .refl
  | tail _ s ih=>exact (Conn.refl.tail s.symm).trans ih
theorem Conn.closed {m:XMine} {P:Nat→Prop} (hP:∀u v,P u→Step m u v→P v) {u v:Nat} (h:Conn m u v) (hu:P u):P v:=by
  induction h with
  | refl=>exact hu
  | tail _ s ih=>exact hP _ _ ih s
theorem Step.lt {m:XMine} (hm:MineOk m) {u v:Nat} (h:Step m u v):u < m.places.l.length∧v < m.places.l.length:=by
  obtain ⟨r,hr,_,h1⟩:=h
  obtain ⟨i,hi⟩:=List.mem_iff_getElem?.1 hr
  have hro:=hm.road i r hi
  have h2:=hro.fr
  have h3:=hro.to
  rcases h1 with h1 | h1 <;> omega
structure FromIs (m:XMine) (seen l:List Bool):Prop where
  len:l.length=seen.length
  iff:∀i:Nat,i < seen.length→(l.getD i false=true↔∃j:Nat,j < seen.length∧seen.getD j false=true∧Conn m j i)
theorem FromIs.unique {m:XMine} {seen l l':List Bool} (h:FromIs m seen l) (h':FromIs m seen l'):l=l':=by
  have e1:=h.len
  have e2:=h'.len
  refine List.ext_getElem (by omega) fun i h1 h2=>?_
  have a1:=h.iff i (by omega)
  have a2:=h'.iff i (by omega)
  rw [← a2] at a1
  have g1:=Jai (l:=l) (k:=i) false h1
  have g2:=Jai (l:=l') (k:=i) false h2
  rw [List.getElem?_eq_getElem h1] at g1
  rw [List.getElem?_eq_getElem h2] at g2
  rw [Option.some.inj g1,Option.some.inj g2]
  cases e:l.getD i false <;> cases e':l'.getD i false <;> simp_all
def surf (m:XMine):List Bool:=m.places.l.map XPlace.surface
abbrev AiryIs (m:XMine) (l:List Bool):Prop:=FromIs m (surf m) l
theorem Jic {l:List Bool} {k i:Nat} {v:Bool} (hk:k < l.length):(l.set k v).getD i false=if i=k then v else l.getD i false:=by
  rw [List.getD_eq_getElem?_getD,List.getElem?_set,List.getD_eq_getElem?_getD]
  split
  · rename_i h;subst h;simp [hk]
  · rename_i h;rw [if_neg (fun e=>h e.symm)]
theorem J29 {l:List Bool} {i:Nat} (h:l.getD i false=true):i < l.length:=by
  rcases Nat.lt_or_ge i l.length with h' | h'
  · exact h'
  · rw [List.getD_eq_getElem?_getD,List.getElem?_eq_none h'] at h;cases h
def Jje (l:List Bool):Nat:=l.countP (fun b=>!b)
theorem Jwn {l:List Bool} {i:Nat} (hi:i < l.length) (h:l.getD i false=false):Jje (l.set i true) + 1=Jje l:=by
  unfold Jje
  have hg:l[i]=false:=by
    have:=Jai (l:=l) (k:=i) false hi
    rw [List.getElem?_eq_getElem hi,h] at this
    exact Option.some.inj this
  rw [List.countP_set hi,hg]
  have:0 < List.countP (fun b=>!b) l:=List.countP_pos_iff.2 ⟨l[i],List.getElem_mem hi,by rw [hg];rfl⟩
  simp
  omega
end Go.Proofs.Ytihompplndcdeaa
end
section
/-
  Circles of air: what ways of air are, which roads lie on circles. Plain. By an AI agent; no person has read it.
-/
namespace Go.Proofs.Ytihompplndcdeaa
open Go.Aw Go
structure XArc where
  road:Int
  fr:Int
  to:Int
  deriving DecidableEq,Inhabited
def XArc.cells (a:XArc):List Value:=[.int .i64 a.road,.int .i64 a.fr,.int .i64 a.to]
abbrev J3e (x:Arr XArc):Sl:=x.sl 3 XArc.cells []
def Jgc (m:XMine) (fl:List XSpan) (i:Nat):List XArc:=
  if (m.roads.l.getD i default).closed=true then [] else
  (if 0 < (fl.getD i default).high then [(⟨i,(m.roads.l.getD i default).fr,(m.roads.l.getD i default).to⟩:XArc)] else []) ++ (if (fl.getD i default).low < 0 then [⟨i,(m.roads.l.getD i default).to,(m.roads.l.getD i default).fr⟩] else [])
def Je4 (m : XMine) (fl : List XSpan) : Nat → List XArc
  | 0=>[]
  | k + 1=>Je4 m fl k ++ Jgc m fl k
abbrev Jlg (m:XMine) (fl:List XSpan):List XArc:=Je4 m fl m.roads.l.length
theorem Jo7 {m : XMine} {fl : List XSpan} {a : XArc} : ∀ {k : Nat}, a ∈ Je4 m fl k ↔ ∃ i : Nat, i < k ∧ a ∈ Jgc m fl i
  | 0=>⟨fun h=>(by cases h),fun ⟨i,h,_⟩=>(by omega)⟩
  | k + 1=>by
    rw [Je4,List.mem_append,Jo7]
    refine ⟨fun h=>?_,fun ⟨i,h1,h2⟩=>?_⟩
    · rcases h with ⟨i, h1, h2⟩ | h
      · exact ⟨i,by omega,h2⟩
      · exact ⟨k,by omega,h⟩
    · rcases Nat.lt_or_ge i k with h | h
      · exact .inl ⟨i,h,h2⟩
      · obtain rfl : i = k := by omega
        exact .inr h2
def J6n (m:XMine) (fl:List XSpan) (i:Nat) (back:Bool):Bool:=
  !(m.roads.l.getD i default).closed && (if back=true then decide ((fl.getD i default).low < 0) else decide (0 < (fl.getD i default).high))
def J58 (m:XMine) (i:Nat) (back:Bool):Int:=if back=true then (m.roads.l.getD i default).to else (m.roads.l.getD i default).fr
def J53 (m:XMine) (i:Nat) (back:Bool):Int:=if back=true then (m.roads.l.getD i default).fr else (m.roads.l.getD i default).to
theorem Jk4 {m:XMine} {fl:List XSpan} {a:XArc} {i:Nat}:a∈Jgc m fl i↔∃back,J6n m fl i back=true∧a=⟨i,J58 m i back,J53 m i back⟩:=by
  unfold Jgc J6n J58 J53
  constructor
  · intro h
    split at h
    · cases h
    · rename_i hc
      rcases List.mem_append.1 h with h | h
      · split at h
        · rename_i h1
          exact ⟨false,by rw [if_neg (by decide),Bool.and_eq_true,decide_eq_true_eq];exact ⟨by simpa using hc,h1⟩,by simpa using h⟩
        · cases h
      · split at h
        · rename_i h1
          exact ⟨true,by rw [if_pos rfl,Bool.and_eq_true,decide_eq_true_eq];exact ⟨by simpa using hc,h1⟩,by simpa using h⟩
        · cases h
  · rintro ⟨back, h, rfl⟩
    cases back with
    | false=>
      simp only [Bool.false_eq_true,if_false,Bool.and_eq_true,Bool.not_eq_true',decide_eq_true_eq] at h
      rw [if_neg (by rw [h.1];decide),if_pos h.2]
      simp
    | true=>
      simp only [if_true,Bool.and_eq_true,Bool.not_eq_true',decide_eq_true_eq] at h
      rw [if_neg (by rw [h.1];decide),if_pos h.2]
      simp
theorem Jm2 {m:XMine} {fl:List XSpan} {a:XArc}:a∈Jlg m fl↔∃(i:Nat) (back:Bool),i < m.roads.l.length∧J6n m fl i back=true∧a=⟨i,J58 m i back,J53 m i back⟩:=by
  rw [Jlg,Jo7]
  exact ⟨fun ⟨i,h1,h2⟩=>let ⟨b,h3,h4⟩:=Jk4.1 h2;⟨i,b,h1,h3,h4⟩,fun ⟨i,b,h1,h3,h4⟩=>⟨i,h1,Jk4.2 ⟨b,h3,h4⟩⟩⟩
theorem Jj6 {m : XMine} {fl : List XSpan} : ∀ k, (Je4 m fl k).Pairwise (fun a b => a.road ≤ b.road) ∧ ∀ a ∈ Je4 m fl k, a.road < (k : Int)
  | 0=>⟨List.Pairwise.nil,fun a h=>by cases h⟩
  | k + 1=>by
    obtain ⟨h1,h2⟩:=Jj6 (m:=m) (fl:=fl) k
    have h3:∀a∈Jgc m fl k,a.road=(k:Int):=fun a ha=>by
      obtain ⟨b,_,e⟩:=Jk4.1 ha
      rw [e]
    refine ⟨?_,fun a ha=>?_⟩
    · rw [Je4, List.pairwise_append]
      refine ⟨h1,?_,fun a ha b hb=>by have:=h2 a ha;have:=h3 b hb;omega⟩
      exact List.Pairwise.imp_of_mem (R:=fun _ _=>True) (fun ha hb _=>by have:=h3 _ ha;have:=h3 _ hb;omega) (List.pairwise_of_forall (fun _ _=>trivial))
    · rw [Je4, List.mem_append] at ha
      rcases ha with ha | ha
      · have:=h2 a ha;omega
      · have:=h3 a ha;omega
def Wy (m:XMine) (l:List XArc) (w:Int) (u v:Nat):Prop:=∃a∈l,a.road≠w∧a.fr=(u:Int)∧a.to=(v:Int)∧(m.places.l.getD v default).surface=false
inductive Goes (m : XMine) (l : List XArc) (w : Int) (u : Nat) : Nat → Prop
  | refl:Goes m l w u u
  | tail {v x:Nat} (h:Goes m l w u v) (k:Wy m l w v x):Goes m l w u x
theorem Goes.closed {m:XMine} {l:List XArc} {w:Int} {P:Nat→Prop} (hP:∀u v,P u→Wy m l w u v→P v) {u v:Nat} (h:Goes m l w u v) (hu:P u):P v:=by
  induction h with
  | refl=>exact hu
  | tail _ s ih=>exact hP _ _ ih s
structure SprIs (m:XMine) (l:List XArc) (w:Int) (seen out:List Bool):Prop where
  len:out.length=seen.length
  iff:∀i:Nat,i < seen.length→(out.getD i false=true↔∃j:Nat,j < seen.length∧seen.getD j false=true∧Goes m l w j i)
structure SprTo (m:XMine) (l:List XArc) (w:Int) (seen out:List Bool):Prop where
  len:out.length=seen.length
  sub:∀i:Nat,seen.getD i false=true→out.getD i false=true
  goes:∀i:Nat,out.getD i false=true→∃j:Nat,j < seen.length∧seen.getD j false=true∧Goes m l w j i
section
variable {m:XMine} {l:List XArc} {w:Int} {seen out:List Bool}
theorem SprTo.init:SprTo m l w seen seen:=⟨rfl,fun _ h=>h,fun i h=>⟨i,J29 h,h,.refl⟩⟩
theorem SprTo.next (h:SprTo m l w seen out) {u v:Nat} (hs:Wy m l w u v) (hu:out.getD u false=true) (hv:v < out.length):SprTo m l w seen (out.set v true):=by
  refine ⟨by simp [h.len],fun i hi=>?_,fun i hi=>?_⟩
  · rw [Jic hv]
    split
    · rfl
    · exact h.sub i hi
  · rw [Jic hv] at hi
    split at hi
    · rename_i e
      obtain ⟨j,h1,h2,h3⟩:=h.goes u hu
      exact ⟨j,h1,h2,by rw [e];exact h3.tail hs⟩
    · exact h.goes i hi
theorem SprTo.done (h:SprTo m l w seen out) (hr:∀u v:Nat,Wy m l w u v→out.getD u false=true→out.getD v false=true):SprIs m l w seen out:=
  ⟨h.len,fun i _=>⟨h.goes i,fun ⟨j,_,h2,h3⟩=>Goes.closed (P:=fun x=>out.getD x false=true) (fun u v hu hs=>hr u v hs hu) h3 (h.sub j h2)⟩⟩
end
def Jkf (m:XMine) (fl:List XSpan) (i:Nat) (back:Bool):Prop:=
  J6n m fl i back=true∧(m.places.l.getD (J58 m i back).toNat default).surface=false∧(m.places.l.getD (J53 m i back).toNat default).surface=false∧Goes m (Jlg m fl) i (J53 m i back).toNat (J58 m i back).toNat
def Jxc (n v:Nat):List Bool:=(List.replicate n false).set v true
theorem Jvj {n v i:Nat} (hv:v < n):(Jxc n v).getD i false=true↔i=v:=by
  rw [Jxc,Jic (by simp;exact hv)]
  split
  · rename_i e;exact ⟨fun _=>e,fun _=>rfl⟩
  · rename_i e
    rw [List.getD_eq_getElem?_getD,List.getElem?_replicate]
    refine ⟨fun h=>?_,fun h=>absurd h e⟩
    split at h <;> simp at h
theorem J24 {m:XMine} {l:List XArc} {w:Int} {n u v:Nat} {out:List Bool} (h:SprIs m l w (Jxc n v) out) (hv:v < n) (hu:u < n):out.getD u false=true↔Goes m l w v u:=by
  have hl:(Jxc n v).length=n:=by simp [Jxc]
  refine (h.iff u (by omega)).trans ⟨fun ⟨j,_,h2,h3⟩=>?_,fun h3=>⟨v,by omega,(Jvj hv).2 rfl,h3⟩⟩
  rw [(Jvj hv).1 h2] at h3
  exact h3
structure CircIs (m:XMine) (fl:List XSpan) (C:List Int):Prop where
  up:C.Pairwise (· < ·)
  iff:∀x:Int,x∈C↔∃(i:Nat) (back:Bool),x=(i:Int)∧i < m.roads.l.length∧Jkf m fl i back
theorem Jsx : ∀ {l l' : List Int}, l.Pairwise (· < ·) → l'.Pairwise (· < ·) → (∀ x, x ∈ l ↔ x ∈ l') → l = l'
  | [],[],_,_,_=>rfl
  | [],b :: r,_,_,h=>by have:=(h b).2 (by simp);cases this
  | a :: r,[],_,_,h=>by have:=(h a).1 (by simp);cases this
  | a :: r,b :: s,h1,h2,h=>by
    rw [List.pairwise_cons] at h1 h2
    have e:a=b:=by
      have ha:=(h a).1 (by simp)
      have hb:=(h b).2 (by simp)
      rcases List.mem_cons.1 ha with e | ha
      · exact e
      rcases List.mem_cons.1 hb with e | hb
      · exact e.symm
      have:=h2.1 a ha
      have:=h1.1 b hb
      omega
    subst e
    refine congrArg (a :: ·) (Jsx h1.2 h2.2 fun x=>⟨fun hx=>?_,fun hx=>?_⟩)
    · rcases List.mem_cons.1 ((h x).1 (by simp [hx])) with e | h'
      · have:=h1.1 x hx;omega
      · exact h'
    · rcases List.mem_cons.1 ((h x).2 (by simp [hx])) with e | h'
      · have:=h2.1 x hx;omega
      · exact h'
theorem CircIs.unique {m:XMine} {fl:List XSpan} {C C':List Int} (h:CircIs m fl C) (h':CircIs m fl C'):C=C':=
  Jsx h.up h'.up fun x=>(h.iff x).trans (h'.iff x).symm
structure CircTo (m:XMine) (fl:List XSpan) (k:Nat) (C:List Int):Prop where
  up:C.Pairwise (· < ·)
  lt:∀x∈C,x < (k:Int)
  len:C.length≤k
  iff:∀x:Int,x∈C↔∃(i:Nat) (back:Bool),x=(i:Int)∧i < k∧Jkf m fl i back
theorem CircTo.zero {m:XMine} {fl:List XSpan}:CircTo m fl 0 []:=⟨List.Pairwise.nil,fun x h=>(by cases h),Nat.le_refl _,fun x=>⟨fun h=>(by cases h),fun ⟨i,b,_,h,_⟩=>(by omega)⟩⟩
theorem CircTo.yes {m:XMine} {fl:List XSpan} {k:Nat} {C:List Int} (h:CircTo m fl k C) (hk:Jkf m fl k false∨Jkf m fl k true):CircTo m fl (k + 1) (C ++ [(k:Int)]):=by
  refine ⟨?_,fun x hx=>?_,by have:=h.len;simp;omega,fun x=>?_⟩
  · rw [List.pairwise_append]
    exact ⟨h.up,List.pairwise_singleton _ _,fun a ha b hb=>by rw [List.mem_singleton.1 hb];exact h.lt a ha⟩
  · rcases List.mem_append.1 hx with hx | hx
    · have:=h.lt x hx;omega
    · have:=List.mem_singleton.1 hx;omega
  · rw [List.mem_append, h.iff, List.mem_singleton]
    refine ⟨fun h1=>?_,fun ⟨i,b,h1,h2,h3⟩=>?_⟩
    · rcases h1 with ⟨i, b, h1, h2, h3⟩ | h1
      · exact ⟨i,b,h1,by omega,h3⟩
      · rcases hk with hk | hk
        · exact ⟨k,_,h1,by omega,hk⟩
        · exact ⟨k,_,h1,by omega,hk⟩
    · rcases Nat.lt_or_ge i k with h4 | h4
      · exact .inl ⟨i,b,h1,h4,h3⟩
      · exact .inr (by omega)
theorem CircTo.no {m:XMine} {fl:List XSpan} {k:Nat} {C:List Int} (h:CircTo m fl k C) (h1:¬ Jkf m fl k false) (h2:¬ Jkf m fl k true):CircTo m fl (k + 1) C:=by
  refine ⟨h.up,fun x hx=>by have:=h.lt x hx;omega,by have:=h.len;omega,fun x=>(h.iff x).trans ⟨fun ⟨i,b,a1,a2,a3⟩=>⟨i,b,a1,by omega,a3⟩,fun ⟨i,b,a1,a2,a3⟩=>?_⟩⟩
  rcases Nat.lt_or_ge i k with h4 | h4
  · exact ⟨i,b,a1,h4,a3⟩
  · obtain rfl : i = k := by omega
    cases b with
    | false=>exact absurd a3 h1
    | true=>exact absurd a3 h2
theorem CircTo.done {m:XMine} {fl:List XSpan} {C:List Int} (h:CircTo m fl m.roads.l.length C):CircIs m fl C:=⟨h.up,h.iff⟩
def J1g (m:XMine) (l:List XArc) (a:XArc):Prop:=(m.places.l.getD a.fr.toNat default).surface=false∧(m.places.l.getD a.to.toNat default).surface=false∧Goes m l a.road a.to.toNat a.fr.toNat
theorem Jzb {m:XMine} {fl:List XSpan} {x:Int}:(∃a∈Jlg m fl,a.road=x∧J1g m (Jlg m fl) a)↔∃(i:Nat) (back:Bool),x=(i:Int)∧i < m.roads.l.length∧Jkf m fl i back:=by
  constructor
  · rintro ⟨a, ha, rfl, h1, h2, h3⟩
    obtain ⟨i,b,hi,hc,rfl⟩:=Jm2.1 ha
    exact ⟨i,b,rfl,hi,hc,h1,h2,h3⟩
  · rintro ⟨i, b, rfl, hi, hc, h1, h2, h3⟩
    exact ⟨_,Jm2.2 ⟨i,b,hi,hc,rfl⟩,rfl,h1,h2,h3⟩
structure OnTo (m:XMine) (l:List XArc) (k:Nat) (M:List XArc):Prop where
  sub:M.Sublist (l.take k)
  iff:∀a:XArc,a∈M↔a∈l.take k∧J1g m l a
theorem OnTo.zero {m:XMine} {l:List XArc}:OnTo m l 0 []:=⟨List.nil_sublist _,fun a=>⟨fun h=>(by cases h),fun h=>(by simp at h)⟩⟩
theorem Jfg {α:Type} {l:List α} {k:Nat} {x:α} (h:l[k]?=some x):l.take (k + 1)=l.take k ++ [x]:=by
  rw [List.take_add_one,h];rfl
theorem OnTo.yes {m:XMine} {l:List XArc} {k:Nat} {M:List XArc} {a:XArc} (h:OnTo m l k M) (ha:l[k]?=some a) (hc:J1g m l a):OnTo m l (k + 1) (M ++ [a]):=by
  refine ⟨by rw [Jfg ha];exact h.sub.append_right _,fun x=>?_⟩
  rw [Jfg ha,List.mem_append,List.mem_append,h.iff,List.mem_singleton]
  refine ⟨fun h1=>?_,fun ⟨h1,h2⟩=>?_⟩
  · rcases h1 with h1 | h1
    · exact ⟨.inl h1.1,h1.2⟩
    · exact ⟨.inr h1,by rw [h1];exact hc⟩
  · rcases h1 with h1 | h1
    · exact .inl ⟨h1,h2⟩
    · exact .inr h1
theorem OnTo.no {m:XMine} {l:List XArc} {k:Nat} {M:List XArc} {a:XArc} (h:OnTo m l k M) (ha:l[k]?=some a) (hc:¬ J1g m l a):OnTo m l (k + 1) M:=by
  refine ⟨by rw [Jfg ha];exact h.sub.trans (List.sublist_append_left _ _),fun x=>?_⟩
  rw [Jfg ha,List.mem_append,h.iff,List.mem_singleton]
  refine ⟨fun h1=>⟨.inl h1.1,h1.2⟩,fun ⟨h1,h2⟩=>?_⟩
  rcases h1 with h1 | h1
  · exact ⟨h1,h2⟩
  · rw [h1] at h2;exact absurd h2 hc
structure RdsTo (M:List XArc) (k:Nat) (C:List Int):Prop where
  up:C.Pairwise (· < ·)
  len:C.length≤k
  last:∀x∈C,∀a∈M.drop k,x≤a.road
  iff:∀x:Int,x∈C↔∃a∈M.take k,a.road=x
theorem RdsTo.zero {M:List XArc}:RdsTo M 0 []:=⟨List.Pairwise.nil,Nat.le_refl _,fun x h=>(by cases h),fun x=>⟨fun h=>(by cases h),fun ⟨a,h,_⟩=>(by simp at h)⟩⟩
theorem RdsTo.yes {M:List XArc} {k:Nat} {C:List Int} {a:XArc} (h:RdsTo M k C) (hM:M.Pairwise (fun a b=>a.road≤b.road)) (ha:M[k]?=some a) (hc:C=[]∨C.getLast?≠some a.road):RdsTo M (k + 1) (C ++ [a.road]):=by
  have hdr:=Jd2 ha
  have hlt:∀x∈C,x < a.road:=fun x hx=>by
    have h1:=h.last x hx a (by rw [hdr];simp)
    rcases Int.lt_or_eq_of_le h1 with h1 | h1
    · exact h1
    · exfalso
      rcases hc with hc | hc
      · rw [hc] at hx;cases hx
      · refine hc ?_
        -- the greatest one stands last
        have hne:C≠[]:=List.ne_nil_of_mem hx
        rw [List.getLast?_eq_some_getLast hne]
        have h2:=h.last _ (List.getLast_mem hne) a (by rw [hdr];simp)
        have hdl:C=C.dropLast ++ [C.getLast hne]:=(List.dropLast_concat_getLast hne).symm
        have hup:=h.up
        rw [hdl,List.pairwise_append] at hup
        rw [hdl,List.mem_append,List.mem_singleton] at hx
        rcases hx with hx | hx
        · have:=hup.2.2 x hx _ (List.mem_singleton.2 rfl);omega
        · rw [← hx,h1]
  refine ⟨?_,by have:=h.len;simp;omega,fun x hx b hb=>?_,fun x=>?_⟩
  · rw [List.pairwise_append]
    exact ⟨h.up,List.pairwise_singleton _ _,fun x hx b hb=>by rw [List.mem_singleton.1 hb];exact hlt x hx⟩
  · have hab:a.road≤b.road:=by
      have h1:(M.drop k).Pairwise (fun a b=>a.road≤b.road):=hM.sublist (List.drop_sublist _ _)
      rw [hdr,List.pairwise_cons] at h1
      exact h1.1 b hb
    rcases List.mem_append.1 hx with hx | hx
    · have:=hlt x hx;omega
    · rw [List.mem_singleton.1 hx];exact hab
  · rw [Jfg ha, List.mem_append, h.iff, List.mem_singleton]
    refine ⟨fun h1=>?_,fun ⟨b,h1,h2⟩=>?_⟩
    · rcases h1 with ⟨b, h1, h2⟩ | h1
      · exact ⟨b,List.mem_append_left _ h1,h2⟩
      · exact ⟨a,by simp,h1.symm⟩
    · rcases List.mem_append.1 h1 with h1 | h1
      · exact .inl ⟨b,h1,h2⟩
      · rw [List.mem_singleton.1 h1] at h2;exact .inr h2.symm
theorem RdsTo.no {M:List XArc} {k:Nat} {C:List Int} {a:XArc} (h:RdsTo M k C) (ha:M[k]?=some a) (hc:C.getLast?=some a.road):RdsTo M (k + 1) C:=by
  have hdr:=Jd2 ha
  refine ⟨h.up,by have:=h.len;omega,fun x hx b hb=>h.last x hx b (by rw [hdr];simp [hb]),fun x=>?_⟩
  rw [Jfg ha,h.iff]
  refine ⟨fun ⟨b,h1,h2⟩=>⟨b,List.mem_append_left _ h1,h2⟩,fun ⟨b,h1,h2⟩=>?_⟩
  rcases List.mem_append.1 h1 with h1 | h1
  · exact ⟨b,h1,h2⟩
  · rw [List.mem_singleton.1 h1] at h2
    exact (h.iff x).1 (by rw [← h2];exact List.mem_of_getLast? hc)
theorem RdsTo.done {m:XMine} {fl:List XSpan} {M:List XArc} {C:List Int} (hM:OnTo m (Jlg m fl) (Jlg m fl).length M) (h:RdsTo M M.length C):CircIs m fl C:=by
  refine ⟨h.up,fun x=>?_⟩
  rw [← Jzb,h.iff,List.take_length]
  have h1:=hM.iff
  rw [List.take_length] at h1
  exact ⟨fun ⟨a,a1,a2⟩=>⟨a,((h1 a).1 a1).1,a2,((h1 a).1 a1).2⟩,fun ⟨a,a1,a2,a3⟩=>⟨a,(h1 a).2 ⟨a1,a3⟩,a2⟩⟩
theorem OnTo.sorted {m:XMine} {fl:List XSpan} {k:Nat} {M:List XArc} (h:OnTo m (Jlg m fl) k M):M.Pairwise (fun a b=>a.road≤b.road):=
  (Jj6 m.roads.l.length).1.sublist (h.sub.trans (List.take_sublist _ _))
end Go.Proofs.Ytihompplndcdeaa
end
