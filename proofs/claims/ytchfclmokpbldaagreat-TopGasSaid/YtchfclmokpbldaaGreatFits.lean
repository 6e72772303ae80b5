/-
  Merged texts. By an AI agent.
-/
import Derived.Test.YtchfclmokpbldaaGreatDraws
import Derived.ProofKit
import Derived.OpenShut
import Derived.ShutString
import Derived.ChangeOld
import Derived.Below
import Derived.Test.YtchfclmokpbldaaGreatChecks
import Derived.Test.YtchfclmokpbldaaGreatFans
import Derived.Test.YtchfclmokpbldaaGreatOwn
set_option linter.all false
set_option maxHeartbeats 4000000
set_option maxRecDepth 20000
namespace Go.Proofs.YtchfclmokpbldaaGreat
open Go.Aw Go
section
open Go.ChangeShapes Go.WideShapes Go.ChangeAt Go.RowKit
def Zre:ownKnob Tryz.prog.godebug=none:=by kernel_rfl
def V3f:laidOutB Tryz.prog=true:=by kernel_rfl
abbrev Old (W:World):Nat→Prop:=fun b=>b < W.heap.size
def V8e {W:World} {R:LS} (h:∀r∈R,Rep W (Old W) r):Holds [] (Old W) R W:=
 ⟨yOa,(fun e he=>by cases he),(fun e he=>by cases he),(fun _ h=>h),h⟩
def Y9e {W W':World} {G:Nat→Prop} {U:LB} {J:LS} (h:St ⟨W,inL [],G⟩ U J W'):Below W.heap.size W W':=
 ⟨h.keep.os,h.keep.tape,h.keep.output,h.keep.size,fun k hk=>h.keep.block k hk (fun ⟨e,he,_⟩=>by cases he)⟩
def Jmg {n:Int} (h:(Lit.int .u8 n).wf=true):0≤n∧n≤255:=by simp only [Lit.wf,yo,decide_eq_true_eq] at h;exact h
def J8f {W:World} {a:Addr} {v:Value} (h:W.cell? a=some v):a.block < W.heap.size:=by
 rcases yk a.block W.heap.size with h' | h';·exact h'
 ·unfold World.cell? at h;rw [yF h'] at h;simp at h
end
section
open Go.ChangeShapes Go.WideShapes Go.ChangeAt Go.RowKit
def Rd (P:Program) (w:World) (t:TypeId) (cs:List Value):Prop:=∃(H:Type) (enc:TypeId×Value→H) (fuel:Nat) (x:DataW H×List MemPlace),DataW.trod enc P w 0 (fun _=>true) true fuel t cs=some x
def Opens (P:Program) (t:TypeId) {α:Type} (f:α→List Value) (subs:α→LS) (ok:α→Prop):Prop:=
 ∀(w:World) (cs:List Value),Rd P w t cs→∃a:α,cs=f a∧ok a∧∀s∈subs a,Rep w (Old w) s
def Uqe {P:Program} {t:TypeId} {k:IntKind} (ht:P.underlying t=some (.int k)):Opens P t (fun n=>[.int k n]) (fun _=>[]) (fun n=>(Lit.int k n).wf=true):=by rintro w cs ⟨H,enc,fuel,x,hx⟩;obtain ⟨n,rfl,_,hw⟩:=DataW.trod_int ht hx;exact ⟨n,rfl,hw,fun _ h=>by cases h⟩
def Uod {P:Program} {t e:TypeId} {wd:Nat} {α:Type} {f:α→List Value} {subs:α→LS} {ok:α→Prop} (ht:P.underlying t=some (.slice e)) (hc:P.cellsOf e=wd) (hw:0 < wd) (hf:∀a,(f a).length=wd) (he:Opens P e f subs ok):
 Opens P t (fun x:Arr α=>[x.val]) (fun x=>[x.sl wd f (x.l.flatMap subs)]) (fun x=>∀a∈x.l,ok a):=by
 rintro w cs ⟨H,enc,fuel,x,hx⟩;rcases DataW.trod_slice ht hx with ⟨rfl,_⟩ | ⟨a,len,cap,elems,rest,n,_,rfl,_,_,hl,hm,hlen,hel,_,_⟩;·exact ⟨⟨none,0,[]⟩,rfl,(fun _ h=>by cases h),fun s hs=>by rw [List.mem_singleton.1 hs];exact Uje⟩
 ·
  have each:∀k,k≤len→∃l:List α,l.length=k∧(∀(i:Nat) (y:α),l[i]?=some y→w.cells? 0 (a.add (i * wd)) wd=some (f y))∧(∀y∈l,ok y)∧∀s∈l.flatMap subs,Rep w (Old w) s:=by
   intro k;induction k with
   | zero=>exact fun _=>⟨[],rfl,(fun i y h=>by simp at h),(fun _ h=>by cases h),fun _ h=>by simp at h⟩
   | succ k ih=>
    intro hk;obtain ⟨l,h1,h2,h3,h4⟩:=ih za;have hb:=hel k za;rw [yB za,hc,yKa] at hb;obtain ⟨cs,hcs,hy⟩:=hb;obtain ⟨y,rfl,hok,hsub⟩:=he w cs ⟨H,enc,n,_,hy⟩;refine ⟨l ++ [y],by simp [h1],fun i z hi=>?_,fun z hz=>?_,fun s hs=>?_⟩;·
     rcases yk i l.length with hlt | hge;·rw [yP hlt] at hi;exact h2 i z hi
     ·rw [yZ hge] at hi;obtain ⟨h5,h6⟩:=List.getElem?_eq_some_iff.1 hi;simp at h5;(obtain rfl:i=k:=by omega);simp at h6;rw [← h6];exact hcs
    ·
     rcases List.mem_append.1 hz with h | h;·exact h3 z h
     ·rw [List.mem_singleton.1 h];exact hok
    ·
     rw [yUb] at hs;rcases List.mem_append.1 hs with h | h;·exact h4 s h
     ·exact hsub s zR
  obtain ⟨l,h1,h2,h3,h4⟩:=each len (ym _);refine ⟨⟨some a,cap,l⟩,by rw [← h1],h3,fun s hs=>?_⟩;rw [List.mem_singleton.1 hs];refine .mk zo (by rw [h1];exact hl) (by simp only [maxLen] at hm;show cap < _;omega) (fun r hr=>by obtain ⟨y,_,rfl⟩:=List.mem_map.1 hr;exact hf y) ?_ h4;rcases yac len with h0 | h0;·
   left;cases l with
   | nil=>rfl
   | cons y l=>simp at h1;omega
  ·right;(have cell:∀(i j:Nat) (y:α),l[i]?=some y→j < wd→w.cell? ((a.add (i * wd)).add j)=(f y)[j]?:=fun i j y hi hj=>by obtain ⟨_,h7,h8⟩:=World.cells?_some (h2 i y hi);exact h8 j za);obtain ⟨y0,hy0⟩:=Kn (l:=l) (k:=0) za;obtain ⟨v0,hv0⟩:=Kn (l:=f y0) (k:=0) (by rw [hf];omega);have hc0:=cell 0 0 y0 hy0 hw;rw [hv0] at hc0;obtain ⟨b,off,spot⟩:=a;(have hspot:spot=none:=by simpa [Addr.add] using World.cell?_spot hc0);subst hspot;refine ⟨b,off,rfl,J8f (a:=⟨b,off,none⟩) (v:=v0) (by simpa [Addr.add] using hc0),fun i j hi hj=>?_⟩;obtain ⟨y,hy⟩:=Kn (l:=l) (k:=i) hi;have:=cell i j y hy hj;rw [Kja,Kja] at this;rw [this,yq,hy];rfl
def Opens.conv {P:Program} {t:TypeId} {α:Type} {f:α→List Value} {subs subs':α→LS} {ok ok':α→Prop} (h:Opens P t f subs ok) (hs:∀a,subs' a=subs a) (ho:∀a,ok a→ok' a):Opens P t f subs' ok':=fun w cs hr=>by
 obtain ⟨a,h1,h2,h3⟩:=h w cs hr
 exact ⟨a,h1,ho a h2,by rw [hs a];exact h3⟩
def Uze {α:Type} (l:List α):l.flatMap (fun _=>([]:LS))=[]:=by induction l <;> simp_all
def Veg:Opens Tryz.prog 5 (fun n:Int=>[.int .u8 n]) (fun _=>[]) (fun n=>(Lit.int .u8 n).wf=true):=Uqe Tryz.underlying5
def Z4e:Opens Tryz.prog 22 (fun x:Arr Int=>[x.val]) (fun x=>[bsl x]) (fun x=>∀n∈x.l,(Lit.int .u8 n).wf=true):=
 (Uod (wd:=1) Tryz.underlying22 zc ze yf Veg).conv (fun x=>by rw [Uze];rfl) (fun _ h=>h)
end
section
def blc (b:Bool):List Value:=[.bool b]
def V5 (b:Bool):(blc b).length=1:=rfl
abbrev Vcg (x:Arr Bool):Sl:=x.sl 1 blc []
def Step (m:XMine) (u v:Nat):Prop:=∃r∈m.roads.l,r.closed=false∧((r.fr=(u:Int)∧r.to=(v:Int))∨(r.fr=(v:Int)∧r.to=(u:Int)))
inductive Conn (m : XMine) (u : Nat) : Nat → Prop
 | refl:Conn m u u
 | tail {v w:Nat} (h:Conn m u v) (k:Step m v w):Conn m u w
def Step.symm {m:XMine} {u v:Nat} (h:Step m u v):Step m v u:=by
 obtain ⟨r,hr,hc,h1 | h1⟩:=h;·exact ⟨r,hr,hc,.inr h1⟩
 ·exact ⟨r,hr,hc,.inl h1⟩
def Conn.trans {m:XMine} {u v w:Nat} (h:Conn m u v) (k:Conn m v w):Conn m u w:=by
 induction k with
 | refl=>exact h
 | tail _ s ih=>exact ih.tail s
def Conn.symm {m:XMine} {u v:Nat} (h:Conn m u v):Conn m v u:=by
 induction h with
 | refl=>exact .refl
 | tail _ s ih=>exact (Conn.refl.tail s.symm).trans ih
def Conn.closed {m:XMine} {P:Nat→Prop} (hP:∀u v,P u→Step m u v→P v) {u v:Nat} (h:Conn m u v) (hu:P u):P v:=by
 induction h with
 | refl=>exact hu
 | tail _ s ih=>exact hP _ _ ih s
def Step.lt {m:XMine} (hm:MineOk m) {u v:Nat} (h:Step m u v):u < m.places.l.length∧v < m.places.l.length:=by obtain ⟨r,hr,_,h1⟩:=h;obtain ⟨i,hi⟩:=List.mem_iff_getElem?.1 hr;have hro:=hm.road i r hi;have h2:=hro.fr;have h3:=hro.to;rcases h1 with h1 | h1 <;> omega
structure FromIs (m:XMine) (seen l:List Bool):Prop where
 len:l.length=seen.length
 iff:∀i:Nat,i < seen.length→(l.getD i false=true↔∃j:Nat,j < seen.length∧seen.getD j false=true∧Conn m j i)
def FromIs.unique {m:XMine} {seen l l':List Bool} (h:FromIs m seen l) (h':FromIs m seen l'):l=l':=by have e1:=h.len;have e2:=h'.len;refine List.ext_getElem za fun i h1 h2=>?_;have a1:=h.iff i za;have a2:=h'.iff i za;rw [← a2] at a1;have g1:=Jp (l:=l) (k:=i) false h1;have g2:=Jp (l:=l') (k:=i) false h2;rw [yB h1] at g1;rw [yB h2] at g2;rw [yG g1,yG g2];cases e:l.getD i false <;> cases e':l'.getD i false <;> simp_all
def surf (m:XMine):List Bool:=m.places.l.map XPlace.surface
abbrev AiryIs (m:XMine) (l:List Bool):Prop:=FromIs m (surf m) l
def Y3a {l:List Bool} {k i:Nat} {v:Bool} (hk:k < l.length):(l.set k v).getD i false=if i=k then v else l.getD i false:=by exact uaK
def Vwf {l:List Bool} {i:Nat} (h:l.getD i false=true):i < l.length:=by
 rcases yk i l.length with h' | h';·exact h'
 ·rw [yi,yu h'] at h;cases h
def Z4a (l:List Bool):Nat:=l.countP (fun b=>!b)
def Jve {l:List Bool} {i:Nat} (hi:i < l.length) (h:l.getD i false=false):Z4a (l.set i true) + 1=Z4a l:=by
 unfold Z4a;have hg:l[i]=false:=by have:=Jp (l:=l) (k:=i) false hi;rw [yB hi,h] at this;exact yG this
 rw [List.countP_set hi,hg];have:0 < List.countP (fun b=>!b) l:=List.countP_pos_iff.2 ⟨l[i],List.getElem_mem hi,by rw [hg];rfl⟩;simp;omega
end
end Go.Proofs.YtchfclmokpbldaaGreat
section
/-
  Fits: FlowS, FlowM, FitsF, Copy, Mades, Wide, in one text. By an AI agent; no person has read it.
-/
section
namespace Go.Proofs.YtchfclmokpbldaaGreat
open Go.Aw Go
structure LowIs (f:Int→XSpan) (p z:Int):Prop where
 bnd:-1048577≤z∧z≤1048576
 le:∀x,-1048577 < x→x≤z→(f x).high≤p
 gt:∀x,z < x→x≤1048576→p < (f x).high
structure HighIs (f:Int→XSpan) (p z:Int):Prop where
 bnd:-1048576≤z∧z≤1048577
 lt:∀x,-1048576≤x→x < z→(f x).low < p
 ge:∀x,z≤x→x < 1048577→p≤(f x).low
def Ksa {a:XAir} {s:XSetting} (ha:AirOk a) {r:Int} (hr:0≤r∧r < a.mine.roads.l.length) (p:Int):LowIs (Ky a s r) p (Ud (Ky a s r) p):=by obtain ⟨a1,a2,a3,a4⟩:=Vic (pr:=p) (Joe (s:=s) ha hr) _ (-1048577) 1048576 rfl za za za;exact ⟨⟨a1,a2⟩,a3,a4⟩
def Jea {a:XAir} {s:XSetting} (ha:AirOk a) {r:Int} (hr:0≤r∧r < a.mine.roads.l.length) (p:Int):HighIs (Ky a s r) p (K3 (Ky a s r) p):=by obtain ⟨a1,a2,a3,a4⟩:=V9b (pr:=p) (Vhe (s:=s) ha hr) _ (-1048576) 1048577 rfl za za za;exact ⟨⟨a1,a2⟩,a3,a4⟩
def Ufa {a:XAir} {s:XSetting} (ha:AirOk a) {r:Int} (hr:0≤r∧r < a.mine.roads.l.length) {p p':Int} (hp:p≤p'):Ud (Ky a s r) p≤Ud (Ky a s r) p':=by
 have h1:=Ksa (s:=s) ha hr p;have h2:=Ksa (s:=s) ha hr p';generalize Ud (Ky a s r) p=l at *;generalize Ud (Ky a s r) p'=h at *;rcases yla h l with hlt | hle;·have b1 := h1.bnd;have b2:=h2.bnd;have k1:=h2.gt l hlt za;have k2:=h1.le l za (yz _);omega
 ·exact hle
def Kpa {a:XAir} {s:XSetting} (ha:AirOk a) {r:Int} (hr:0≤r∧r < a.mine.roads.l.length) {p p':Int} (hp:p≤p'):K3 (Ky a s r) p≤K3 (Ky a s r) p':=by
 have h1:=Jea (s:=s) ha hr p;have h2:=Jea (s:=s) ha hr p';generalize K3 (Ky a s r) p=l at *;generalize K3 (Ky a s r) p'=h at *;rcases yla h l with hlt | hle;·have b1 := h1.bnd;have b2:=h2.bnd;have k1:=h1.lt h za hlt;have k2:=h2.ge h (yz _) za;omega
 ·exact hle
end Go.Proofs.YtchfclmokpbldaaGreat
end
section
namespace Go.Proofs.YtchfclmokpbldaaGreat
open Go.Aw Go
end Go.Proofs.YtchfclmokpbldaaGreat
end
section
namespace Go.Proofs.YtchfclmokpbldaaGreat
open Go.Aw Go
structure FitsF (a:XAir) (s:XSetting) (x:XState):Prop where
 plen:x.pres.l.length=a.mine.places.l.length
 flen:x.flows.l.length=a.mine.roads.l.length
 pres:∀p∈x.pres.l,-70368744177664≤p∧p≤70368744177664
 flow:∀q∈x.flows.l,-1048576≤q∧q≤1048576
 road:∀i,i < a.mine.roads.l.length→Y0 a s x i=none
 place:∀i,i < a.mine.places.l.length→Yb a x (Yla a x x.flows.l.length) i=none
def Jzf {a:XAir} {s:XSetting} {x:XState} (h0:Kx a=0) (h1:Uka a s=true) (h:Z8d a s x=0):FitsF a s x:=by
 by_cases hl:x.pres.l.length≠a.mine.places.l.length∨x.flows.l.length≠a.mine.roads.l.length;·rw [Z8d, if_neg (by simp [h0]), if_neg (by simp [h1]), if_pos hl] at h;cases h
 ·
  rw [V9d h0 h1 hl] at h;have hp:x.pres.l.findSome? Uv=none:=by
   cases e:x.pres.l.findSome? Uv with
   | none=>rfl
   | some v=>rw [e] at h;obtain ⟨p,_,hp⟩:=yy e;unfold Uv at hp;exact ua8
  rw [hp] at h;dsimp only at h;have hq:x.flows.l.findSome? Jjb=none:=by
   cases e:x.flows.l.findSome? Jjb with
   | none=>rfl
   | some v=>rw [e] at h;obtain ⟨p,_,hp⟩:=yy e;unfold Jjb at hp;exact ua8
  rw [hq] at h;dsimp only at h;have hr:(List.range x.flows.l.length).findSome? (Y0 a s x)=none:=by
   cases e:(List.range x.flows.l.length).findSome? (Y0 a s x) with
   | none=>rfl
   | some v=>rw [e] at h;obtain ⟨p,_,hp⟩:=yy e;unfold Y0 at hp;dsimp only at hp;exact ua8
  rw [hr] at h;dsimp only at h;have hk:(List.range x.pres.l.length).findSome? (Yb a x (Yla a x x.flows.l.length))=none:=by
   cases e:(List.range x.pres.l.length).findSome? (Yb a x (Yla a x x.flows.l.length)) with
   | none=>rfl
   | some v=>rw [e] at h;obtain ⟨p,_,hp⟩:=yy e;unfold Yb at hp;exact ua8
  refine ⟨by omega,by omega,fun p hm=>?_,fun q hm=>?_,fun i hi=>?_,fun i hi=>?_⟩;·have := List.findSome?_eq_none_iff.1 hp p hm;unfold Uv at this;exact uaO
  ·have := List.findSome?_eq_none_iff.1 hq q hm;unfold Jjb at this;exact uaO
  ·exact List.findSome?_eq_none_iff.1 hr i (List.mem_range.2 za)
  ·exact List.findSome?_eq_none_iff.1 hk i (List.mem_range.2 za)
def FitsF.shut {a:XAir} {s:XSetting} {x:XState} (h:FitsF a s x) {i:Nat} (hi:i < a.mine.roads.l.length) (hc:(a.mine.roads.l.getD i default).closed=true):x.flows.l.getD i 0=0:=by
 have:=h.road i hi;unfold Y0 at this;dsimp only at this;split at this;·cases this
 ·
  rename_i hn;rcases Int.decEq (x.flows.l.getD i 0) 0 with h0 | h0;·exact absurd (.inl ⟨hc,h0⟩) hn
  ·exact h0
def FitsF.fit {a:XAir} {s:XSetting} {x:XState} (h:FitsF a s x) {i:Nat} (hi:i < a.mine.roads.l.length) (hc:(a.mine.roads.l.getD i default).closed=false):
 (Ky a s i (x.flows.l.getD i 0)).low≤x.pres.l.getD (a.mine.roads.l.getD i default).fr.toNat 0 - x.pres.l.getD (a.mine.roads.l.getD i default).to.toNat 0∧x.pres.l.getD (a.mine.roads.l.getD i default).fr.toNat 0 - x.pres.l.getD (a.mine.roads.l.getD i default).to.toNat 0≤(Ky a s i (x.flows.l.getD i 0)).high:=by
 have:=h.road i hi;unfold Y0 at this;dsimp only at this;split at this;·cases this
 ·rename_i hn;refine ⟨Int.not_lt.1 fun h1=>hn (.inr ⟨hc,.inl h1⟩),Int.not_lt.1 fun h1=>hn (.inr ⟨hc,.inr h1⟩)⟩
def FitsF.inside {a : XAir} {s : XSetting} {x : XState} (h : FitsF a s x) (ha : AirOk a) {i : Nat} (hi : i < a.mine.roads.l.length) (hc : (a.mine.roads.l.getD i default).closed = false) {d : Int}
 (hd:d=x.pres.l.getD (a.mine.roads.l.getD i default).fr.toNat 0 - x.pres.l.getD (a.mine.roads.l.getD i default).to.toNat 0):
 Ud (Ky a s i) d≤x.flows.l.getD i 0∧x.flows.l.getD i 0≤K3 (Ky a s i) d:=by
 have hf:=h.fit hi hc;rw [← hd] at hf;have hr:(0:Int)≤(i:Int)∧(i:Int) < a.mine.roads.l.length:=by omega
 have hfl:=h.flen;have hq:=h.flow _ (yh (Jp (l:=x.flows.l) (k:=i) 0 za));have h1:=Ksa (s:=s) ha hr d;have h2:=Jea (s:=s) ha hr d;generalize Ud (Ky a s i) d=l at *;generalize K3 (Ky a s i) d=u at *;generalize x.flows.l.getD i 0=q at *;have b1:=h1.bnd;have b2:=h2.bnd;refine ⟨Int.not_lt.1 fun hl=>?_,Int.not_lt.1 fun hl=>?_⟩;·have k1 := h1.le l za (yz _);have k2:=(Vna (s:=s) ha hr hl).2;omega
 ·have k1 := h2.ge u (yz _) za;have k2:=(Vna (s:=s) ha hr hl).1;omega
end Go.Proofs.YtchfclmokpbldaaGreat
end
section
namespace Go.Aw
open Go
def Zca {P:Program} (w:World) (t ty e:TypeId) (i:TypeInfo) (ht:P.underlying t=some (.slice e)) (hi:P.info? e=some i) (ar:Option Addr) (c:Nat):
 (Builtin.append_ #[t,t] ty #[.slice none 0 0,.slice ar 0 c]).run P w=.ok (.slice none 0 0) w:=by
 cases ar with
 | none=>simp [Builtin.append_,run_underlying ht,sizeOf,typeInfo,hi,Builtin.lenOf,run_firstCells_none,Builtin.firstCells]
 | some a=>have hf:=run_firstCells_some (P:=P) w i.size 0 a 0 c [] zo zo;simp [Builtin.append_,run_underlying ht,sizeOf,typeInfo,hi,Builtin.lenOf,hf]
section
variable {P:Program} {ρ:Operand→Value} {L:LB} {R:LS} {dst:Option Tmp} {ty:TypeId} {pos:String} {after:Array Edge} {guard:Option (Nat×Bool)} (tb:Tabs P) {T:TypeId} {x y:Operand}
def Kt {α : Type} {e n fl bt z k2 n2 fl2 bt2 z2} {f : α → List Value} {xs : Arr α} {subs : LS} (hT : Yy tb.tab T = some ⟨.slice e, n, fl, bt, z⟩) (hE : Yy tb.tab e = some ⟨k2, n2, fl2, bt2, z2⟩) (hn2 : z2.length = n2) (h0 : 0 < n2)
 (hx:ρ x=.slice none 0 0) (hy:ρ y=xs.val) (hR:InR (xs.sl n2 f subs) R) (h1:∀a,(f a).all (·.oneCell')=true) (hby:xs.l.length * (bt2 + 1)≤140737488355328):
 Gives P ⟨dst,.call ⟨.builtin .append,#[x,y],#[T,T]⟩,ty,pos,after,guard⟩ ρ L R (fun v U J=>∃o:Ow,v=(⟨o,xs.l⟩:OwL α).val∧(⟨o,xs.l⟩:OwL α).ok n2 f∧(⟨o,xs.l⟩:OwL α).L e f ++ L=U∧R=J):=by
 intro c w hst a next Q kk
 obtain ⟨ar,cap,l⟩:=xs;cases l with
 | nil=>
  have hu:=Vp (tb.ok _ _ hT) rfl;obtain ⟨ti,u,zv,i1,i2,i3,i4⟩:=Vb (tb.ok _ _ hE);have e1:execOp ρ ⟨dst,.call ⟨.builtin .append,#[x,y],#[T,T]⟩,ty,pos,after,guard⟩=(do pure (.value (← Builtin.append_ #[T,T] ty #[ρ x,ρ y]))):=by exact ube
  have hr:=Zca w T ty e ti hu i1 ar cap;refine V9 (w':=w) (v:=.slice none 0 0) ?_ (kk _ _ _ w ⟨.nil,rfl,⟨rfl,rfl⟩,rfl,rfl⟩ hst);rw [e1,hx,hy];simp only [Arr.val,yda,yea,hr,yE,yCa]
 | cons x0 l=>
  have hw:∀r∈(x0 :: l).map f,r.length=n2:=by
   have hst':=hst;obtain ⟨⟨G,hh,_⟩,_,_⟩:=hst';obtain ⟨r,hr,hsub⟩:=hR;have hrep:=(hh.rep r hr).sub hsub;cases hrep with
   | mk _ _ _ hw _ _=>exact hw
  have hf0:((x0 :: l).map f).flatten=(x0 :: l).flatMap f:=Kcb _;have hfl:((x0 :: l).map f).flatten.length=(x0 :: l).length * n2:=by
   have:∀rows:List (List Value),(∀r∈rows,r.length=n2)→rows.flatten.length=rows.length * n2:=by
    intro rows;induction rows with
    | nil=>intro _;simp
    | cons r rows ih=>intro h;rw [ygc,yl,ih fun r hr=>h r zI,h r zo,yA,yya];omega
   rw [this _ hw,yD]
  have hs:=Vhd (L:=L) hR h0 (fun c w hst=>by
   obtain ⟨⟨G,hh,_⟩,_,_⟩:=hst;obtain ⟨r,hr,hsub⟩:=hR;have hrep:=(hh.rep r hr).sub hsub;cases hrep with
   | mk _ _ _ _ hm _=>
    rcases hm with h | ⟨b,off,ha,_⟩;·simp at h
    ·exact ⟨b,off,ha⟩) hfl ⟨c,w,hst⟩
  have hb1:(x0 :: l).length * bt2≤140737488355328:=ysa (ySb _ (Nat.le_succ _)) hby;have hb2:(x0 :: l).length≤140737488355328:=ysa (yxb _ (Nat.succ_pos _)) hby;have hs2:Jge L R (ρ y) (x0 :: l).length n2 ((x0 :: l).map f).flatten:=by rw [hy];exact hs
  have hall:(((x0 :: l).map f).flatten).all (·.oneCell')=true:=by rw [List.all_eq_true];intro v hv;obtain ⟨r,hr,hv⟩:=List.mem_flatten.1 hv;obtain ⟨a,_,rfl⟩:=List.mem_map.1 hr;exact List.all_eq_true.1 (h1 a) v hv
  have:=Yva (dst:=dst) (ty:=ty) (pos:=pos) (after:=after) (guard:=guard) (s:=.nil) (xs:=[]) (len:=0) (L:=L) (f:=fun Y=>Y ++ L) tb hT hE hn2 hx ⟨rfl,rfl⟩ Seg.here hs2 zo hall za (by rw [yNa];exact hb1);refine this c w hst a next Q ?_
  rintro v U J w' ⟨g,cap2,spare,rfl,hok',rfl,rfl⟩ hst';rw [yv,hf0,yNa] at hok';refine kk _ _ _ w' ⟨.own g cap2 spare,?_,hok',?_,rfl⟩ hst';·rw [yNa];rfl
  ·rw [yv,hf0];rfl
end
def Off.leftu {ws:List Nat} {t0 t:Nat→Value} {d:Nat} {v:Value} (hd:Jjc d ws=true) (h:Off ws t0 t):Off ws (Aw.upd t0 d v) t:=fun k hk=>by
 rw [h k hk]
 exact ((Off.upd hd (Off.refl (ws:=ws) (t:=t0))) k hk).symm
def Tri.cast {P:Program} {f:FuncId} {args args':Array Value} {L:LB} {R:LS} {Post:Ys} (h:Tri P f args L R Post) (e:args=args'):Tri P f args' L R Post:=e ▸ h
def Jha {P : Program} {ρ : Operand → Value} {L : LB} {R : LS} {dst : Option Tmp} {ty : TypeId} {pos : String} {after : Array Edge} {guard : Option (Nat × Bool)} {cal : Operand} {xs : List Operand} {ts : Array TypeId} {f : FuncId} {cap : Array Value} {args : List Value} {Post : Ys}
 (hc:ρ cal=.func (.func f) #[] cap) (ha:xs.map ρ ++ cap.toList=args) (h:Tri P f args.toArray L R Post):Gives P ⟨dst,.call ⟨.value cal,xs.toArray,ts⟩,ty,pos,after,guard⟩ ρ L R Post:=by
 intro x w hs a next Q k
 have ha':#[] ++ xs.toArray.map ρ ++ cap=args.toArray:=by rw [← ha];simp
 have hrun:(execOp ρ ⟨dst,.call ⟨.value cal,xs.toArray,ts⟩,ty,pos,after,guard⟩).run P w=.ok (.enter f args.toArray) w:=by have h1:=h.1 args.toArray w;simp only [execOp,resolve,hc,Deferred.ofValue];simp only [Array.empty_append] at ha';simp only [invoke,yea,yCa,yE,Array.empty_append,ha'];exact h1
 exact uaN
def Vdc {P:Program} {ρ:Operand→Value} {L:LB} {R:LS} {dst:Option Tmp} {ty:TypeId} {pos:String} {after:Array Edge} {guard:Option (Nat×Bool)} {fn:Fn} {cs:List Operand} {vs:List Value} (hv:cs.map ρ=vs):
 YV P ⟨dst,.makeFunc fn #[] cs.toArray,ty,pos,after,guard⟩ ρ L R (.func fn #[] vs.toArray):=fun _ w _=>by
 subst hv
 simp [execOp,Instr.makeFunc]
section
variable {P:Program} {n:Nat} {all:Array Oper} {op:Op} {ty:TypeId} {pos:String} {after:Array Edge} {rest:List Oper} {t:Nat→Value} {L:LB} {R:LS} {Q:Kw} {d:Tmp} {v:Value} {g:Option (Nat×Bool)}
def Vkg {ops:List Oper} {U:LB} (h:L=U) (k:LJ P n all ops t U R Q):LJ P n all ops t L R Q:=h ▸ k
def J0a (hv:YV P ⟨some d,op,ty,pos,after,g⟩ (ev t) L R v) (hw:Yq all t g=true) (hd:Nat.blt d n=true) (h:LJ P n all rest (upd t d v) L R Q):LJ P n all (⟨some d,op,ty,pos,after,g⟩ :: rest) t L R Q:=Vsd hv hw hd h
def Uic {Post:Ys} (hg:Gives P ⟨some d,op,ty,pos,after,g⟩ (ev t) L R Post) (hw:Yq all t g=true) (hd:Nat.blt d n=true) (h:∀v U J,Post v U J→LJ P n all rest (upd t d v) U J Q):LJ P n all (⟨some d,op,ty,pos,after,g⟩ :: rest) t L R Q:=V4b hg hw hd h
def V7c {f : FuncId} {xs : List Operand} {ts : Array TypeId} {args : List Value} {Post : Ys} (ha : xs.map (ev t) = args) (h : Tri P f args.toArray L R Post) (hw : Yq all t g = true) (hd : Nat.blt d n = true)
 (k:∀v U J,Post v U J→LJ P n all rest (upd t d v) U J Q):LJ P n all (⟨some d,.call ⟨.value (.func f),xs.toArray,ts⟩,ty,pos,after,g⟩ :: rest) t L R Q:=
 Uic (Uza zsa rfl h) hw hd k
def Vjb (hw:Yq all t g=false) (hd:Nat.blt d n=true) (h:LJ P n all rest (upd t d undef) L R Q):LJ P n all (⟨some d,op,ty,pos,after,g⟩ :: rest) t L R Q:=U0f hw hd h
end
end Go.Aw
end
section
namespace Go.Proofs.YtchfclmokpbldaaGreat
open Go.Aw Go
set_option maxRecDepth 20000
attribute [local irreducible] CJ LJ DJ Tri YV Gives Uq J2 Kj Ut RV J3 OwL.L
def Vtf {P n code t R} {Q : Kw} {A : LB} {m : MadeO} {cb : Blk} {b1 b2 b3 : Nat} {T1 T2 T3 : TypeId} (hm : m.Ok) (hM : MadeA m.a m.t m.x) (hf : ∀ f ∈ m.fans.l, InR f.sl R) (hd : ∀ d ∈ m.doors.l, InR d.sl R)
 (h:∀a s x J,MadeA a s x→AirR a J→SetR s J→StateR x J→(∀r∈R,InR r J)→CJ P n code t (⟨b3,x.cells,T3⟩ :: ⟨b2,s.cells,T2⟩ :: ⟨b1,a.cells,T1⟩ :: (A ++ (cb :: []))) J Q):
 CJ P n code t (⟨b3,m.x.cells,T3⟩ :: ⟨b2,m.t.cells,T2⟩ :: ⟨b1,m.a.cells,T1⟩ :: (A ++ m.L cb)) R Q:=
 Zqd (A:=⟨b3,m.x.cells,T3⟩ :: ⟨b2,m.t.cells,T2⟩ :: ⟨b1,m.a.cells,T1⟩ :: A) hm hf hd fun J h1 h2 h3 h4=>h m.a m.t m.x J hM h1 h2 h3 h4
structure MadeB (a:XAir) (s:XSetting) (x:XState):Prop where
 made:MadeA a s x
 ok:AirOk a
 fits:FitsF a s x
 right:Ksc a s=true
 fit:FitOk a s
def MadeA.b {a:XAir} {s:XSetting} {x:XState} (h:MadeA a s x):MadeB a s x:=
 ⟨h,V3 h.err,Jzf h.err h.fit h.fits,Yab h.err h.fit,(Vrc (Yab h.err h.fit)).2⟩
end Go.Proofs.YtchfclmokpbldaaGreat
end
section
namespace Go.Proofs.YtchfclmokpbldaaGreat
open Go.Aw Go
end Go.Proofs.YtchfclmokpbldaaGreat
end
end
namespace Go.Proofs.YtchfclmokpbldaaGreat
open Go.Aw Go
end Go.Proofs.YtchfclmokpbldaaGreat
