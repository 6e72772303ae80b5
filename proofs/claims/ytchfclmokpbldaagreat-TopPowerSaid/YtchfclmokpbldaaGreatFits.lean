/-
  Merged texts. By an AI agent.
-/
import Derived.Test.YtchfclmokpbldaaGreatDraws
import Derived.ProofKit
import Derived.OpenShut
import Derived.ShutString
import Derived.ChangeOld
import Derived.Below
import Derived.Test.YtchfclmokpbldaaGreatChecks
import Derived.Test.YtchfclmokpbldaaGreatFans
import Derived.Test.YtchfclmokpbldaaGreatOwn
set_option linter.all false
set_option maxHeartbeats 4000000
set_option maxRecDepth 20000
namespace Go.Proofs.YtchfclmokpbldaaGreat
open Go.Aw Go
section
open Go.ChangeShapes Go.WideShapes Go.ChangeAt Go.RowKit
def Yze:ownKnob Tryz.prog.godebug=none:=by kernel_rfl
def Kqf:laidOutB Tryz.prog=true:=by kernel_rfl
abbrev Old (W:World):Nat→Prop:=fun b=>b < W.heap.size
def K6e {W:World} {R:LS} (h:∀r∈R,Rep W (Old W) r):Holds [] (Old W) R W:=
 ⟨yna,(fun e he=>by cases he),(fun e he=>by cases he),(fun _ h=>h),h⟩
def Zae {W W':World} {G:Nat→Prop} {M:LB} {U:LS} (h:St ⟨W,inL [],G⟩ M U W'):Below W.heap.size W W':=
 ⟨h.keep.os,h.keep.tape,h.keep.output,h.keep.size,fun k hk=>h.keep.block k hk (fun ⟨e,he,_⟩=>by cases he)⟩
def Uwf {n:Int} (h:(Lit.int .u8 n).wf=true):0≤n∧n≤255:=by simp only [Lit.wf,yn,decide_eq_true_eq] at h;exact h
def Y7e {W:World} {a:Addr} {v:Value} (h:W.cell? a=some v):a.block < W.heap.size:=by
 rcases yk a.block W.heap.size with h' | h';·exact h'
 ·unfold World.cell? at h;rw [yA h'] at h;simp at h
end
section
open Go.ChangeShapes Go.WideShapes Go.ChangeAt Go.RowKit
def Rd (P:Program) (w:World) (t:TypeId) (cs:List Value):Prop:=∃(H:Type) (enc:TypeId×Value→H) (fuel:Nat) (x:DataW H×List MemPlace),DataW.trod enc P w 0 (fun _=>true) true fuel t cs=some x
def Opens (P:Program) (t:TypeId) {α:Type} (f:α→List Value) (subs:α→LS) (ok:α→Prop):Prop:=
 ∀(w:World) (cs:List Value),Rd P w t cs→∃a:α,cs=f a∧ok a∧∀s∈subs a,Rep w (Old w) s
def Vge {P:Program} {t:TypeId} {k:IntKind} (ht:P.underlying t=some (.int k)):Opens P t (fun n=>[.int k n]) (fun _=>[]) (fun n=>(Lit.int k n).wf=true):=by rintro w cs ⟨H,enc,fuel,x,hx⟩;obtain ⟨n,rfl,_,hw⟩:=DataW.trod_int ht hx;exact ⟨n,rfl,hw,fun _ h=>by cases h⟩
def Urd {P:Program} {t e:TypeId} {wd:Nat} {α:Type} {f:α→List Value} {subs:α→LS} {ok:α→Prop} (ht:P.underlying t=some (.slice e)) (hc:P.cellsOf e=wd) (hw:0 < wd) (hf:∀a,(f a).length=wd) (he:Opens P e f subs ok):
 Opens P t (fun x:Arr α=>[x.val]) (fun x=>[x.sl wd f (x.l.flatMap subs)]) (fun x=>∀a∈x.l,ok a):=by
 rintro w cs ⟨H,enc,fuel,x,hx⟩;rcases DataW.trod_slice ht hx with ⟨rfl,_⟩ | ⟨a,len,cap,elems,rest,n,_,rfl,_,_,hl,hm,hlen,hel,_,_⟩;·exact ⟨⟨none,0,[]⟩,rfl,(fun _ h=>by cases h),fun s hs=>by rw [List.mem_singleton.1 hs];exact Jse⟩
 ·
  have each:∀k,k≤len→∃l:List α,l.length=k∧(∀(i:Nat) (y:α),l[i]?=some y→w.cells? 0 (a.add (i * wd)) wd=some (f y))∧(∀y∈l,ok y)∧∀s∈l.flatMap subs,Rep w (Old w) s:=by
   intro k;induction k with
   | zero=>exact fun _=>⟨[],rfl,(fun i y h=>by simp at h),(fun _ h=>by cases h),fun _ h=>by simp at h⟩
   | succ k ih=>
    intro hk;obtain ⟨l,h1,h2,h3,h4⟩:=ih za;have hb:=hel k za;rw [yC za,hc,yGa] at hb;obtain ⟨cs,hcs,hy⟩:=hb;obtain ⟨y,rfl,hok,hsub⟩:=he w cs ⟨H,enc,n,_,hy⟩;refine ⟨l ++ [y],by simp [h1],fun i z hi=>?_,fun z hz=>?_,fun s hs=>?_⟩;·
     rcases yk i l.length with hlt | hge;·rw [yV hlt] at hi;exact h2 i z hi
     ·rw [yX hge] at hi;obtain ⟨h5,h6⟩:=List.getElem?_eq_some_iff.1 hi;simp at h5;(obtain rfl:i=k:=by omega);simp at h6;rw [← h6];exact hcs
    ·
     rcases List.mem_append.1 hz with h | h;·exact h3 z h
     ·rw [List.mem_singleton.1 h];exact hok
    ·
     rw [yLb] at hs;rcases List.mem_append.1 hs with h | h;·exact h4 s h
     ·exact hsub s zX
  obtain ⟨l,h1,h2,h3,h4⟩:=each len (yl _);refine ⟨⟨some a,cap,l⟩,by rw [← h1],h3,fun s hs=>?_⟩;rw [List.mem_singleton.1 hs];refine .mk zo (by rw [h1];exact hl) (by simp only [maxLen] at hm;show cap < _;omega) (fun r hr=>by obtain ⟨y,_,rfl⟩:=List.mem_map.1 hr;exact hf y) ?_ h4;rcases yrb len with h0 | h0;·
   left;cases l with
   | nil=>rfl
   | cons y l=>simp at h1;omega
  ·right;(have cell:∀(i j:Nat) (y:α),l[i]?=some y→j < wd→w.cell? ((a.add (i * wd)).add j)=(f y)[j]?:=fun i j y hi hj=>by obtain ⟨_,h7,h8⟩:=World.cells?_some (h2 i y hi);exact h8 j za);obtain ⟨y0,hy0⟩:=Ky (l:=l) (k:=0) za;obtain ⟨v0,hv0⟩:=Ky (l:=f y0) (k:=0) (by rw [hf];omega);have hc0:=cell 0 0 y0 hy0 hw;rw [hv0] at hc0;obtain ⟨b,off,spot⟩:=a;(have hspot:spot=none:=by simpa [Addr.add] using World.cell?_spot hc0);subst hspot;refine ⟨b,off,rfl,Y7e (a:=⟨b,off,none⟩) (v:=v0) (by simpa [Addr.add] using hc0),fun i j hi hj=>?_⟩;obtain ⟨y,hy⟩:=Ky (l:=l) (k:=i) hi;have:=cell i j y hy hj;rw [Uha,Uha] at this;rw [this,yt,hy];rfl
def Opens.conv {P:Program} {t:TypeId} {α:Type} {f:α→List Value} {subs subs':α→LS} {ok ok':α→Prop} (h:Opens P t f subs ok) (hs:∀a,subs' a=subs a) (ho:∀a,ok a→ok' a):Opens P t f subs' ok':=fun w cs hr=>by
 obtain ⟨a,h1,h2,h3⟩:=h w cs hr
 exact ⟨a,h1,ho a h2,by rw [hs a];exact h3⟩
def Jqe {α:Type} (l:List α):l.flatMap (fun _=>([]:LS))=[]:=by induction l <;> simp_all
def Kkg:Opens Tryz.prog 5 (fun n:Int=>[.int .u8 n]) (fun _=>[]) (fun n=>(Lit.int .u8 n).wf=true):=Vge Tryz.underlying5
def Zve:Opens Tryz.prog 22 (fun x:Arr Int=>[x.val]) (fun x=>[bsl x]) (fun x=>∀n∈x.l,(Lit.int .u8 n).wf=true):=
 (Urd (wd:=1) Tryz.underlying22 zc ze yf Kkg).conv (fun x=>by rw [Jqe];rfl) (fun _ h=>h)
end
section
def blc (b:Bool):List Value:=[.bool b]
def Zl (b:Bool):(blc b).length=1:=rfl
def Step (m:XMine) (u v:Nat):Prop:=∃r∈m.roads.l,r.closed=false∧((r.fr=(u:Int)∧r.to=(v:Int))∨(r.fr=(v:Int)∧r.to=(u:Int)))
inductive Conn (m : XMine) (u : Nat) : Nat → Prop
 | refl:Conn m u u
 | tail {v w:Nat} (h:Conn m u v) (k:Step m v w):Conn m u w
def Step.symm {m:XMine} {u v:Nat} (h:Step m u v):Step m v u:=by
 obtain ⟨r,hr,hc,h1 | h1⟩:=h;·exact ⟨r,hr,hc,.inr h1⟩
 ·exact ⟨r,hr,hc,.inl h1⟩
def Conn.trans {m:XMine} {u v w:Nat} (h:Conn m u v) (k:Conn m v w):Conn m u w:=by
 induction k with
 | refl=>exact h
 | tail _ s ih=>exact ih.tail s
def Conn.symm {m:XMine} {u v:Nat} (h:Conn m u v):Conn m v u:=by
 induction h with
 | refl=>exact .refl
 | tail _ s ih=>exact (Conn.refl.tail s.symm).trans ih
def Conn.closed {m:XMine} {P:Nat→Prop} (hP:∀u v,P u→Step m u v→P v) {u v:Nat} (h:Conn m u v) (hu:P u):P v:=by
 induction h with
 | refl=>exact hu
 | tail _ s ih=>exact hP _ _ ih s
def Step.lt {m:XMine} (hm:MineOk m) {u v:Nat} (h:Step m u v):u < m.places.l.length∧v < m.places.l.length:=by obtain ⟨r,hr,_,h1⟩:=h;obtain ⟨i,hi⟩:=List.mem_iff_getElem?.1 hr;have hro:=hm.road i r hi;have h2:=hro.fr;have h3:=hro.to;rcases h1 with h1 | h1 <;> omega
structure FromIs (m:XMine) (seen l:List Bool):Prop where
 len:l.length=seen.length
 iff:∀i:Nat,i < seen.length→(l.getD i false=true↔∃j:Nat,j < seen.length∧seen.getD j false=true∧Conn m j i)
def FromIs.unique {m:XMine} {seen l l':List Bool} (h:FromIs m seen l) (h':FromIs m seen l'):l=l':=by have e1:=h.len;have e2:=h'.len;refine List.ext_getElem za fun i h1 h2=>?_;have a1:=h.iff i za;have a2:=h'.iff i za;rw [← a2] at a1;have g1:=Jw (l:=l) (k:=i) false h1;have g2:=Jw (l:=l') (k:=i) false h2;rw [yC h1] at g1;rw [yC h2] at g2;rw [yL g1,yL g2];cases e:l.getD i false <;> cases e':l'.getD i false <;> simp_all
def V7e (m:XMine):List Bool:=m.places.l.map XPlace.surface
abbrev AiryIs (m:XMine) (l:List Bool):Prop:=FromIs m (V7e m) l
def Z7c {l:List Bool} {k i:Nat} {v:Bool} (hk:k < l.length):(l.set k v).getD i false=if i=k then v else l.getD i false:=by exact uaE
end
end Go.Proofs.YtchfclmokpbldaaGreat
section
/-
  Fits: FlowS, FlowM, FitsF, Copy, Mades, Wide, in one text. By an AI agent; no person has read it.
-/
section
namespace Go.Proofs.YtchfclmokpbldaaGreat
open Go.Aw Go
structure LowIs (f:Int→XSpan) (p z:Int):Prop where
 bnd:-1048577≤z∧z≤1048576
 le:∀x,-1048577 < x→x≤z→(f x).high≤p
 gt:∀x,z < x→x≤1048576→p < (f x).high
structure HighIs (f:Int→XSpan) (p z:Int):Prop where
 bnd:-1048576≤z∧z≤1048577
 lt:∀x,-1048576≤x→x < z→(f x).low < p
 ge:∀x,z≤x→x < 1048577→p≤(f x).low
def Zia {a:XAir} {s:XSetting} (ha:AirOk a) {r:Int} (hr:0≤r∧r < a.mine.roads.l.length) (p:Int):LowIs (K5 a s r) p (Vd (K5 a s r) p):=by obtain ⟨a1,a2,a3,a4⟩:=Uuc (pr:=p) (Z2d (s:=s) ha hr) _ (-1048577) 1048576 rfl za za za;exact ⟨⟨a1,a2⟩,a3,a4⟩
def Vka {a:XAir} {s:XSetting} (ha:AirOk a) {r:Int} (hr:0≤r∧r < a.mine.roads.l.length) (p:Int):HighIs (K5 a s r) p (Uj (K5 a s r) p):=by obtain ⟨a1,a2,a3,a4⟩:=Yub (pr:=p) (K7e (s:=s) ha hr) _ (-1048576) 1048577 rfl za za za;exact ⟨⟨a1,a2⟩,a3,a4⟩
def V6c {a:XAir} {s:XSetting} (ha:AirOk a) {r:Int} (hr:0≤r∧r < a.mine.roads.l.length) {p p':Int} (hp:p≤p'):Vd (K5 a s r) p≤Vd (K5 a s r) p':=by
 have h1:=Zia (s:=s) ha hr p;have h2:=Zia (s:=s) ha hr p';generalize Vd (K5 a s r) p=l at *;generalize Vd (K5 a s r) p'=h at *;rcases yua h l with hlt | hle;·have b1 := h1.bnd;have b2:=h2.bnd;have k1:=h2.gt l hlt za;have k2:=h1.le l za (yD _);omega
 ·exact hle
def Udc {a:XAir} {s:XSetting} (ha:AirOk a) {r:Int} (hr:0≤r∧r < a.mine.roads.l.length) {p p':Int} (hp:p≤p'):Uj (K5 a s r) p≤Uj (K5 a s r) p':=by
 have h1:=Vka (s:=s) ha hr p;have h2:=Vka (s:=s) ha hr p';generalize Uj (K5 a s r) p=l at *;generalize Uj (K5 a s r) p'=h at *;rcases yua h l with hlt | hle;·have b1 := h1.bnd;have b2:=h2.bnd;have k1:=h1.lt h za hlt;have k2:=h2.ge h (yD _) za;omega
 ·exact hle
end Go.Proofs.YtchfclmokpbldaaGreat
end
section
namespace Go.Proofs.YtchfclmokpbldaaGreat
open Go.Aw Go
end Go.Proofs.YtchfclmokpbldaaGreat
end
section
namespace Go.Proofs.YtchfclmokpbldaaGreat
open Go.Aw Go
end Go.Proofs.YtchfclmokpbldaaGreat
end
section
namespace Go.Aw
open Go
def Yta {P:Program} (w:World) (t ty e:TypeId) (i:TypeInfo) (ht:P.underlying t=some (.slice e)) (hi:P.info? e=some i) (ar:Option Addr) (c:Nat):
 (Builtin.append_ #[t,t] ty #[.slice none 0 0,.slice ar 0 c]).run P w=.ok (.slice none 0 0) w:=by
 cases ar with
 | none=>simp [Builtin.append_,run_underlying ht,sizeOf,typeInfo,hi,Builtin.lenOf,run_firstCells_none,Builtin.firstCells]
 | some a=>have hf:=run_firstCells_some (P:=P) w i.size 0 a 0 c [] zo zo;simp [Builtin.append_,run_underlying ht,sizeOf,typeInfo,hi,Builtin.lenOf,hf]
section
variable {P:Program} {ρ:Operand→Value} {L:LB} {R:LS} {dst:Option Tmp} {ty:TypeId} {pos:String} {after:Array Edge} {guard:Option (Nat×Bool)} (tb:Tabs P) {T:TypeId} {x y:Operand}
def Kn {α : Type} {e n fl bt z k2 n2 fl2 bt2 z2} {f : α → List Value} {xs : Arr α} {subs : LS} (hT : Y4 tb.tab T = some ⟨.slice e, n, fl, bt, z⟩) (hE : Y4 tb.tab e = some ⟨k2, n2, fl2, bt2, z2⟩) (hn2 : z2.length = n2) (h0 : 0 < n2)
 (hx:ρ x=.slice none 0 0) (hy:ρ y=xs.val) (hR:InR (xs.sl n2 f subs) R) (h1:∀a,(f a).all (·.oneCell')=true) (hby:xs.l.length * (bt2 + 1)≤140737488355328):
 Gives P ⟨dst,.call ⟨.builtin .append,#[x,y],#[T,T]⟩,ty,pos,after,guard⟩ ρ L R (fun v M U=>∃o:Ow,v=(⟨o,xs.l⟩:OwL α).val∧(⟨o,xs.l⟩:OwL α).ok n2 f∧(⟨o,xs.l⟩:OwL α).L e f ++ L=M∧R=U):=by
 intro c w hst a next Q kk
 obtain ⟨ar,cap,l⟩:=xs;cases l with
 | nil=>
  have hu:=Vi (tb.ok _ _ hT) rfl;obtain ⟨ti,u,zv,i1,i2,i3,i4⟩:=Vl (tb.ok _ _ hE);have e1:execOp ρ ⟨dst,.call ⟨.builtin .append,#[x,y],#[T,T]⟩,ty,pos,after,guard⟩=(do pure (.value (← Builtin.append_ #[T,T] ty #[ρ x,ρ y]))):=by exact ua8
  have hr:=Yta w T ty e ti hu i1 ar cap;refine V6 (w':=w) (v:=.slice none 0 0) ?_ (kk _ _ _ w ⟨.nil,rfl,⟨rfl,rfl⟩,rfl,rfl⟩ hst);rw [e1,hx,hy];simp only [Arr.val,yea,yga,hr,yE,yBa]
 | cons x0 l=>
  have hw:∀r∈(x0 :: l).map f,r.length=n2:=by
   have hst':=hst;obtain ⟨⟨G,hh,_⟩,_,_⟩:=hst';obtain ⟨r,hr,hsub⟩:=hR;have hrep:=(hh.rep r hr).sub hsub;cases hrep with
   | mk _ _ _ hw _ _=>exact hw
  have hf0:((x0 :: l).map f).flatten=(x0 :: l).flatMap f:=Jzb _;have hfl:((x0 :: l).map f).flatten.length=(x0 :: l).length * n2:=by
   have:∀rows:List (List Value),(∀r∈rows,r.length=n2)→rows.flatten.length=rows.length * n2:=by
    intro rows;induction rows with
    | nil=>intro _;simp
    | cons r rows ih=>intro h;rw [yYb,yo,ih fun r hr=>h r (by simp [hr]),h r zo,yw,yva];omega
   rw [this _ hw,yz]
  have hs:=U8d (L:=L) hR h0 (fun c w hst=>by
   obtain ⟨⟨G,hh,_⟩,_,_⟩:=hst;obtain ⟨r,hr,hsub⟩:=hR;have hrep:=(hh.rep r hr).sub hsub;cases hrep with
   | mk _ _ _ _ hm _=>
    rcases hm with h | ⟨b,off,ha,_⟩;·simp at h
    ·exact ⟨b,off,ha⟩) hfl ⟨c,w,hst⟩
  have hb1:(x0 :: l).length * bt2≤140737488355328:=yqa (yJb _ (Nat.le_succ _)) hby;have hb2:(x0 :: l).length≤140737488355328:=yqa (yqb _ (Nat.succ_pos _)) hby;have hs2:Znd L R (ρ y) (x0 :: l).length n2 ((x0 :: l).map f).flatten:=by rw [hy];exact hs
  have hall:(((x0 :: l).map f).flatten).all (·.oneCell')=true:=by rw [List.all_eq_true];intro v hv;obtain ⟨r,hr,hv⟩:=List.mem_flatten.1 hv;obtain ⟨a,_,rfl⟩:=List.mem_map.1 hr;exact List.all_eq_true.1 (h1 a) v hv
  have:=Y2a (dst:=dst) (ty:=ty) (pos:=pos) (after:=after) (guard:=guard) (s:=.nil) (xs:=[]) (len:=0) (L:=L) (f:=fun Y=>Y ++ L) tb hT hE hn2 hx ⟨rfl,rfl⟩ Seg.here hs2 zo hall za (by rw [yCa];exact hb1);refine this c w hst a next Q ?_
  rintro v M U w' ⟨g,cap2,spare,rfl,hok',rfl,rfl⟩ hst';rw [yv,hf0,yCa] at hok';refine kk _ _ _ w' ⟨.own g cap2 spare,?_,hok',?_,rfl⟩ hst';·rw [yCa];rfl
  ·rw [yv,hf0];rfl
end
def Off.leftu {ws:List Nat} {t0 t:Nat→Value} {d:Nat} {v:Value} (hd:Z3b d ws=true) (h:Off ws t0 t):Off ws (Aw.upd t0 d v) t:=fun k hk=>by
 rw [h k hk]
 exact ((Off.upd hd (Off.refl (ws:=ws) (t:=t0))) k hk).symm
def Tri.cast {P:Program} {f:FuncId} {args args':Array Value} {L:LB} {R:LS} {Post:Yy} (h:Tri P f args L R Post) (e:args=args'):Tri P f args' L R Post:=e ▸ h
def Jra {P : Program} {ρ : Operand → Value} {L : LB} {R : LS} {dst : Option Tmp} {ty : TypeId} {pos : String} {after : Array Edge} {guard : Option (Nat × Bool)} {cal : Operand} {xs : List Operand} {ts : Array TypeId} {f : FuncId} {cap : Array Value} {args : List Value} {Post : Yy}
 (hc:ρ cal=.func (.func f) #[] cap) (ha:xs.map ρ ++ cap.toList=args) (h:Tri P f args.toArray L R Post):Gives P ⟨dst,.call ⟨.value cal,xs.toArray,ts⟩,ty,pos,after,guard⟩ ρ L R Post:=by
 intro x w hs a next Q k
 have ha':#[] ++ xs.toArray.map ρ ++ cap=args.toArray:=by rw [← ha];simp
 have hrun:(execOp ρ ⟨dst,.call ⟨.value cal,xs.toArray,ts⟩,ty,pos,after,guard⟩).run P w=.ok (.enter f args.toArray) w:=by have h1:=h.1 args.toArray w;simp only [execOp,resolve,hc,Deferred.ofValue];simp only [Array.empty_append] at ha';simp only [invoke,yga,yBa,yE,Array.empty_append,ha'];exact h1
 exact uaH
def Uic {P:Program} {ρ:Operand→Value} {L:LB} {R:LS} {dst:Option Tmp} {ty:TypeId} {pos:String} {after:Array Edge} {guard:Option (Nat×Bool)} {fn:Fn} {cs:List Operand} {vs:List Value} (hv:cs.map ρ=vs):
 YV P ⟨dst,.makeFunc fn #[] cs.toArray,ty,pos,after,guard⟩ ρ L R (.func fn #[] vs.toArray):=fun _ w _=>by
 subst hv
 simp [execOp,Instr.makeFunc]
section
variable {P:Program} {n:Nat} {all:Array Oper} {op:Op} {ty:TypeId} {pos:String} {after:Array Edge} {rest:List Oper} {t:Nat→Value} {L:LB} {R:LS} {Q:Kt} {d:Tmp} {v:Value} {g:Option (Nat×Bool)}
def Kgg {ops:List Oper} {M:LB} (h:L=M) (k:LJ P n all ops t M R Q):LJ P n all ops t L R Q:=h ▸ k
def Uu (hv:YV P ⟨some d,op,ty,pos,after,g⟩ (ev t) L R v) (hw:Yk all t g=true) (hd:Nat.blt d n=true) (h:LJ P n all rest (upd t d v) L R Q):LJ P n all (⟨some d,op,ty,pos,after,g⟩ :: rest) t L R Q:=Vwd hv hw hd h
def K3c {Post:Yy} (hg:Gives P ⟨some d,op,ty,pos,after,g⟩ (ev t) L R Post) (hw:Yk all t g=true) (hd:Nat.blt d n=true) (h:∀v M U,Post v M U→LJ P n all rest (upd t d v) M U Q):LJ P n all (⟨some d,op,ty,pos,after,g⟩ :: rest) t L R Q:=Vtb hg hw hd h
def Jta {f : FuncId} {xs : List Operand} {ts : Array TypeId} {args : List Value} {Post : Yy} (ha : xs.map (ev t) = args) (h : Tri P f args.toArray L R Post) (hw : Yk all t g = true) (hd : Nat.blt d n = true)
 (k:∀v M U,Post v M U→LJ P n all rest (upd t d v) M U Q):LJ P n all (⟨some d,.call ⟨.value (.func f),xs.toArray,ts⟩,ty,pos,after,g⟩ :: rest) t L R Q:=
 K3c (U4a zoa rfl h) hw hd k
def V3 (hw:Yk all t g=false) (hd:Nat.blt d n=true) (h:LJ P n all rest (upd t d undef) L R Q):LJ P n all (⟨some d,op,ty,pos,after,g⟩ :: rest) t L R Q:=Unf hw hd h
end
end Go.Aw
end
section
namespace Go.Proofs.YtchfclmokpbldaaGreat
open Go.Aw Go
set_option maxRecDepth 20000
attribute [local irreducible] CJ LJ DJ Tri YV Gives U0 J3 Kj Uz RV J5 OwL.L
end Go.Proofs.YtchfclmokpbldaaGreat
end
section
namespace Go.Proofs.YtchfclmokpbldaaGreat
open Go.Aw Go
end Go.Proofs.YtchfclmokpbldaaGreat
end
end
namespace Go.Proofs.YtchfclmokpbldaaGreat
open Go.Aw Go
end Go.Proofs.YtchfclmokpbldaaGreat
