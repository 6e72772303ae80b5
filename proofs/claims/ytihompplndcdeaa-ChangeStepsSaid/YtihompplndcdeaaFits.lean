/-
  Fits: FlowS, FlowM, FitsF, Copy, Mades, Wide, in one text. By an AI agent; no person has read it.
-/
import Derived.Test.YtihompplndcdeaaDraws
import Derived.Test.YtihompplndcdeaaOwn
set_option linter.unusedVariables false
set_option linter.unusedSimpArgs false
section
namespace Go.Proofs.Ytihompplndcdeaa
open Go.Aw Go
structure LowIs (f:Int→XSpan) (p z:Int):Prop where
  bnd:-1048577≤z∧z≤1048576
  le:∀x,-1048577 < x→x≤z→(f x).high≤p
  gt:∀x,z < x→x≤1048576→p < (f x).high
structure HighIs (f:Int→XSpan) (p z:Int):Prop where
  bnd:-1048576≤z∧z≤1048577
  lt:∀x,-1048576≤x→x < z→(f x).low < p
  ge:∀x,z≤x→x < 1048577→p≤(f x).low
theorem Jfs {a:XAir} {s:XSetting} (ha:AirOk a) {r:Int} (hr:0≤r∧r < a.mine.roads.l.length) (p:Int):LowIs (Ja8 a s r) p (Jbp (Ja8 a s r) p):=by
  obtain ⟨a1,a2,a3,a4⟩:=Jq7 (pr:=p) (Jwe (s:=s) ha hr) _ (-1048577) 1048576 rfl (by omega) (by omega) (by omega)
  exact ⟨⟨a1,a2⟩,a3,a4⟩
theorem Je9 {a:XAir} {s:XSetting} (ha:AirOk a) {r:Int} (hr:0≤r∧r < a.mine.roads.l.length) (p:Int):HighIs (Ja8 a s r) p (Jbc (Ja8 a s r) p):=by
  obtain ⟨a1,a2,a3,a4⟩:=Jn4 (pr:=p) (Jyy (s:=s) ha hr) _ (-1048576) 1048577 rfl (by omega) (by omega) (by omega)
  exact ⟨⟨a1,a2⟩,a3,a4⟩
theorem Jf4 {a:XAir} {s:XSetting} (ha:AirOk a) {r:Int} (hr:0≤r∧r < a.mine.roads.l.length) {p p':Int} (hp:p≤p'):Jbp (Ja8 a s r) p≤Jbp (Ja8 a s r) p':=by
  have h1:=Jfs (s:=s) ha hr p
  have h2:=Jfs (s:=s) ha hr p'
  generalize Jbp (Ja8 a s r) p=l at *
  generalize Jbp (Ja8 a s r) p'=h at *
  rcases Int.lt_or_le h l with hlt | hle
  · have b1 := h1.bnd
    have b2:=h2.bnd
    have k1:=h2.gt l hlt (by omega)
    have k2:=h1.le l (by omega) (Int.le_refl _)
    omega
  · exact hle
theorem Jfn {a:XAir} {s:XSetting} (ha:AirOk a) {r:Int} (hr:0≤r∧r < a.mine.roads.l.length) {p p':Int} (hp:p≤p'):Jbc (Ja8 a s r) p≤Jbc (Ja8 a s r) p':=by
  have h1:=Je9 (s:=s) ha hr p
  have h2:=Je9 (s:=s) ha hr p'
  generalize Jbc (Ja8 a s r) p=l at *
  generalize Jbc (Ja8 a s r) p'=h at *
  rcases Int.lt_or_le h l with hlt | hle
  · have b1 := h1.bnd
    have b2:=h2.bnd
    have k1:=h1.lt h (by omega) hlt
    have k2:=h2.ge h (Int.le_refl _) (by omega)
    omega
  · exact hle
theorem AnySet.fit {a:XAir} {tf td:OwL Int} (h:AnySet a a.fans.l.length a.doors.l.length tf.l td.l):Jdl a ⟨tf.arr,td.arr⟩=true:=Jr1 ⟨h.lf,h.ld,h.fan,h.door⟩
end Go.Proofs.Ytihompplndcdeaa
end
section
namespace Go.Proofs.Ytihompplndcdeaa
open Go.Aw Go
end Go.Proofs.Ytihompplndcdeaa
end
section
namespace Go.Proofs.Ytihompplndcdeaa
open Go.Aw Go
structure FitsF (a:XAir) (s:XSetting) (x:XState):Prop where
  plen:x.pres.l.length=a.mine.places.l.length
  flen:x.flows.l.length=a.mine.roads.l.length
  pres:∀p∈x.pres.l,-70368744177664≤p∧p≤70368744177664
  flow:∀q∈x.flows.l,-1048576≤q∧q≤1048576
  road:∀i,i < a.mine.roads.l.length→Jdc a s x i=none
  place:∀i,i < a.mine.places.l.length→Jcu a x (Jdw a x x.flows.l.length) i=none
theorem J0l {a:XAir} {s:XSetting} {x:XState} (h0:Jat a=0) (h1:Jdl a s=true) (h:Joz a s x=0):FitsF a s x:=by
  by_cases hl:x.pres.l.length≠a.mine.places.l.length∨x.flows.l.length≠a.mine.roads.l.length
  · rw [Joz, if_neg (by simp [h0]), if_neg (by simp [h1]), if_pos hl] at h
    cases h
  · rw [Jqu h0 h1 hl] at h
    have hp:x.pres.l.findSome? Jb5=none:=by
      cases e:x.pres.l.findSome? Jb5 with
      | none=>rfl
      | some v=>
        rw [e] at h
        obtain ⟨p,_,hp⟩:=List.exists_of_findSome?_eq_some e
        unfold Jb5 at hp
        split at hp
        · cases hp;cases h
        · cases hp
    rw [hp] at h
    dsimp only at h
    have hq:x.flows.l.findSome? Jhr=none:=by
      cases e:x.flows.l.findSome? Jhr with
      | none=>rfl
      | some v=>
        rw [e] at h
        obtain ⟨p,_,hp⟩:=List.exists_of_findSome?_eq_some e
        unfold Jhr at hp
        split at hp
        · cases hp;cases h
        · cases hp
    rw [hq] at h
    dsimp only at h
    have hr:(List.range x.flows.l.length).findSome? (Jdc a s x)=none:=by
      cases e:(List.range x.flows.l.length).findSome? (Jdc a s x) with
      | none=>rfl
      | some v=>
        rw [e] at h
        obtain ⟨p,_,hp⟩:=List.exists_of_findSome?_eq_some e
        unfold Jdc at hp
        dsimp only at hp
        split at hp
        · cases hp;cases h
        · cases hp
    rw [hr] at h
    dsimp only at h
    have hk:(List.range x.pres.l.length).findSome? (Jcu a x (Jdw a x x.flows.l.length))=none:=by
      cases e:(List.range x.pres.l.length).findSome? (Jcu a x (Jdw a x x.flows.l.length)) with
      | none=>rfl
      | some v=>
        rw [e] at h
        obtain ⟨p,_,hp⟩:=List.exists_of_findSome?_eq_some e
        unfold Jcu at hp
        split at hp
        · cases hp;cases h
        · cases hp
    refine ⟨by omega,by omega,fun p hm=>?_,fun q hm=>?_,fun i hi=>?_,fun i hi=>?_⟩
    · have := List.findSome?_eq_none_iff.1 hp p hm
      unfold Jb5 at this
      split at this
      · cases this
      · omega
    · have := List.findSome?_eq_none_iff.1 hq q hm
      unfold Jhr at this
      split at this
      · cases this
      · omega
    · exact List.findSome?_eq_none_iff.1 hr i (List.mem_range.2 (by omega))
    · exact List.findSome?_eq_none_iff.1 hk i (List.mem_range.2 (by omega))
theorem FitsF.shut {a:XAir} {s:XSetting} {x:XState} (h:FitsF a s x) {i:Nat} (hi:i < a.mine.roads.l.length) (hc:(a.mine.roads.l.getD i default).closed=true):x.flows.l.getD i 0=0:=by
  have:=h.road i hi
  unfold Jdc at this
  dsimp only at this
  split at this
  · cases this
  · rename_i hn
    rcases Int.decEq (x.flows.l.getD i 0) 0 with h0 | h0
    · exact absurd (.inl ⟨hc,h0⟩) hn
    · exact h0
theorem FitsF.fit {a:XAir} {s:XSetting} {x:XState} (h:FitsF a s x) {i:Nat} (hi:i < a.mine.roads.l.length) (hc:(a.mine.roads.l.getD i default).closed=false):
    (Ja8 a s i (x.flows.l.getD i 0)).low≤x.pres.l.getD (a.mine.roads.l.getD i default).fr.toNat 0 - x.pres.l.getD (a.mine.roads.l.getD i default).to.toNat 0∧x.pres.l.getD (a.mine.roads.l.getD i default).fr.toNat 0 - x.pres.l.getD (a.mine.roads.l.getD i default).to.toNat 0≤(Ja8 a s i (x.flows.l.getD i 0)).high:=by
  have:=h.road i hi
  unfold Jdc at this
  dsimp only at this
  split at this
  · cases this
  · rename_i hn
    refine ⟨Int.not_lt.1 fun h1=>hn (.inr ⟨hc,.inl h1⟩),Int.not_lt.1 fun h1=>hn (.inr ⟨hc,.inr h1⟩)⟩
theorem FitsF.inside {a : XAir} {s : XSetting} {x : XState} (h : FitsF a s x) (ha : AirOk a) {i : Nat} (hi : i < a.mine.roads.l.length) (hc : (a.mine.roads.l.getD i default).closed = false) {d : Int}
    (hd:d=x.pres.l.getD (a.mine.roads.l.getD i default).fr.toNat 0 - x.pres.l.getD (a.mine.roads.l.getD i default).to.toNat 0):
    Jbp (Ja8 a s i) d≤x.flows.l.getD i 0∧x.flows.l.getD i 0≤Jbc (Ja8 a s i) d:=by
  have hf:=h.fit hi hc
  rw [← hd] at hf
  have hr:(0:Int)≤(i:Int)∧(i:Int) < a.mine.roads.l.length:=by omega
  have hfl:=h.flen
  have hq:=h.flow _ (List.mem_of_getElem? (Jai (l:=x.flows.l) (k:=i) 0 (by omega)))
  have h1:=Jfs (s:=s) ha hr d
  have h2:=Je9 (s:=s) ha hr d
  generalize Jbp (Ja8 a s i) d=l at *
  generalize Jbc (Ja8 a s i) d=u at *
  generalize x.flows.l.getD i 0=q at *
  have b1:=h1.bnd
  have b2:=h2.bnd
  refine ⟨Int.not_lt.1 fun hl=>?_,Int.not_lt.1 fun hl=>?_⟩
  · have k1 := h1.le l (by omega) (Int.le_refl _)
    have k2:=(Jgu (s:=s) ha hr hl).2
    omega
  · have k1 := h2.ge u (Int.le_refl _) (by omega)
    have k2:=(Jgu (s:=s) ha hr hl).1
    omega
end Go.Proofs.Ytihompplndcdeaa
end
section
namespace Go.Aw
open Go
theorem Jnk {P:Program} (w:World) (t ty e:TypeId) (i:TypeInfo) (ht:P.underlying t=some (.slice e)) (hi:P.info? e=some i) (ar:Option Addr) (c:Nat):
    (Builtin.append_ #[t,t] ty #[.slice none 0 0,.slice ar 0 c]).run P w=.ok (.slice none 0 0) w:=by
  cases ar with
  | none=>simp [Builtin.append_,run_underlying ht,sizeOf,typeInfo,hi,Builtin.lenOf,run_firstCells_none,Builtin.firstCells]
  | some a=>
    have hf:=run_firstCells_some (P:=P) w i.size 0 a 0 c [] (by simp) (by simp)
    simp [Builtin.append_,run_underlying ht,sizeOf,typeInfo,hi,Builtin.lenOf,hf]
section
variable {P:Program} {ρ:Operand→Value} {L:List Blk} {R:List Sl} {dst:Option Tmp} {ty:TypeId} {pos:String} {after:Array Edge} {guard:Option (Nat×Bool)} (tb:Tabs P) {T:TypeId} {x y:Operand}
theorem Jd5 {α : Type} {e n fl bt z k2 n2 fl2 bt2 z2} {f : α → List Value} {xs : Arr α} {subs : List Sl} (hT : Jeg tb.tab T = some ⟨.slice e, n, fl, bt, z⟩) (hE : Jeg tb.tab e = some ⟨k2, n2, fl2, bt2, z2⟩) (hn2 : z2.length = n2) (h0 : 0 < n2)
    (hx:ρ x=.slice none 0 0) (hy:ρ y=xs.val) (hR:InR (xs.sl n2 f subs) R) (h1:∀a,(f a).all (·.oneCell')=true) (hby:xs.l.length * (bt2 + 1)≤140737488355328):
    Gives P ⟨dst,.call ⟨.builtin .append,#[x,y],#[T,T]⟩,ty,pos,after,guard⟩ ρ L R (fun v L' R'=>∃o:Ow,v=(⟨o,xs.l⟩:OwL α).val∧(⟨o,xs.l⟩:OwL α).ok n2 f∧(⟨o,xs.l⟩:OwL α).L e f ++ L=L'∧R=R'):=by
  intro c w hst a next Q kk
  obtain ⟨ar,cap,l⟩:=xs
  cases l with
  | nil=>
    have hu:=Jdu (tb.ok _ _ hT) rfl
    obtain ⟨ti,u,zv,i1,i2,i3,i4⟩:=Jc2 (tb.ok _ _ hE)
    have e1:execOp ρ ⟨dst,.call ⟨.builtin .append,#[x,y],#[T,T]⟩,ty,pos,after,guard⟩=(do pure (.value (← Builtin.append_ #[T,T] ty #[ρ x,ρ y]))):=by
      simp [execOp,resolve,invoke,builtin]
    have hr:=Jnk w T ty e ti hu i1 ar cap
    refine Jdd (w':=w) (v:=.slice none 0 0) ?_ (kk _ _ _ w ⟨.nil,rfl,⟨rfl,rfl⟩,rfl,rfl⟩ hst)
    rw [e1,hx,hy]
    simp only [Arr.val,List.length_nil,Sem.run_bind,hr,Result.andThen_ok,Sem.run_pure]
  | cons x0 l=>
    have hw:∀r∈(x0 :: l).map f,r.length=n2:=by
      have hst':=hst
      obtain ⟨⟨G,hh,_⟩,_,_⟩:=hst'
      obtain ⟨r,hr,hsub⟩:=hR
      have hrep:=(hh.rep r hr).sub hsub
      cases hrep with
      | mk _ _ _ hw _ _=>exact hw
    have hf0:((x0 :: l).map f).flatten=(x0 :: l).flatMap f:=Jmq _
    have hfl:((x0 :: l).map f).flatten.length=(x0 :: l).length * n2:=by
      have:∀rows:List (List Value),(∀r∈rows,r.length=n2)→rows.flatten.length=rows.length * n2:=by
        intro rows
        induction rows with
        | nil=>intro _;simp
        | cons r rows ih=>
          intro h
          rw [List.flatten_cons,List.length_append,ih fun r hr=>h r (by simp [hr]),h r (by simp),List.length_cons,Nat.succ_mul]
          omega
      rw [this _ hw,List.length_map]
    have hs:=J1d (L:=L) hR h0 (fun c w hst=>by
      obtain ⟨⟨G,hh,_⟩,_,_⟩:=hst
      obtain ⟨r,hr,hsub⟩:=hR
      have hrep:=(hh.rep r hr).sub hsub
      cases hrep with
      | mk _ _ _ _ hm _=>
        rcases hm with h | ⟨b,off,ha,_⟩
        · simp at h
        · exact ⟨b,off,ha⟩) hfl ⟨c,w,hst⟩
    have hb1:(x0 :: l).length * bt2≤140737488355328:=Nat.le_trans (Nat.mul_le_mul_left _ (Nat.le_succ _)) hby
    have hb2:(x0 :: l).length≤140737488355328:=Nat.le_trans (Nat.le_mul_of_pos_right _ (Nat.succ_pos _)) hby
    have hs2:Jt2 L R (ρ y) (x0 :: l).length n2 ((x0 :: l).map f).flatten:=by rw [hy];exact hs
    have hall:(((x0 :: l).map f).flatten).all (·.oneCell')=true:=by
      rw [List.all_eq_true]
      intro v hv
      obtain ⟨r,hr,hv⟩:=List.mem_flatten.1 hv
      obtain ⟨a,_,rfl⟩:=List.mem_map.1 hr
      exact List.all_eq_true.1 (h1 a) v hv
    have:=Jh4 (dst:=dst) (ty:=ty) (pos:=pos) (after:=after) (guard:=guard) (s:=.nil) (xs:=[]) (len:=0) (L:=L) (f:=fun Y=>Y ++ L) tb hT hE hn2 hx ⟨rfl,rfl⟩ Seg.here hs2 (by simp) hall (by omega) (by rw [Nat.zero_add];exact hb1)
    refine this c w hst a next Q ?_
    rintro v L' R' w' ⟨g,cap2,spare,rfl,hok',rfl,rfl⟩ hst'
    rw [List.nil_append,hf0,Nat.zero_add] at hok'
    refine kk _ _ _ w' ⟨.own g cap2 spare,?_,hok',?_,rfl⟩ hst'
    · rw [Nat.zero_add];rfl
    · rw [List.nil_append,hf0];rfl
end
theorem Off.leftu {ws:List Nat} {t0 t:Nat→Value} {d:Nat} {v:Value} (hd:Jop d ws=true) (h:Off ws t0 t):Off ws (Aw.upd t0 d v) t:=fun k hk=>by
  rw [h k hk]
  exact ((Off.upd hd (Off.refl (ws:=ws) (t:=t0))) k hk).symm
theorem Tri.cast {P:Program} {f:FuncId} {args args':Array Value} {L:List Blk} {R:List Sl} {Post:Jed} (h:Tri P f args L R Post) (e:args=args'):Tri P f args' L R Post:=e ▸ h
theorem Jfw {P : Program} {ρ : Operand → Value} {L : List Blk} {R : List Sl} {dst : Option Tmp} {ty : TypeId} {pos : String} {after : Array Edge} {guard : Option (Nat × Bool)} {cal : Operand} {xs : List Operand} {ts : Array TypeId} {f : FuncId} {cap : Array Value} {args : List Value} {Post : Jed}
    (hc:ρ cal=.func (.func f) #[] cap) (ha:xs.map ρ ++ cap.toList=args) (h:Tri P f args.toArray L R Post):Gives P ⟨dst,.call ⟨.value cal,xs.toArray,ts⟩,ty,pos,after,guard⟩ ρ L R Post:=by
  intro x w hs a next Q k
  have ha':#[] ++ xs.toArray.map ρ ++ cap=args.toArray:=by rw [← ha];simp
  have hrun:(execOp ρ ⟨dst,.call ⟨.value cal,xs.toArray,ts⟩,ty,pos,after,guard⟩).run P w=.ok (.enter f args.toArray) w:=by
    have h1:=h.1 args.toArray w
    simp only [execOp,resolve,hc,Deferred.ofValue]
    simp only [Array.empty_append] at ha'
    simp only [invoke,Sem.run_bind,Sem.run_pure,Result.andThen_ok,Array.empty_append,ha']
    exact h1
  rw [hrun]
  obtain ⟨⟨G,hh,hg⟩,ho,hk⟩:=hs
  refine (h.2 w G hh).mono ?_
  rintro e w' ⟨v,L',R',rfl,hp,hst⟩
  exact k v L' R' w' hp (St.trans ⟨⟨G,hh,hg⟩,ho,hk⟩ hg hst)
theorem Jy3 {P:Program} {ρ:Operand→Value} {L:List Blk} {R:List Sl} {dst:Option Tmp} {ty:TypeId} {pos:String} {after:Array Edge} {guard:Option (Nat×Bool)} {fn:Fn} {cs:List Operand} {vs:List Value} (hv:cs.map ρ=vs):
    YV P ⟨dst,.makeFunc fn #[] cs.toArray,ty,pos,after,guard⟩ ρ L R (.func fn #[] vs.toArray):=fun _ w _=>by
  subst hv
  simp [execOp,Instr.makeFunc]
section
variable {P:Program} {n:Nat} {all:Array Oper} {op:Op} {ty:TypeId} {pos:String} {after:Array Edge} {rest:List Oper} {t:Nat→Value} {L:List Blk} {R:List Sl} {Q:Jbd} {d:Tmp} {v:Value} {g:Option (Nat×Bool)}
theorem J6w {ops:List Oper} {L':List Blk} (h:L=L') (k:LJ P n all ops t L' R Q):LJ P n all ops t L R Q:=h ▸ k
theorem Jc0 (hv:YV P ⟨some d,op,ty,pos,after,g⟩ (ev t) L R v) (hw:Jdt all t g=true) (hd:Nat.blt d n=true) (h:LJ P n all rest (upd t d v) L R Q):LJ P n all (⟨some d,op,ty,pos,after,g⟩ :: rest) t L R Q:=Jvu hv hw hd h
theorem Jwj {Post:Jed} (hg:Gives P ⟨some d,op,ty,pos,after,g⟩ (ev t) L R Post) (hw:Jdt all t g=true) (hd:Nat.blt d n=true) (h:∀v L' R',Post v L' R'→LJ P n all rest (upd t d v) L' R' Q):LJ P n all (⟨some d,op,ty,pos,after,g⟩ :: rest) t L R Q:=Jhu hg hw hd h
theorem Jiv {f : FuncId} {xs : List Operand} {ts : Array TypeId} {args : List Value} {Post : Jed} (ha : xs.map (ev t) = args) (h : Tri P f args.toArray L R Post) (hw : Jdt all t g = true) (hd : Nat.blt d n = true)
    (k:∀v L' R',Post v L' R'→LJ P n all rest (upd t d v) L' R' Q):LJ P n all (⟨some d,.call ⟨.value (.func f),xs.toArray,ts⟩,ty,pos,after,g⟩ :: rest) t L R Q:=
  Jwj (Jgn (by rw [List.map_toArray,ha]) rfl h) hw hd k
theorem Jga (hw:Jdt all t g=false) (hd:Nat.blt d n=true) (h:LJ P n all rest (upd t d undef) L R Q):LJ P n all (⟨some d,op,ty,pos,after,g⟩ :: rest) t L R Q:=J35 hw hd h
end
end Go.Aw
end
section
namespace Go.Proofs.Ytihompplndcdeaa
open Go.Aw Go
set_option maxRecDepth 20000
attribute [local irreducible] CJ LJ DJ Tri YV Gives Jdn Jaw Jbk Jdo RV Jay OwL.L
theorem Jt5 {P n code t R} {Q : Jbd} {A : List Blk} {m : MadeO} {cb : Blk} {b1 b2 b3 : Nat} {T1 T2 T3 : TypeId} (hm : m.Ok) (hM : MadeA m.a m.t m.x) (hf : ∀ f ∈ m.fans.l, InR f.sl R) (hd : ∀ d ∈ m.doors.l, InR d.sl R)
    (h:∀a s x R',MadeA a s x→AirR a R'→SetR s R'→StateR x R'→(∀r∈R,InR r R')→CJ P n code t (⟨b3,x.cells,T3⟩ :: ⟨b2,s.cells,T2⟩ :: ⟨b1,a.cells,T1⟩ :: (A ++ (cb :: []))) R' Q):
    CJ P n code t (⟨b3,m.x.cells,T3⟩ :: ⟨b2,m.t.cells,T2⟩ :: ⟨b1,m.a.cells,T1⟩ :: (A ++ m.L cb)) R Q:=
  Jwp (A:=⟨b3,m.x.cells,T3⟩ :: ⟨b2,m.t.cells,T2⟩ :: ⟨b1,m.a.cells,T1⟩ :: A) hm hf hd fun R' h1 h2 h3 h4=>h m.a m.t m.x R' hM h1 h2 h3 h4
structure MadeB (a:XAir) (s:XSetting) (x:XState):Prop where
  made:MadeA a s x
  ok:AirOk a
  fits:FitsF a s x
  right:Jea a s=true
  fit:FitOk a s
theorem MadeA.b {a:XAir} {s:XSetting} {x:XState} (h:MadeA a s x):MadeB a s x:=
  ⟨h,Jey h.err,J0l h.err h.fit h.fits,Jnl h.err h.fit,(Jfr (Jnl h.err h.fit)).2⟩
end Go.Proofs.Ytihompplndcdeaa
end
section
namespace Go.Proofs.Ytihompplndcdeaa
open Go.Aw Go
end Go.Proofs.Ytihompplndcdeaa
end
