/-
  Texts of one chapter, merged. By an AI agent; no person has read it.
-/
import Derived.Test.YtchfclmokpbldaaGreatData
import Derived.Test.YtchfclmokpbldaaGreatOwn
import Derived.Test.YtchfclmokpbldaaGreatRuleD
import Derived.Test.YtchfclmokpbldaaGreatWinR
import Derived.Test.YtchfclmokpbldaaGreatFits
set_option linter.unusedVariables false
set_option linter.unusedSimpArgs false
set_option maxRecDepth 20000
namespace Go.Proofs.YtchfclmokpbldaaGreat
open Go.Aw Go
section
theorem Vwb {P:Program} (w:World) (t ty e:TypeId) (i:TypeInfo) (ht:P.underlying t=some (.slice e)) (hi:P.info? e=some i) (b off sLen sCap:Nat) (a:Option Addr) (c:Nat) (hl:sLen≤sCap):
    (Builtin.append_ #[t,t] ty #[.slice (some ⟨b,off,none⟩) sLen sCap,.slice a 0 c]).run P w=.ok (.slice (some ⟨b,off,none⟩) sLen sCap) w:=by
  have hst:=run_storeCells_cells (P:=P) b (off + sLen * i.size) [] 0 w zo zo zo
  cases a with
  | none=>simp [Builtin.append_,run_underlying ht,sizeOf,typeInfo,hi,Builtin.lenOf,hl,Builtin.firstCells,storeCells]
  | some a=>
    have hf:=run_firstCells_some (P:=P) w i.size 0 a 0 c [] zo zo
    simp [Builtin.append_,run_underlying ht,sizeOf,typeInfo,hi,Builtin.lenOf,hl,hf,storeCells]
section
variable {P:Program} {ρ:Operand→Value} {L:List Blk} {R:List Sl} {dst:Option Tmp} {ty:TypeId} {pos:String} {after:Array Edge} {guard:Option (Nat×Bool)} (tb:Tabs P) {T:TypeId} {x y:Operand}
theorem Koc {e n fl bt z k2 n2 fl2 bt2 z2} {b sLen sCap c:Nat} {ar:Option Addr} (hT:V0 tb.tab T=some ⟨.slice e,n,fl,bt,z⟩) (hE:V0 tb.tab e=some ⟨k2,n2,fl2,bt2,z2⟩) (hx:ρ x=.slice (some ⟨b,0,none⟩) sLen sCap) (hy:ρ y=.slice ar 0 c) (hl:sLen≤sCap):
    Gives P ⟨dst,.call ⟨.builtin .append,#[x,y],#[T,T]⟩,ty,pos,after,guard⟩ ρ L R (fun v L' R'=>v=.slice (some ⟨b,0,none⟩) sLen sCap∧L=L'∧R=R'):=by
  intro c1 w hst a next Q kk
  have hu:=Ut (tb.ok _ _ hT) rfl
  obtain ⟨ti,u,zv,i1,i2,i3,i4⟩:=U4 (tb.ok _ _ hE)
  have e1:execOp ρ ⟨dst,.call ⟨.builtin .append,#[x,y],#[T,T]⟩,ty,pos,after,guard⟩=(do pure (.value (← Builtin.append_ #[T,T] ty #[ρ x,ρ y]))):=by
    simp [execOp,resolve,invoke,builtin]
  have hr:=Vwb w T ty e ti hu i1 b 0 sLen sCap ar c hl
  refine Vq (w':=w) (v:=.slice (some ⟨b,0,none⟩) sLen sCap) ?_ (kk _ _ _ w ⟨rfl,rfl,rfl⟩ hst)
  rw [e1,hx,hy]
  simp only [Sem.run_bind,hr,Result.andThen_ok,Sem.run_pure]
end
theorem J3d {α : Type} {f : α → List Value} (h1 : ∀ x, (f x).all (·.oneCell') = true) : ∀ l : List α, (l.flatMap f).all (·.oneCell') = true
  | []=>rfl
  | x :: l=>by rw [List.flatMap_cons,List.all_append,h1 x,J3d h1 l];rfl
section
variable {P:Program} {ρ:Operand→Value} {L:List Blk} {R:List Sl} {dst:Option Tmp} {ty:TypeId} {pos:String} {after:Array Edge} {guard:Option (Nat×Bool)} (tb:Tabs P) {T:TypeId} {x y:Operand}
end
def Yde {γ : Type} (ws : List Nat) (t0 : Nat → Value) (hd : Head γ) (Q : Kp) : Kp
  | .normal,t,L,R=>∃g,Off ws t0 t∧Vha t (hd.slots g)∧(∃L1,L.Perm L1∧(hd.L g).Sublist L1)∧∀r∈hd.R g,InR r R
  | e,t,L,R=>Q e t L R
theorem Jt {γ:Type} {ws:List Nat} {t0 t:Nat→Value} {L L1:List Blk} {R:List Sl} {hd:Head γ} {Q:Kp} (g:γ) (ho:Off ws t0 t) (hs:Vha t (hd.slots g)) (hp:L.Perm L1) (hL:(hd.L g).Sublist L1) (hR:∀r∈hd.R g,InR r R):Yde ws t0 hd Q .normal t L R:=⟨g,ho,hs,⟨L1,hp,hL⟩,hR⟩
theorem Jxd {P n code t L L' R} {Q:Kp} (hp:L.Perm L') (h:CJ P n code t L' R Q):CJ P n code t L R Q:=Jzb fun _ _ hst=>⟨_,_,hst.perm hp,h⟩
theorem Juc {γ:Type} {P n x y t L R} {Q:Kp} (ws:List Nat) (hd:Head γ) (h:CJ P n x t L R (Yde ws t hd Q)) (k:∀g junk,CJ P n y (updL (havoc ws t junk) (hd.slots g)) (hd.L g) (hd.R g) Q):CJ P n x t L R (Ui P n y Q):=by
  intro c a w hf hs
  refine wp_mono (h c a w hf hs) ?_
  rintro e a w ⟨hnp,t',L',R',hq,hf',hs'⟩
  cases e with
  | normal=>
    obtain ⟨g,ho,hsh,⟨L1,hp,hL⟩,hR⟩:=hq
    have e:updL (havoc ws t t') (hd.slots g)=t':=by rw [Zo ho,Yl hsh]
    refine ⟨trivial,t',L',R',?_,hf',hs'⟩
    have:=k g t'
    rw [e] at this
    exact Jxd hp (U2 hL hR this)
  | _=>exact ⟨hnp,t',L',R',hq,hf',hs'⟩
theorem Z0c {P : Program} {dst : Option Tmp} {f : FuncId} {xs : List Operand} {ts : Array TypeId} {pos : String} {after : Array Edge} {guard : Option (Nat × Bool)} {ty : TypeId} {t : Nat → Value} {L : List Blk} {R : List Sl} {args : List Value} {Post : Yn} (ha : xs.map (ev t) = args)
    (h:Tri P f args.toArray L R Post):Gives P ⟨dst,.call ⟨.value (.func f),xs.toArray,ts⟩,ty,pos,after,guard⟩ (ev t) L R Post:=
  K3a (by rw [← ha];simp) rfl h
theorem YV.gives2 {P op ρ L R v} (h:YV P op ρ L R v):Gives P op ρ L R (fun v' L' R'=>v'=v∧L=L'∧R=R'):=by
  intro c w hs a next Q k
  rw [h c w hs]
  exact k v L R w ⟨rfl,rfl,rfl⟩ hs
theorem Kd {α : Type} {P n code t L R} {Q : Kp} {T : TypeId} {f : α → List Value} {wd : Nat} (p : OwL α) (subs : List Sl) {F : OwL α → List Blk} (hseg : OSeg T f p L F) (hf : ∀ x, (f x).length = wd) (hwd : 0 < wd) (hok : p.ok wd f) (hs : ∀ s ∈ subs, InR s R)
    (h:CJ P n code t (F OwL.nil) (p.arr.sl wd f subs :: R) Q):CJ P n code t L R Q:=by
  obtain ⟨A,B,hL,hF⟩:=hseg.split
  rw [hF] at h
  rw [hL,List.append_assoc]
  refine Uka subs hf hwd hok hs ?_
  have e:A ++ (OwL.nil:OwL α).L T f ++ B=A ++ B:=by rw [Kh,List.append_nil]
  rw [← e]
  exact h
end
section
attribute [local irreducible] CJ LJ DJ Tri YV Gives Ui J0 Ke Uh RV J2 OwL.L
end
section
attribute [local irreducible] CJ LJ DJ Tri YV Gives Ui J0 Ke Uh RV J2 OwL.L
end
section
def Z2e (n:Nat):XRoad:=⟨0,(n:Int),10,4,false,false,⟨1,1⟩,⟨0,0⟩⟩
section
variable {a:XAir} {s:XSetting} {x:XState} (h:MadeA a s x) (hr:a.mine.roads.l.length=0)
include h hr
end
section
variable {a:XAir} {s:XSetting} {x:XState} {P:Arr XPlace} {Rd:Arr XRoad} {Pr Fl:Arr Int} (h:MadeA a s x) (hr:a.mine.roads.l.length=0) (hP:P.l=a.mine.places.l ++ [⟨0,true⟩]) (hR:Rd.l=[Z2e a.mine.places.l.length]) (hPr:Pr.l=x.pres.l ++ [0]) (hFl:Fl.l=[0])
include h hr hP hR
include hPr hFl
end
end
section
end
end Go.Proofs.YtchfclmokpbldaaGreat
