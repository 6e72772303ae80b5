/-
  Merged texts. By an AI agent.
-/
import Derived.Test.YtchfclmokpbldaaGreatData
import Derived.Test.YtchfclmokpbldaaGreatOwn
import Derived.Test.YtchfclmokpbldaaGreatRuleD
import Derived.Test.YtchfclmokpbldaaGreatWinR
import Derived.Test.YtchfclmokpbldaaGreatFits
set_option linter.all false
set_option maxHeartbeats 4000000
set_option maxRecDepth 20000
namespace Go.Proofs.YtchfclmokpbldaaGreat
open Go.Aw Go
section
def Y9b {P:Program} (w:World) (t ty e:TypeId) (i:TypeInfo) (ht:P.underlying t=some (.slice e)) (hi:P.info? e=some i) (b off sLen sCap:Nat) (a:Option Addr) (c:Nat) (hl:sLen≤sCap):
 (Builtin.append_ #[t,t] ty #[.slice (some ⟨b,off,none⟩) sLen sCap,.slice a 0 c]).run P w=.ok (.slice (some ⟨b,off,none⟩) sLen sCap) w:=by
 have hst:=run_storeCells_cells (P:=P) b (off + sLen * i.size) [] 0 w zo zo zo;cases a with
 | none=>simp [Builtin.append_,run_underlying ht,sizeOf,typeInfo,hi,Builtin.lenOf,hl,Builtin.firstCells,storeCells]
 | some a=>have hf:=run_firstCells_some (P:=P) w i.size 0 a 0 c [] zo zo;simp [Builtin.append_,run_underlying ht,sizeOf,typeInfo,hi,Builtin.lenOf,hl,hf,storeCells]
section
variable {P:Program} {ρ:Operand→Value} {L:LB} {R:LS} {dst:Option Tmp} {ty:TypeId} {pos:String} {after:Array Edge} {guard:Option (Nat×Bool)} (tb:Tabs P) {T:TypeId} {x y:Operand}
def Vmc {e n fl bt z k2 n2 fl2 bt2 z2} {b sLen sCap c:Nat} {ar:Option Addr} (hT:Y4 tb.tab T=some ⟨.slice e,n,fl,bt,z⟩) (hE:Y4 tb.tab e=some ⟨k2,n2,fl2,bt2,z2⟩) (hx:ρ x=.slice (some ⟨b,0,none⟩) sLen sCap) (hy:ρ y=.slice ar 0 c) (hl:sLen≤sCap):
 Gives P ⟨dst,.call ⟨.builtin .append,#[x,y],#[T,T]⟩,ty,pos,after,guard⟩ ρ L R (fun v M U=>v=.slice (some ⟨b,0,none⟩) sLen sCap∧L=M∧R=U):=by
 intro c1 w hst a next Q kk
 have hu:=Vi (tb.ok _ _ hT) rfl;obtain ⟨ti,u,zv,i1,i2,i3,i4⟩:=Vl (tb.ok _ _ hE);have e1:execOp ρ ⟨dst,.call ⟨.builtin .append,#[x,y],#[T,T]⟩,ty,pos,after,guard⟩=(do pure (.value (← Builtin.append_ #[T,T] ty #[ρ x,ρ y]))):=by exact ua8
 have hr:=Y9b w T ty e ti hu i1 b 0 sLen sCap ar c hl;refine V6 (w':=w) (v:=.slice (some ⟨b,0,none⟩) sLen sCap) ?_ (kk _ _ _ w ⟨rfl,rfl,rfl⟩ hst);rw [e1,hx,hy];simp only [yga,hr,yE,yBa]
end
def Vsd {α : Type} {f : α → List Value} (h1 : ∀ x, (f x).all (·.oneCell') = true) : ∀ l : List α, (l.flatMap f).all (·.oneCell') = true
 | []=>rfl
 | x :: l=>by rw [yM,List.all_append,h1 x,Vsd h1 l];rfl
section
variable {P:Program} {ρ:Operand→Value} {L:LB} {R:LS} {dst:Option Tmp} {ty:TypeId} {pos:String} {after:Array Edge} {guard:Option (Nat×Bool)} (tb:Tabs P) {T:TypeId} {x y:Operand}
end
def Kff {γ : Type} (ws : List Nat) (t0 : Nat → Value) (hd : Head γ) (Q : Kt) : Kt
 | .normal,t,L,R=>∃g,Off ws t0 t∧Yea t (hd.slots g)∧(∃L1,L.Perm L1∧(hd.L g).Sublist L1)∧∀r∈hd.R g,InR r R
 | e,t,L,R=>Q e t L R
def Ju {γ:Type} {ws:List Nat} {t0 t:Nat→Value} {L L1:LB} {R:LS} {hd:Head γ} {Q:Kt} (g:γ) (ho:Off ws t0 t) (hs:Yea t (hd.slots g)) (hp:L.Perm L1) (hL:(hd.L g).Sublist L1) (hR:∀r∈hd.R g,InR r R):Kff ws t0 hd Q .normal t L R:=⟨g,ho,hs,⟨L1,hp,hL⟩,hR⟩
def Ulc {P n code t L M R} {Q:Kt} (hp:L.Perm M) (h:CJ P n code t M R Q):CJ P n code t L R Q:=Ulb fun _ _ hst=>⟨_,_,hst.perm hp,h⟩
def Vlb {γ:Type} {P n x y t L R} {Q:Kt} (ws:List Nat) (hd:Head γ) (h:CJ P n x t L R (Kff ws t hd Q)) (k:∀g junk,CJ P n y (updL (havoc ws t junk) (hd.slots g)) (hd.L g) (hd.R g) Q):CJ P n x t L R (U0 P n y Q):=by
 intro c a w hf hs;refine wp_mono (h c a w hf hs) ?_;rintro e a w ⟨hnp,t',M,U,hq,hf',hs'⟩;cases e with
 | normal=>
  obtain ⟨g,ho,hsh,⟨L1,hp,hL⟩,hR⟩:=hq;have e:updL (havoc ws t t') (hd.slots g)=t':=by rw [Z8 ho,Y5 hsh]
  refine ⟨trivial,t',M,U,?_,hf',hs'⟩;have:=k g t';rw [e] at this;exact Ulc hp (Vn hL hR this)
 | _=>exact ⟨hnp,t',M,U,hq,hf',hs'⟩
def Kbd {P : Program} {dst : Option Tmp} {f : FuncId} {xs : List Operand} {ts : Array TypeId} {pos : String} {after : Array Edge} {guard : Option (Nat × Bool)} {ty : TypeId} {t : Nat → Value} {L : LB} {R : LS} {args : List Value} {Post : Yy} (ha : xs.map (ev t) = args)
 (h:Tri P f args.toArray L R Post):Gives P ⟨dst,.call ⟨.value (.func f),xs.toArray,ts⟩,ty,pos,after,guard⟩ (ev t) L R Post:=
 U4a (by rw [← ha];simp) rfl h
def YV.gives2 {P op ρ L R v} (h:YV P op ρ L R v):Gives P op ρ L R (fun v' M U=>v'=v∧L=M∧R=U):=by exact ubp
def Kg {α : Type} {P n code t L R} {Q : Kt} {T : TypeId} {f : α → List Value} {wd : Nat} (p : OwL α) (subs : LS) {F : OwL α → LB} (hseg : OSeg T f p L F) (hf : ∀ x, (f x).length = wd) (hwd : 0 < wd) (hok : p.ok wd f) (hs : ∀ s ∈ subs, InR s R)
 (h:CJ P n code t (F OwL.nil) (p.arr.sl wd f subs :: R) Q):CJ P n code t L R Q:=by
 obtain ⟨A,B,hL,hF⟩:=hseg.split;rw [hF] at h;rw [hL,yq];refine Vla subs hf hwd hok hs ?_;have e:A ++ (OwL.nil:OwL α).L T f ++ B=A ++ B:=by rw [Ki,yZ]
 rw [← e];exact h
end
section
attribute [local irreducible] CJ LJ DJ Tri YV Gives U0 J3 Kj Uz RV J5 OwL.L
end
section
def U3f (n:Nat):XRoad:=⟨0,(n:Int),10,4,false,false,⟨1,1⟩,⟨0,0⟩⟩
section
variable {a:XAir} {s:XSetting} {x:XState} (h:MadeA a s x) (hr:a.mine.roads.l.length=0)
include h hr
end
section
variable {a:XAir} {s:XSetting} {x:XState} {P:Arr XPlace} {Rd:Arr XRoad} {Pr Fl:Arr Int} (h:MadeA a s x) (hr:a.mine.roads.l.length=0) (hP:P.l=a.mine.places.l ++ [⟨0,true⟩]) (hR:Rd.l=[U3f a.mine.places.l.length]) (hPr:Pr.l=x.pres.l ++ [0]) (hFl:Fl.l=[0])
include h hr hP hR
include hPr hFl
end
end
section
end
end Go.Proofs.YtchfclmokpbldaaGreat
