/-
  Merged texts. By an AI agent.
-/
import Derived.Test.YtchfclmokpbldaaGreatRuleP
import Derived.Test.YtchfclmokpbldaaGreatData
import Derived.Test.YtchfclmokpbldaaGreatOwn
import Derived.Test.YtchfclmokpbldaaGreatSiteP
import Derived.Test.YtchfclmokpbldaaGreatWinR
set_option linter.all false
set_option maxHeartbeats 4000000
set_option maxRecDepth 20000
namespace Go.Proofs.YtchfclmokpbldaaGreat
open Go.Aw Go
section
def shN (n:Nat) (x:XNode):XNode:=⟨x.kind,x.cond,if x.kind=1 then x.left else x.left + n,if x.kind=3∨x.kind=4 then x.right + n else x.right⟩
def Ykd {l m:List XNode} {i:Nat} (h:i < l.length):(l ++ m).getD i default=l.getD i default:=by rw [yh,yz h,← yh]
def Yva {a c : List XNode} : ∀ (n : Nat) (i f d : Int), i < a.length → Ue a n i = some (f, d) → Ue (a ++ c) n i = some (f, d)
 | 0,i,f,d,_,h=>by rw [Ue] at h;cases h
 | n + 1,i,f,d,hi,h=>by
  rw [Ue] at h ⊢
  split at h
  ·cases h
  rename_i h0
  rw [if_neg h0,Ykd za]
  split at h
  ·rename_i h1;rw [if_pos h1];exact h
  rename_i h1
  rw [if_neg h1]
  split at h
  ·rename_i h2
   rw [if_pos h2]
   split at h
   ·cases h
   rename_i f' d' hp
   rw [Yva n _ _ _ za hp]
   exact h
  rename_i h2
  rw [if_neg h2]
  split at h
  ·rename_i h3
   rw [if_pos h3]
   split at h
   ·cases h
   rename_i x y hp
   rw [Yva n _ _ _ za hp]
   dsimp only
   split at h
   ·rename_i h4
    rw [if_pos h4]
    split at h
    ·cases h
    rename_i x' y' hq
    have:=(Y4 _ _ _ _ hp).1
    rw [Yva n _ _ _ za hq]
    exact h
   ·cases h
  ·cases h
def Ysf {a b c:List XNode} {i:Nat} (h:i < b.length):(a ++ b.map (shN a.length) ++ c).getD (a.length + i) default=shN a.length (b.getD i default):=by rw [Ykd zD,yh,yB za,Nat.add_sub_cancel_left,yr,Jt (l:=b) (k:=i) default h];rfl
def V1b {a b c : List XNode} : ∀ (n : Nat) (i f d : Int), i < b.length → Ue b n i = some (f, d) → Ue (a ++ b.map (shN a.length) ++ c) n (a.length + i) = some (a.length + f, d)
 | 0,i,f,d,_,h=>by rw [Ue] at h;cases h
 | n + 1,i,f,d,hi,h=>by
  rw [Ue] at h ⊢
  split at h
  ·cases h
  rename_i h0
  rw [if_neg za,show ((a.length:Int) + i).toNat=a.length + i.toNat by omega,Ysf za]
  generalize b.getD i.toNat default=x at h ⊢
  split at h
  ·rename_i h1
   have e1:(shN a.length x).kind=1:=h1
   rw [if_pos e1]
   split at h
   ·rename_i h2
    rw [if_pos (by rw [shN,if_pos h1,if_neg za];exact h2)]
    cases h
    rfl
   ·cases h
  rename_i h1
  have e1:¬ (shN a.length x).kind=1:=h1
  rw [if_neg e1]
  split at h
  ·rename_i h2
   have e2:(shN a.length x).kind=2:=h2
   rw [if_pos e2]
   split at h
   ·cases h
   rename_i f' d' hp
   have ih:=V1b (a:=a) (c:=c) n _ _ _ za hp
   rw [show (a.length:Int) + i - 1=a.length + (i - 1) by omega,ih]
   dsimp only
   split at h
   ·rename_i h3
    rw [if_pos (by rw [shN,if_neg h1,if_neg za];dsimp only;omega)]
    cases h
    rfl
   ·cases h
  rename_i h2
  have e2:¬ (shN a.length x).kind=2:=h2
  rw [if_neg e2]
  split at h
  ·rename_i h3
   have e3:(shN a.length x).kind=3∨(shN a.length x).kind=4:=h3
   rw [if_pos e3]
   split at h
   ·cases h
   rename_i m r hp
   have ih:=V1b (a:=a) (c:=c) n _ _ _ za hp
   rw [show (a.length:Int) + i - 1=a.length + (i - 1) by omega,ih]
   dsimp only
   split at h
   ·rename_i h4
    rw [if_pos (by rw [shN,if_neg h1,if_pos h3];dsimp only;omega)]
    split at h
    ·cases h
    rename_i f' q hq
    have:=(Y4 _ _ _ _ hp).1
    have ih2:=V1b (a:=a) (c:=c) n _ _ _ za hq
    rw [show (a.length:Int) + m - 1=a.length + (m - 1) by omega,ih2]
    dsimp only
    cases h
    rfl
   ·cases h
  ·cases h
def Uuf : Nat → Nat
 | 0=>1
 | n + 1=>2 * Uuf n + 1
structure RuleD (conds:Nat) (dp:Nat) (l:List XNode):Prop where
 len:1≤l.length∧l.length≤Uuf dp
 part:∃d:Int,Ue l l.length ((l.length:Int) - 1)=some (0,d)∧d≤dp + 1
 conds:∀x∈l,x.kind=1→x.cond < conds
 kind:∀x∈l,1≤x.kind∧x.kind≤4
 small:∀x∈l,(0≤x.left∧x.left≤l.length)∧0≤x.right∧x.right≤l.length
def Kaf : ∀ n, 1 ≤ Uuf n
 | 0=>ym _
 | n + 1=>by rw [Uuf];omega
def RuleD.leaf {conds dp:Nat} {k:Int} (hk:0≤k∧k < conds) (hc:conds≤64):RuleD conds dp [⟨1,k,0,0⟩]:=by
 have:=Kaf dp;refine ⟨by simp;omega,⟨1,?_,by omega⟩,fun x hx _=>?_,fun x hx=>?_,fun x hx=>?_⟩;·
  have e:Ue [⟨1,k,0,0⟩] 1 0=some (0,1):=by have e0:([⟨1,k,0,0⟩]:List XNode).getD (0:Int).toNat default=⟨1,k,0,0⟩:=rfl;rw [Ue,if_neg za,e0,if_pos (show (⟨1,k,0,0⟩:XNode).kind=1 from rfl),if_pos (show (⟨1,k,0,0⟩:XNode).left=0∧(⟨1,k,0,0⟩:XNode).right=0∧0≤(⟨1,k,0,0⟩:XNode).cond∧(⟨1,k,0,0⟩:XNode).cond < 64 from ⟨rfl,rfl,hk.1,(by show k < 64;omega)⟩)]
  exact e
 ·rw [List.mem_singleton.1 hx];exact hk.2
 ·rw [List.mem_singleton.1 hx];dsimp only;omega
 ·rw [List.mem_singleton.1 hx];dsimp only;simp
def RuleD.neg {conds dp:Nat} {a:List XNode} (ha:RuleD conds dp a):RuleD conds (dp + 1) (a ++ [⟨2,0,(a.length:Int) - 1,0⟩]):=by
 have hl:=ha.len;obtain ⟨d,hp,hd⟩:=ha.part;refine ⟨by rw [yj,Uuf];simp;omega,⟨d + 1,?_,by omega⟩,fun x hx hk=>?_,fun x hx=>?_,fun x hx=>?_⟩;·
  rw [yj, yn, Ue];rw [if_neg za];have e:(a ++ [(⟨2,0,(a.length:Int) - 1,0⟩:XNode)]).getD (((a.length + 1:Nat):Int) - 1).toNat default=⟨2,0,(a.length:Int) - 1,0⟩:=by rw [show (((a.length + 1:Nat):Int) - 1).toNat=a.length by omega,yh,yB za,yzb];rfl
  rw [e,if_neg (show ¬ (2:Int)=1 by decide),if_pos (show (2:Int)=2 from rfl),show ((a.length + 1:Nat):Int) - 1 - 1=(a.length:Int) - 1 by omega,Yva _ _ _ _ za hp];dsimp only;rw [if_pos ⟨rfl,rfl,by omega⟩]
 ·
  rcases List.mem_append.1 hx with h | h;·exact ha.conds x h hk
  ·rw [List.mem_singleton.1 h] at hk;cases hk
 ·
  rcases List.mem_append.1 hx with h | h;·exact ha.kind x h
  ·exact ua2
 ·
  rw [yj, yn];rcases List.mem_append.1 hx with h | h;·have:=ha.small x h;omega
  ·exact ua2
def RuleD.two {conds dp:Nat} {a b:List XNode} {k:Int} (ha:RuleD conds dp a) (hb:RuleD conds dp b) (hk:k=3∨k=4):
 RuleD conds (dp + 1) (a ++ b.map (shN a.length) ++ [⟨k,0,(a.length:Int) - 1,((a.length + b.length:Nat):Int) - 1⟩]):=by
 have hl:=ha.len;have hl2:=hb.len;obtain ⟨d,hp,hd⟩:=ha.part;obtain ⟨d2,hp2,hd2⟩:=hb.part;have hlen:(a ++ b.map (shN a.length) ++ [(⟨k,0,(a.length:Int) - 1,((a.length + b.length:Nat):Int) - 1⟩:XNode)]).length=a.length + b.length + 1:=by simp;omega
 refine ⟨by rw [hlen,Uuf];omega,⟨max d d2 + 1,?_,by omega⟩,fun x hx hk1=>?_,fun x hx=>?_,fun x hx=>?_⟩;·
  rw [hlen, Ue, if_neg za];have e:(a ++ b.map (shN a.length) ++ [(⟨k,0,(a.length:Int) - 1,((a.length + b.length:Nat):Int) - 1⟩:XNode)]).getD (((a.length + b.length + 1:Nat):Int) - 1).toNat default=⟨k,0,(a.length:Int) - 1,((a.length + b.length:Nat):Int) - 1⟩:=by rw [show (((a.length + b.length + 1:Nat):Int) - 1).toNat=a.length + b.length by omega,yh,yB zo,show a.length + b.length - (a ++ b.map (shN a.length)).length=0 by simp];rfl
  rw [e,if_neg zu,if_neg zu,if_pos hk];have p1:=V1b (a:=a) (c:=[(⟨k,0,(a.length:Int) - 1,((a.length + b.length:Nat):Int) - 1⟩:XNode)]) _ _ _ _ za hp2;have p2:=Yva (c:=b.map (shN a.length) ++ [(⟨k,0,(a.length:Int) - 1,((a.length + b.length:Nat):Int) - 1⟩:XNode)]) _ _ _ _ za hp;rw [← yo] at p2;rw [show ((a.length + b.length + 1:Nat):Int) - 1 - 1=(a.length:Int) + ((b.length:Int) - 1) by omega,Vha _ (a.length + b.length) _ _ za p1];dsimp only;rw [if_pos ⟨rfl,by omega,by omega⟩,show (a.length:Int) + 0 - 1=(a.length:Int) - 1 by omega,Vha _ (a.length + b.length) _ _ za p2]
 ·
  rcases List.mem_append.1 hx with h | h;·
   rcases List.mem_append.1 h with h | h;·exact ha.conds x h hk1
   ·obtain ⟨y, hy, rfl⟩ := List.mem_map.1 h;exact hb.conds y hy hk1
  ·rw [List.mem_singleton.1 h] at hk1;dsimp only at hk1;omega
 ·
  rcases List.mem_append.1 hx with h | h;·
   rcases List.mem_append.1 h with h | h;·exact ha.kind x h
   ·obtain ⟨y, hy, rfl⟩ := List.mem_map.1 h;exact hb.kind y hy
  ·exact ua2
 ·
  rw [hlen];rcases List.mem_append.1 hx with h | h;·
   rcases List.mem_append.1 h with h | h;·have:=ha.small x h;omega
   ·obtain ⟨y, hy, rfl⟩ := List.mem_map.1 h;have:=hb.small y hy;rw [shN];dsimp only;constructor <;> split <;> omega
  ·exact ua2
def RuleD.right {conds:Nat} {l:List XNode} (h:RuleD conds 2 l):Y6 l=true:=by obtain ⟨d,hp,hd⟩:=h.part;have hl:=h.len;have e:Uuf 2=7:=rfl;exact Jxa.2 ⟨by omega,d,hp,by omega⟩
def RuleD.err {conds:Nat} {l:List XNode} (h:RuleD conds 2 l):Yz l conds=0:=by rw [Yz,if_neg (by rw [h.right];decide),if_neg];rintro ⟨x,hx,hk,hc⟩;have:=h.conds x hx hk;omega
end
section
def Jlc {P:Program} (w:World) (t ty e:TypeId) (i:TypeInfo) (ht:P.underlying t=some (.slice e)) (hi:P.info? e=some i) (b off sLen sCap:Nat) (a:Option Addr) (c:Nat) (hl:sLen≤sCap):
 (Builtin.append_ #[t,t] ty #[.slice (some ⟨b,off,none⟩) sLen sCap,.slice a 0 c]).run P w=.ok (.slice (some ⟨b,off,none⟩) sLen sCap) w:=by
 have hst:=run_storeCells_cells (P:=P) b (off + sLen * i.size) [] 0 w zo zo zo;cases a with
 | none=>simp [Builtin.append_,run_underlying ht,sizeOf,typeInfo,hi,Builtin.lenOf,hl,Builtin.firstCells,storeCells]
 | some a=>have hf:=run_firstCells_some (P:=P) w i.size 0 a 0 c [] zo zo;simp [Builtin.append_,run_underlying ht,sizeOf,typeInfo,hi,Builtin.lenOf,hl,hf,storeCells]
section
variable {P:Program} {ρ:Operand→Value} {L:LB} {R:LS} {dst:Option Tmp} {ty:TypeId} {pos:String} {after:Array Edge} {guard:Option (Nat×Bool)} (tb:Tabs P) {T:TypeId} {x y:Operand}
def U2c {e n fl bt z k2 n2 fl2 bt2 z2} {b sLen sCap c:Nat} {ar:Option Addr} (hT:Yv tb.tab T=some ⟨.slice e,n,fl,bt,z⟩) (hE:Yv tb.tab e=some ⟨k2,n2,fl2,bt2,z2⟩) (hx:ρ x=.slice (some ⟨b,0,none⟩) sLen sCap) (hy:ρ y=.slice ar 0 c) (hl:sLen≤sCap):
 Gives P ⟨dst,.call ⟨.builtin .append,#[x,y],#[T,T]⟩,ty,pos,after,guard⟩ ρ L R (fun v M U=>v=.slice (some ⟨b,0,none⟩) sLen sCap∧L=M∧R=U):=by
 intro c1 w hst a next Q kk
 have hu:=Vr (tb.ok _ _ hT) rfl;obtain ⟨ti,u,zv,i1,i2,i3,i4⟩:=Vh (tb.ok _ _ hE);have e1:execOp ρ ⟨dst,.call ⟨.builtin .append,#[x,y],#[T,T]⟩,ty,pos,after,guard⟩=(do pure (.value (← Builtin.append_ #[T,T] ty #[ρ x,ρ y]))):=by exact ubb
 have hr:=Jlc w T ty e ti hu i1 b 0 sLen sCap ar c hl;refine V9 (w':=w) (v:=.slice (some ⟨b,0,none⟩) sLen sCap) ?_ (kk _ _ _ w ⟨rfl,rfl,rfl⟩ hst);rw [e1,hx,hy];simp only [yda,hr,yI,yCa]
end
def V1c {α : Type} {f : α → List Value} (h1 : ∀ x, (f x).all (·.oneCell') = true) : ∀ l : List α, (l.flatMap f).all (·.oneCell') = true
 | []=>rfl
 | x :: l=>by rw [yR,List.all_append,h1 x,V1c h1 l];rfl
def K6f {α:Type} {f:α→List Value} {wd:Nat} {T':TypeId} {q:OwL α} {L:LB} {R:LS} (hf:∀x,(f x).length=wd) (hok:q.ok wd f) (hin:InB (q.L T' f) L) (hm:0 < q.l.length):Zoc L R q.val q.l.length wd (q.l.flatMap f):=by obtain ⟨g,cap,spare,ho⟩:=OwL.own_of hok hm;refine ⟨⟨g,0,none⟩,cap,by rw [OwL.val,ho];rfl,Uj hf q.l,fun c w hst j u hj=>?_⟩;have hmem:(⟨g,q.l.flatMap f ++ spare,T'⟩:Blk)∈L:=hin _ (by rw [OwL.L,ho];simp [Ow.L]);exact ubs
section
variable {P:Program} {ρ:Operand→Value} {L:LB} {R:LS} {dst:Option Tmp} {ty:TypeId} {pos:String} {after:Array Edge} {guard:Option (Nat×Bool)} (tb:Tabs P) {T:TypeId} {x y:Operand}
def Vmc {α : Type} {e n fl bt z k2 n2 fl2 bt2 z2} {f : α → List Value} (p q : OwL α) {T' : TypeId} {F : OwL α → LB} (hT : Yv tb.tab T = some ⟨.slice e, n, fl, bt, z⟩) (hE : Yv tb.tab e = some ⟨k2, n2, fl2, bt2, z2⟩) (hn2 : z2.length = n2)
 (hx:ρ x=p.val) (hy:ρ y=q.val) (hok:p.ok n2 f) (hokq:q.ok n2 f) (hf:∀x,(f x).length=n2) (hseg:OSeg e f p L F) (hB:InB (q.L T' f) L) (hm:0 < q.l.length) (h1:∀x,(f x).all (·.oneCell')=true) (hby:(p.l.length + q.l.length) * (bt2 + 1)≤140737488355328):
 Gives P ⟨dst,.call ⟨.builtin .append,#[x,y],#[T,T]⟩,ty,pos,after,guard⟩ ρ L R (fun v M U=>∃o:Ow,v=(⟨o,p.l ++ q.l⟩:OwL α).val∧(⟨o,p.l ++ q.l⟩:OwL α).ok n2 f∧F ⟨o,p.l ++ q.l⟩=M∧R=U):=by
 have hsh:Zoc L R q.val q.l.length n2 (q.l.flatMap f):=K6f hf hokq hB hm;rw [← hy] at hsh;obtain ⟨A,B,hL,hF⟩:=hseg.split;subst hL;have hb1:(p.l.length + q.l.length) * bt2≤140737488355328:=yna (yxb _ (Nat.le_succ _)) hby;have hb2:p.l.length + q.l.length≤140737488355328:=yna (ycb _ (ymc _)) hby;have hx':ρ x=p.o.val p.l.length:=by rw [hx,Ow.val_of_ok hok];rfl
 have:=Ura (dst:=dst) (ty:=ty) (pos:=pos) (after:=after) (guard:=guard) tb hT hE hn2 hx' hok (Vyd A _ B) hsh hm (V1c h1 _) za hb1;intro c w hst ac next Q kk
 refine this c w hst ac next Q ?_
 rintro v M U w' ⟨g,cap,spare,rfl,hok',rfl,rfl⟩ hst';have e:p.l.flatMap f ++ q.l.flatMap f=(p.l ++ q.l).flatMap f:=by simp
 rw [e] at hok';have hl:(p.l ++ q.l).length=p.l.length + q.l.length:=by simp
 exact uaq
end
def Utf {γ : Type} (ws : List Nat) (t0 : Nat → Value) (hd : Head γ) (Q : Kz) : Kz
 | .normal,t,L,R=>∃g,Off ws t0 t∧Yma t (hd.slots g)∧(∃L1,L.Perm L1∧(hd.L g).Sublist L1)∧∀r∈hd.R g,InR r R
 | e,t,L,R=>Q e t L R
def Jz {γ:Type} {ws:List Nat} {t0 t:Nat→Value} {L L1:LB} {R:LS} {hd:Head γ} {Q:Kz} (g:γ) (ho:Off ws t0 t) (hs:Yma t (hd.slots g)) (hp:L.Perm L1) (hL:(hd.L g).Sublist L1) (hR:∀r∈hd.R g,InR r R):Utf ws t0 hd Q .normal t L R:=⟨g,ho,hs,⟨L1,hp,hL⟩,hR⟩
def Zdd {P n code t L M R} {Q:Kz} (hp:L.Perm M) (h:CJ P n code t M R Q):CJ P n code t L R Q:=K9b fun _ _ hst=>⟨_,_,hst.perm hp,h⟩
def Ydb {γ:Type} {P n x y t L R} {Q:Kz} (ws:List Nat) (hd:Head γ) (h:CJ P n x t L R (Utf ws t hd Q)) (k:∀g junk,CJ P n y (updL (havoc ws t junk) (hd.slots g)) (hd.L g) (hd.R g) Q):CJ P n x t L R (Uq P n y Q):=by
 intro c a w hf hs;refine wp_mono (h c a w hf hs) ?_;rintro e a w ⟨hnp,t',M,U,hq,hf',hs'⟩;cases e with
 | normal=>
  obtain ⟨g,ho,hsh,⟨L1,hp,hL⟩,hR⟩:=hq;have e:updL (havoc ws t t') (hd.slots g)=t':=by rw [Jfa ho,Zj hsh]
  refine ⟨trivial,t',M,U,?_,hf',hs'⟩;have:=k g t';rw [e] at this;exact Zdd hp (Vg hL hR this)
 | _=>exact ⟨hnp,t',M,U,hq,hf',hs'⟩
def Kud {P : Program} {dst : Option Tmp} {f : FuncId} {xs : List Operand} {ts : Array TypeId} {pos : String} {after : Array Edge} {guard : Option (Nat × Bool)} {ty : TypeId} {t : Nat → Value} {L : LB} {R : LS} {args : List Value} {Post : Y8} (ha : xs.map (ev t) = args)
 (h:Tri P f args.toArray L R Post):Gives P ⟨dst,.call ⟨.value (.func f),xs.toArray,ts⟩,ty,pos,after,guard⟩ (ev t) L R Post:=
 Vfa (by rw [← ha];simp) rfl h
def YV.gives2 {P op ρ L R v} (h:YV P op ρ L R v):Gives P op ρ L R (fun v' M U=>v'=v∧L=M∧R=U):=by exact ubu
def Kk {α : Type} {P n code t L R} {Q : Kz} {T : TypeId} {f : α → List Value} {wd : Nat} (p : OwL α) (subs : LS) {F : OwL α → LB} (hseg : OSeg T f p L F) (hf : ∀ x, (f x).length = wd) (hwd : 0 < wd) (hok : p.ok wd f) (hs : ∀ s ∈ subs, InR s R)
 (h:CJ P n code t (F OwL.nil) (p.arr.sl wd f subs :: R) Q):CJ P n code t L R Q:=by
 obtain ⟨A,B,hL,hF⟩:=hseg.split;rw [hF] at h;rw [hL,yo];refine V1 subs hf hwd hok hs ?_;have e:A ++ (OwL.nil:OwL α).L T f ++ B=A ++ B:=by rw [Kj,yca]
 rw [← e];exact h
end
section
attribute [local irreducible] CJ LJ DJ Tri YV Gives Uq J2 Km Ur RV J4 OwL.L
section
variable {A B:Prop}
def Kjf(h:A→B:=by exact Y3 zxb rfl):=h
def Jyf(h:A→B:=by exact Jy (Jw tb ((⟨b.o,bs1⟩:OwL XNode)) _ rfl rfl ((show _=Value.slice _ _ _ from rfl).trans (by simp only [OwL.val,hb1l])) rfl zi (i:=i) zk zw) rfl):=h
def V5f(h:A→B:=by exact Jy (Jw tb ((⟨b.o,bs⟩:OwL XNode)) _ rfl rfl ((show _=Value.slice _ _ _ from rfl).trans (by simp only [OwL.val,hbl])) rfl zi (i:=i) zk zw) rfl):=h
def Vdf(h:A→B:=by exact Jy (Ke tb ((⟨b.o,bs1⟩:OwL XNode)) rfl rfl rfl zj zi yf zi zb) rfl):=h
def Krg(h:A→B:=by exact Jy (J8 (qs:=[(0,(Value.int _ _).cells.toList),(1,(Value.int _ _).cells.toList)]) (out:=[_,_,_,_]) tb rfl rfl rfl rfl) rfl):=h
def Vpg(h:A→B:=by exact Jy (Ke tb ((⟨b.o,bs⟩:OwL XNode)) rfl rfl rfl zj zi yf zi zb) rfl):=h
end
def J3f (c : Nat) (x : Arr Int) (R : LS) (conds n : Nat) : Prop := ∀ k, k ≤ x.l.length → Tri Tryz.prog 93 [.pointer (some ⟨c, 0, none⟩), .int .i64 (conds : Int), .int .i64 (n : Int)].toArray [cblk c x k] R
 (fun v M U=>∃(p:OwL XNode) (k':Nat),v=p.val∧p.ok 4 XNode.cells∧RuleD conds n p.l∧k'≤x.l.length∧p.L 172 XNode.cells ++ (cblk c x k' :: [])=M∧R=U)
def Z8d (c:Nat) (x:Arr Int) (R:LS) (conds:Nat) (hx:CodesR x R) (hc:1≤conds∧conds≤64):J3f c x R conds 0:=by
 intro k hk;refine Jd 106 Tryz.call93 Tryz.func93 rfl rfl rfl ?_;apply qae∘Xbz∘Xcv;refine Uda (k:=13) zmb (fun hg3=>?_) (fun hg3=>?_);·
  replace hg3:=qb hg3;iterate 3 refine Kea rfl rfl ?_
  refine Jy zN rfl ?_;apply (qaf);refine K9 rfl ?_;apply qae∘Xb6;refine Jo rfl (Yg zp hx hk za) rfl ?_;rintro v M U ⟨r1,k1,rfl,g1,g1',g1'',hk1,rfl,rfl⟩;have g1q:=g1' za;apply Krg∘Kjf;rintro v M U ⟨b22,rfl,rfl,hR22⟩;replace hR22:=hR22.symm;subst hR22;apply qc4∘qbh;refine Kv (M:=(⟨.own b22 1 [],[⟨1,r1,0,0⟩]⟩:OwL XNode).L 172 XNode.cells ++ (cblk c x k1 :: [])) (U:=R) zkd ?hp ?hL ?hR;case hp=>exact ⟨⟨.own b22 1 [],[⟨1,r1,0,0⟩]⟩,k1,rfl,K0a yf rfl ze,RuleD.leaf za hc.2,hk1,rfl,rfl⟩
  case hL=>rw [← Vya (f:=XNode.cells) [⟨1,r1,0,0⟩] rfl];exact yv _
  case hR=>exact Jc _
 replace hg3:=qb hg3;(exfalso;omega)
def J0c {α β:Type} [Inhabited α] {l:List α} {f:α→β}:(List.range l.length).map (fun j=>f (l.getD j default))=l.map f:=by
 refine yra fun j=>?_;rcases yl j l.length with hj | hj;·rw [yr,yU hj,yr,Jt (l:=l) (k:=j) default hj];rfl
 ·rw [yt zD,yt zD]
def Jjf {α:Type} {l:List α} {i:Nat} {x:α} (h:l[i]?=some x):l.set i x=l:=by
 refine yra fun j=>?_;rw [yG];split;·
  rename_i e;subst e;rw [h];split;·rfl
  ·rename_i hn;rw [yt za] at h;cases h
 ·rfl
def J5b (c:Nat) (x:Arr Int) (R:LS) (conds n:Nat) (hx:CodesR x R) (hc:1≤conds∧conds≤64) (hn:Uuf n≤100) (hn2:n≤100) (ih:J3f c x R conds n):J3f c x R conds (n + 1):=by
 intro k hk;have call : ∀ k, k ≤ x.l.length → Tri Tryz.prog 93 [.pointer (some ⟨c, 0, none⟩), .int .i64 (conds : Int), .int .i64 (((n + 1 : Nat) : Int) - 1)].toArray [cblk c x k] R
  (fun v M U=>∃(p:OwL XNode) (k':Nat),v=p.val∧p.ok 4 XNode.cells∧RuleD conds n p.l∧k'≤x.l.length∧p.L 172 XNode.cells ++ (cblk c x k' :: [])=M∧R=U):=fun k hk=>by
  rw [show ((n + 1:Nat):Int) - 1=(n:Int) by omega];exact ih k hk
 refine Jd 106 Tryz.call93 Tryz.func93 rfl rfl rfl ?_;apply qae∘Xbz∘Xcv;refine Uda (k:=13) zmb (fun hg3=>?_) (fun hg3=>?_);·replace hg3:=qb hg3;(exfalso;omega)
 replace hg3:=qb hg3;refine Zt (Jx zJb) rfl rfl ?_;refine V7b rfl (Yg zp hx hk za) rfl rfl ?_;rintro v M U ⟨r0,k0,rfl,g0,g0',g0'',hk0,rfl,rfl⟩;refine Zt zyc rfl rfl ?_;refine Jy zN rfl ?_;apply (qaf);refine q_c ?_ ?_<;>intro hc0;·
  apply qae∘Xb6;refine Jo rfl (Yg zp hx hk0 za) rfl ?_;rintro v M U ⟨r1,k1,rfl,g1,g1',g1'',hk1,rfl,rfl⟩;have g1q:=g1' za;apply Krg∘Kjf;rintro v M U ⟨b22,rfl,rfl,hR22⟩;replace hR22:=hR22.symm;subst hR22;apply qc4∘qbh;refine Kv (M:=(⟨.own b22 1 [],[⟨1,r1,0,0⟩]⟩:OwL XNode).L 172 XNode.cells ++ (cblk c x k1 :: [])) (U:=R) zkd ?hp ?hL ?hR;case hp=>exact ⟨⟨.own b22 1 [],[⟨1,r1,0,0⟩]⟩,k1,rfl,K0a yf rfl ze,RuleD.leaf za hc.2,hk1,rfl,rfl⟩
  case hL=>rw [← Vya (f:=XNode.cells) [⟨1,r1,0,0⟩] rfl];exact yv _
  case hR=>exact Jc _
 apply qbv∘Xb6∘Xbn;refine Jo rfl (call _ hk0) rfl ?_;rintro v M U ⟨a,k2,rfl,hak,haD,hk2,rfl,rfl⟩;have hal:=haD.len;apply Xbz∘qa6;refine Jo rfl (Zbe zp hx hk2 za) rfl ?_;rintro v M U ⟨bb,k3,rfl,hk3,rfl,rfl⟩;apply (qaf);refine q_c ?_ ?_<;>intro hc1;·apply qae∘qbm∘Xdz;refine Jy (J8 (qs:=[(0,(Value.int _ _).cells.toList),(2,(Value.int _ _).cells.toList)]) (out:=[_,_,_,_]) tb rfl rfl rfl rfl) rfl ?_;apply (Kjf);rintro v M U ⟨b35,rfl,rfl,hR35⟩;replace hR35:=hR35.symm;subst hR35;refine Y3 (Jv (f:=XNode.cells) (p:=a) (a:=⟨2,0,(a.l.length:Int) - 1,0⟩) tb rfl rfl rfl rfl (hak) zj zwb rfl zA) rfl ?_;rintro v M U ⟨o36,rfl,hok36,rfl,rfl⟩;apply qc4∘qbh;refine q_r ((⟨o36,a.l ++ [⟨2,0,(a.l.length:Int) - 1,0⟩]⟩:OwL XNode).L 172 XNode.cells ++ (cblk c x k3 :: [])) R zkd ?_;exact ⟨(⟨o36,_⟩:OwL XNode),k3,rfl,hok36,haD.neg,hk3,rfl,rfl⟩
 apply qbv∘Xb6∘Xbn;refine Jo rfl (Tri.spl (.appB (.consL .nil)) (call _ hk3)) rfl ?_;rintro v M U ⟨_,rfl,b,k4,rfl,hbk,hbD,hk4,rfl,rfl⟩;simp only [yo,yu,yx];have hbn:=hbD.len;apply Xbz∘Xba;refine Jl [(0,.pointer _),(7,.slice _ _ _),(8,.slice _ _ _),(9,.int _ _)] zh fun tq0=>?_;refine q_p ([9]++rg 42 46) ((⟨fun g=>[(9,.int .i64 ((g.1.1:Nat):Int))],fun g=>a.L 172 XNode.cells ++ ((⟨b.o,g.1.2⟩:OwL XNode).L 172 XNode.cells ++ (cblk c x k4 :: [])),fun _=>R,fun g=>b.l.length - g.1.1⟩:Head {g:Nat×List XNode // g.1≤b.l.length∧WrO b.l (fun j=>shN a.l.length (b.l.getD j default)) g.1 g.2})) (⟨(0,b.l),by dsimp only;omega,.zero⟩) ?_;rintro ⟨⟨i,bs⟩,hi,hW⟩ junk;try dsimp only
 dsimp only at hi hW;have hbl:=hW.len;have hbk1:(⟨b.o,bs⟩:OwL XNode).ok 4 XNode.cells:=OwL.len_ok yf hbk hbl;apply Xa1∘Xaq∘Xbb;refine q_c ?_ ?_<;>intro hc2;·
  have hbg0:=Jt (l:=b.l) (k:=i) default za;have hbg:=hW.old i (ym _);rw [hbg0] at hbg;have hWn:=fun (z:XNode)=>hW.next (x:=z) za;obtain ⟨y,hy⟩:∃y,y=b.l.getD i default:=⟨_,rfl⟩;have hsm:=hbD.small _ (yi hbg0);rw [← hy] at hbg hWn hsm;refine J3 (Jb (Jp (Kc (Jp (Jp (Jh ?_))))));apply Xas∘V5f∘qb0∘Vpg∘Xat;refine Yj (rg 54 10) ((⟨fun _=>[],fun g=>a.L 172 XNode.cells ++ ((⟨b.o,g.1⟩:OwL XNode).L 172 XNode.cells ++ (cblk c x k4 :: [])),fun _=>R,fun _=>0⟩:Head {g:List XNode // g=bs.set i ⟨y.kind,y.cond,if y.kind=1 then y.left else y.left + a.l.length,y.right⟩})) ?_ ?_;·
   skip
   refine q_c ?_ ?_<;>intro hc3;·apply Xcg∘V5f∘qb0∘Vpg∘Xaq∘qar∘V5f∘qb0;refine Ye (Ju tb ((⟨b.o,bs⟩:OwL XNode)) (⟨y.kind,y.cond,y.left + a.l.length,y.right⟩) rfl rfl rfl rfl zj zi yf zi ze zb zb) ?_;rintro v M U ⟨rfl,rfl⟩;apply (qav);exact q_j ⟨bs.set i ⟨y.kind,y.cond,y.left + a.l.length,y.right⟩,by rw [if_neg hc3]⟩
   refine J3 ?_;exact q_j ⟨bs,by rw [if_pos za];exact (Jjf hbg).symm⟩
  rintro ⟨bs1,hb1⟩ junk;try dsimp only
  have hb1l:bs1.length=b.l.length:=by rw [hb1,yE];exact hbl
  have hbk2:(⟨b.o,bs1⟩:OwL XNode).ok 4 XNode.cells:=OwL.len_ok yf hbk hb1l;have hbg1:bs1[i]?=some ⟨y.kind,y.cond,if y.kind=1 then y.left else y.left + a.l.length,y.right⟩:=by rw [hb1];exact yO za
  apply qae∘Xas∘Jyf∘qb0∘Vdf∘Xcc;apply Kd (G:=[_,_,_,_,_,_]) (j:=6) (cj:=70) rfl rfl zb rfl zmb rfl;·intro hg7;replace hg7:=qb hg7;exact (Xas∘Jyf∘qb0∘Vdf) zKd
  intro junk7;apply (qaf);refine q_c ?_ ?_<;>intro hc4;·apply Xcg∘Jyf∘qb0∘Vdf∘Xaq;refine Jy (Krb rfl rfl zu zu) rfl ?_;apply Jyf∘qb0;refine Ye (Ju tb ((⟨b.o,bs1⟩:OwL XNode)) (⟨y.kind,y.cond,if y.kind=1 then y.left else y.left + a.l.length,y.right + a.l.length⟩) rfl rfl rfl rfl zj zi yf zi ze zb zb) ?_;rintro v M U ⟨rfl,rfl⟩;apply (Xdo);exact q_k ⟨(i + 1,bs1.set i ⟨y.kind,y.cond,if y.kind=1 then y.left else y.left + a.l.length,y.right + a.l.length⟩),by dsimp only;omega,by dsimp only;rw [hb1,yDa];exact hWn _ (by rw [shN,if_pos hc4])⟩
  apply qbj∘Xbo;exact q_k ⟨(i + 1,bs1),by dsimp only;omega,by dsimp only;rw [hb1];exact hWn _ (by rw [shN,if_neg (show ¬ (y.kind=3∨y.kind=4) by omega)])⟩
 obtain rfl:i=b.l.length:=by omega
 have hdn:=hW.done;rw [J0c] at hdn;apply qbk∘Xaq∘Xaq∘qar∘Xag∘qbm∘qbm;refine Y3 (Vmc tb a (⟨b.o,bs⟩:OwL XNode) rfl rfl rfl rfl ((show _=Value.slice _ _ _ from rfl).trans (by simp only [OwL.val,hbl])) hak hbk1 yf zj zH zu yf zu) rfl ?_;rintro v M U ⟨o95,rfl,hok95,rfl,rfl⟩;apply (qa6);refine Jo rfl (Jta zp hx hk4 za) rfl ?_;rintro v M U ⟨r3,k5,rfl,g3,g3',hk5,rfl,rfl⟩;apply Xdz∘Xbn;refine Jy (J8 (qs:=[(0,(Value.int _ _).cells.toList),(2,(Value.int _ _).cells.toList),(3,(Value.int _ _).cells.toList)]) (out:=[_,_,_,_]) tb rfl rfl rfl rfl) rfl ?_;apply (Kjf);rintro v M U ⟨b104,rfl,rfl,hR104⟩;replace hR104:=hR104.symm;subst hR104;refine Y3 (Jv (f:=XNode.cells) (p:=(⟨o95,a.l ++ bs⟩:OwL XNode)) (a:=⟨r3,0,(a.l.length:Int) - 1,(a.l.length:Int) + b.l.length - 1⟩) tb rfl rfl rfl rfl (hok95) zj zwb rfl zA) rfl ?_;rintro v M U ⟨o105,rfl,hok105,rfl,rfl⟩;apply (Xcn);refine q_r ((⟨o105,a.l ++ bs ++ [⟨r3,0,(a.l.length:Int) - 1,(a.l.length:Int) + b.l.length - 1⟩]⟩:OwL XNode).L 172 XNode.cells ++ (cblk c x k5 :: [])) R zkd ?_;refine ⟨(⟨o105,_⟩:OwL XNode),k5,rfl,hok105,?_,hk5,rfl,rfl⟩;have:=haD.two hbD (k:=r3) za;rw [show ((a.l.length + b.l.length:Nat):Int)=(a.l.length:Int) + b.l.length by omega] at this;rw [hdn];exact this
def Kle (c:Nat) (x:Arr Int) (R:LS) (conds:Nat) (hx:CodesR x R) (hc:1≤conds∧conds≤64):J3f c x R conds 2:=
 J5b c x R conds 1 hx hc ze ze (J5b c x R conds 0 hx hc ze ze (Z8d c x R conds hx hc))
end
end Go.Proofs.YtchfclmokpbldaaGreat
