/-
  Merged texts. By an AI agent.
-/
import Derived.Test.YtchfclmokpbldaaGreatRuleP
import Derived.Test.YtchfclmokpbldaaGreatData
import Derived.Test.YtchfclmokpbldaaGreatOwn
import Derived.Test.YtchfclmokpbldaaGreatRestA
import Derived.Test.YtchfclmokpbldaaGreatDraw13
set_option linter.all false
set_option maxHeartbeats 4000000
set_option maxRecDepth 20000
namespace Go.Proofs.YtchfclmokpbldaaGreat
open Go.Aw Go
section
def shN (n:Nat) (x:XNode):XNode:=⟨x.kind,x.cond,if x.kind=1 then x.left else x.left + n,if x.kind=3∨x.kind=4 then x.right + n else x.right⟩
def Utd {l m:List XNode} {i:Nat} (h:i < l.length):(l ++ m).getD i default=l.getD i default:=by rw [yh,yy h,← yh]
def Yaa {a c : List XNode} : ∀ (n : Nat) (i f d : Int), i < a.length → Un a n i = some (f, d) → Un (a ++ c) n i = some (f, d)
 | 0,i,f,d,_,h=>by rw [Un] at h;cases h
 | n + 1,i,f,d,hi,h=>by
  rw [Un] at h ⊢
  split at h
  ·cases h
  rename_i h0
  rw [if_neg h0,Utd zc]
  split at h
  ·rename_i h1;rw [if_pos h1];exact h
  rename_i h1
  rw [if_neg h1]
  split at h
  ·rename_i h2
   rw [if_pos h2]
   split at h
   ·cases h
   rename_i f' d' hp
   rw [Yaa n _ _ _ zc hp]
   exact h
  rename_i h2
  rw [if_neg h2]
  split at h
  ·rename_i h3
   rw [if_pos h3]
   split at h
   ·cases h
   rename_i x y hp
   rw [Yaa n _ _ _ zc hp]
   dsimp only
   split at h
   ·rename_i h4
    rw [if_pos h4]
    split at h
    ·cases h
    rename_i x' y' hq
    have:=(Zt _ _ _ _ hp).1
    rw [Yaa n _ _ _ zc hq]
    exact h
   ·cases h
  ·cases h
def K2f {a b c:List XNode} {i:Nat} (h:i < b.length):(a ++ b.map (shN a.length) ++ c).getD (a.length + i) default=shN a.length (b.getD i default):=by rw [Utd zH,yh,yF zc,Nat.add_sub_cancel_left,yt,Js (l:=b) (k:=i) default h];rfl
def Vpb {a b c : List XNode} : ∀ (n : Nat) (i f d : Int), i < b.length → Un b n i = some (f, d) → Un (a ++ b.map (shN a.length) ++ c) n (a.length + i) = some (a.length + f, d)
 | 0,i,f,d,_,h=>by rw [Un] at h;cases h
 | n + 1,i,f,d,hi,h=>by
  rw [Un] at h ⊢
  split at h
  ·cases h
  rename_i h0
  rw [if_neg zc,show ((a.length:Int) + i).toNat=a.length + i.toNat by omega,K2f zc]
  generalize b.getD i.toNat default=x at h ⊢
  split at h
  ·rename_i h1
   have e1:(shN a.length x).kind=1:=h1
   rw [if_pos e1]
   split at h
   ·rename_i h2
    rw [if_pos (by rw [shN,if_pos h1,if_neg zc];exact h2)]
    cases h
    rfl
   ·cases h
  rename_i h1
  have e1:¬ (shN a.length x).kind=1:=h1
  rw [if_neg e1]
  split at h
  ·rename_i h2
   have e2:(shN a.length x).kind=2:=h2
   rw [if_pos e2]
   split at h
   ·cases h
   rename_i f' d' hp
   have ih:=Vpb (a:=a) (c:=c) n _ _ _ zc hp
   rw [show (a.length:Int) + i - 1=a.length + (i - 1) by omega,ih]
   dsimp only
   split at h
   ·rename_i h3
    rw [if_pos (by rw [shN,if_neg h1,if_neg zc];dsimp only;omega)]
    cases h
    rfl
   ·cases h
  rename_i h2
  have e2:¬ (shN a.length x).kind=2:=h2
  rw [if_neg e2]
  split at h
  ·rename_i h3
   have e3:(shN a.length x).kind=3∨(shN a.length x).kind=4:=h3
   rw [if_pos e3]
   split at h
   ·cases h
   rename_i m r hp
   have ih:=Vpb (a:=a) (c:=c) n _ _ _ zc hp
   rw [show (a.length:Int) + i - 1=a.length + (i - 1) by omega,ih]
   dsimp only
   split at h
   ·rename_i h4
    rw [if_pos (by rw [shN,if_neg h1,if_pos h3];dsimp only;omega)]
    split at h
    ·cases h
    rename_i f' q hq
    have:=(Zt _ _ _ _ hp).1
    have ih2:=Vpb (a:=a) (c:=c) n _ _ _ zc hq
    rw [show (a.length:Int) + m - 1=a.length + (m - 1) by omega,ih2]
    dsimp only
    cases h
    rfl
   ·cases h
  ·cases h
def Unf : Nat → Nat
 | 0=>1
 | n + 1=>2 * Unf n + 1
structure RuleD (conds:Nat) (dp:Nat) (l:List XNode):Prop where
 len:1≤l.length∧l.length≤Unf dp
 part:∃d:Int,Un l l.length ((l.length:Int) - 1)=some (0,d)∧d≤dp + 1
 conds:∀x∈l,x.kind=1→x.cond < conds
 kind:∀x∈l,1≤x.kind∧x.kind≤4
 small:∀x∈l,(0≤x.left∧x.left≤l.length)∧0≤x.right∧x.right≤l.length
def Vxe : ∀ n, 1 ≤ Unf n
 | 0=>yn _
 | n + 1=>by rw [Unf];omega
def RuleD.leaf {conds dp:Nat} {k:Int} (hk:0≤k∧k < conds) (hc:conds≤64):RuleD conds dp [⟨1,k,0,0⟩]:=by
 have:=Vxe dp;refine ⟨by simp;omega,⟨1,?_,by omega⟩,fun x hx _=>?_,fun x hx=>?_,fun x hx=>?_⟩;·
  have e:Un [⟨1,k,0,0⟩] 1 0=some (0,1):=by have e0:([⟨1,k,0,0⟩]:List XNode).getD (0:Int).toNat default=⟨1,k,0,0⟩:=rfl;rw [Un,if_neg zc,e0,if_pos (show (⟨1,k,0,0⟩:XNode).kind=1 from rfl),if_pos (show (⟨1,k,0,0⟩:XNode).left=0∧(⟨1,k,0,0⟩:XNode).right=0∧0≤(⟨1,k,0,0⟩:XNode).cond∧(⟨1,k,0,0⟩:XNode).cond < 64 from ⟨rfl,rfl,hk.1,(by show k < 64;omega)⟩)]
  exact e
 ·rw [List.mem_singleton.1 hx];exact hk.2
 ·rw [List.mem_singleton.1 hx];dsimp only;omega
 ·rw [List.mem_singleton.1 hx];dsimp only;simp
def RuleD.neg {conds dp:Nat} {a:List XNode} (ha:RuleD conds dp a):RuleD conds (dp + 1) (a ++ [⟨2,0,(a.length:Int) - 1,0⟩]):=by
 have hl:=ha.len;obtain ⟨d,hp,hd⟩:=ha.part;refine ⟨by rw [yj,Unf];simp;omega,⟨d + 1,?_,by omega⟩,fun x hx hk=>?_,fun x hx=>?_,fun x hx=>?_⟩;·
  rw [yj, ym, Un];rw [if_neg zc];have e:(a ++ [(⟨2,0,(a.length:Int) - 1,0⟩:XNode)]).getD (((a.length + 1:Nat):Int) - 1).toNat default=⟨2,0,(a.length:Int) - 1,0⟩:=by rw [show (((a.length + 1:Nat):Int) - 1).toNat=a.length by omega,yh,yF zc,yxb];rfl
  rw [e,if_neg (show ¬ (2:Int)=1 by decide),if_pos (show (2:Int)=2 from rfl),show ((a.length + 1:Nat):Int) - 1 - 1=(a.length:Int) - 1 by omega,Yaa _ _ _ _ zc hp];dsimp only;rw [if_pos ⟨rfl,rfl,by omega⟩]
 ·
  rcases List.mem_append.1 hx with h | h;·exact ha.conds x h hk
  ·rw [List.mem_singleton.1 h] at hk;cases hk
 ·
  rcases List.mem_append.1 hx with h | h;·exact ha.kind x h
  ·exact ubl
 ·
  rw [yj, ym];rcases List.mem_append.1 hx with h | h;·have:=ha.small x h;omega
  ·exact ubl
def RuleD.two {conds dp:Nat} {a b:List XNode} {k:Int} (ha:RuleD conds dp a) (hb:RuleD conds dp b) (hk:k=3∨k=4):
 RuleD conds (dp + 1) (a ++ b.map (shN a.length) ++ [⟨k,0,(a.length:Int) - 1,((a.length + b.length:Nat):Int) - 1⟩]):=by
 have hl:=ha.len;have hl2:=hb.len;obtain ⟨d,hp,hd⟩:=ha.part;obtain ⟨d2,hp2,hd2⟩:=hb.part;have hlen:(a ++ b.map (shN a.length) ++ [(⟨k,0,(a.length:Int) - 1,((a.length + b.length:Nat):Int) - 1⟩:XNode)]).length=a.length + b.length + 1:=by simp;omega
 refine ⟨by rw [hlen,Unf];omega,⟨max d d2 + 1,?_,by omega⟩,fun x hx hk1=>?_,fun x hx=>?_,fun x hx=>?_⟩;·
  rw [hlen, Un, if_neg zc];have e:(a ++ b.map (shN a.length) ++ [(⟨k,0,(a.length:Int) - 1,((a.length + b.length:Nat):Int) - 1⟩:XNode)]).getD (((a.length + b.length + 1:Nat):Int) - 1).toNat default=⟨k,0,(a.length:Int) - 1,((a.length + b.length:Nat):Int) - 1⟩:=by rw [show (((a.length + b.length + 1:Nat):Int) - 1).toNat=a.length + b.length by omega,yh,yF zq,show a.length + b.length - (a ++ b.map (shN a.length)).length=0 by simp];rfl
  rw [e,if_neg zt,if_neg zt,if_pos hk];have p1:=Vpb (a:=a) (c:=[(⟨k,0,(a.length:Int) - 1,((a.length + b.length:Nat):Int) - 1⟩:XNode)]) _ _ _ _ zc hp2;have p2:=Yaa (c:=b.map (shN a.length) ++ [(⟨k,0,(a.length:Int) - 1,((a.length + b.length:Nat):Int) - 1⟩:XNode)]) _ _ _ _ zc hp;rw [← yp] at p2;rw [show ((a.length + b.length + 1:Nat):Int) - 1 - 1=(a.length:Int) + ((b.length:Int) - 1) by omega,Uqa _ (a.length + b.length) _ _ zc p1];dsimp only;rw [if_pos ⟨rfl,by omega,by omega⟩,show (a.length:Int) + 0 - 1=(a.length:Int) - 1 by omega,Uqa _ (a.length + b.length) _ _ zc p2]
 ·
  rcases List.mem_append.1 hx with h | h;·
   rcases List.mem_append.1 h with h | h;·exact ha.conds x h hk1
   ·obtain ⟨y, hy, rfl⟩ := List.mem_map.1 h;exact hb.conds y hy hk1
  ·rw [List.mem_singleton.1 h] at hk1;dsimp only at hk1;omega
 ·
  rcases List.mem_append.1 hx with h | h;·
   rcases List.mem_append.1 h with h | h;·exact ha.kind x h
   ·obtain ⟨y, hy, rfl⟩ := List.mem_map.1 h;exact hb.kind y hy
  ·exact ubl
 ·
  rw [hlen];rcases List.mem_append.1 hx with h | h;·
   rcases List.mem_append.1 h with h | h;·have:=ha.small x h;omega
   ·obtain ⟨y, hy, rfl⟩ := List.mem_map.1 h;have:=hb.small y hy;rw [shN];dsimp only;constructor <;> split <;> omega
  ·exact ubl
end
section
section
variable {P:Program} {ρ:Operand→Value} {L:LB} {R:LS} {dst:Option Tmp} {ty:TypeId} {pos:String} {after:Array Edge} {guard:Option (Nat×Bool)} (tb:Tabs P) {T:TypeId} {x y:Operand}
end
def Vyd {α : Type} {f : α → List Value} (h1 : ∀ x, (f x).all (·.oneCell') = true) : ∀ l : List α, (l.flatMap f).all (·.oneCell') = true
 | []=>rfl
 | x :: l=>by rw [yQ,List.all_append,h1 x,Vyd h1 l];rfl
def Vde {α:Type} {f:α→List Value} {wd:Nat} {T':TypeId} {q:OwL α} {L:LB} {R:LS} (hf:∀x,(f x).length=wd) (hok:q.ok wd f) (hin:InB (q.L T' f) L) (hm:0 < q.l.length):Jmd L R q.val q.l.length wd (q.l.flatMap f):=by obtain ⟨g,cap,spare,ho⟩:=OwL.own_of hok hm;refine ⟨⟨g,0,none⟩,cap,by rw [OwL.val,ho];rfl,Uu hf q.l,fun c w hst j u hj=>?_⟩;have hmem:(⟨g,q.l.flatMap f ++ spare,T'⟩:Blk)∈L:=hin _ (by rw [OwL.L,ho];simp [Ow.L]);exact ubR
section
variable {P:Program} {ρ:Operand→Value} {L:LB} {R:LS} {dst:Option Tmp} {ty:TypeId} {pos:String} {after:Array Edge} {guard:Option (Nat×Bool)} (tb:Tabs P) {T:TypeId} {x y:Operand}
def Vqc {α : Type} {e n fl bt z k2 n2 fl2 bt2 z2} {f : α → List Value} (p q : OwL α) {T' : TypeId} {F : OwL α → LB} (hT : Zd tb.tab T = some ⟨.slice e, n, fl, bt, z⟩) (hE : Zd tb.tab e = some ⟨k2, n2, fl2, bt2, z2⟩) (hn2 : z2.length = n2)
 (hx:ρ x=p.val) (hy:ρ y=q.val) (hok:p.ok n2 f) (hokq:q.ok n2 f) (hf:∀x,(f x).length=n2) (hseg:OSeg e f p L F) (hB:InB (q.L T' f) L) (hm:0 < q.l.length) (h1:∀x,(f x).all (·.oneCell')=true) (hby:(p.l.length + q.l.length) * (bt2 + 1)≤140737488355328):
 Gives P ⟨dst,.call ⟨.builtin .append,#[x,y],#[T,T]⟩,ty,pos,after,guard⟩ ρ L R (fun v M U=>∃o:Ow,v=(⟨o,p.l ++ q.l⟩:OwL α).val∧(⟨o,p.l ++ q.l⟩:OwL α).ok n2 f∧F ⟨o,p.l ++ q.l⟩=M∧R=U):=by
 have hsh:Jmd L R q.val q.l.length n2 (q.l.flatMap f):=Vde hf hokq hB hm;rw [← hy] at hsh;obtain ⟨A,B,hL,hF⟩:=hseg.split;subst hL;have hb1:(p.l.length + q.l.length) * bt2≤140737488355328:=yva (yJb _ (Nat.le_succ _)) hby;have hb2:p.l.length + q.l.length≤140737488355328:=yva (yqb _ (Nat.succ_pos _)) hby;have hx':ρ x=p.o.val p.l.length:=by rw [hx,Ow.val_of_ok hok];rfl
 have:=Ypa (dst:=dst) (ty:=ty) (pos:=pos) (after:=after) (guard:=guard) tb hT hE hn2 hx' hok (Z6d A _ B) hsh hm (Vyd h1 _) zc hb1;intro c w hst ac next Q kk
 refine this c w hst ac next Q ?_
 rintro v M U w' ⟨g,cap,spare,rfl,hok',rfl,rfl⟩ hst';have e:p.l.flatMap f ++ q.l.flatMap f=(p.l ++ q.l).flatMap f:=by simp
 rw [e] at hok';have hl:(p.l ++ q.l).length=p.l.length + q.l.length:=by simp
 exact uaW
end
def Z6e {γ : Type} (ws : List Nat) (t0 : Nat → Value) (hd : Head γ) (Q : K2) : K2
 | .normal,t,L,R=>∃g,Off ws t0 t∧V4a t (hd.slots g)∧(∃L1,L.Perm L1∧(hd.L g).Sublist L1)∧∀r∈hd.R g,InR r R
 | e,t,L,R=>Q e t L R
def J5 {γ:Type} {ws:List Nat} {t0 t:Nat→Value} {L L1:LB} {R:LS} {hd:Head γ} {Q:K2} (g:γ) (ho:Off ws t0 t) (hs:V4a t (hd.slots g)) (hp:L.Perm L1) (hL:(hd.L g).Sublist L1) (hR:∀r∈hd.R g,InR r R):Z6e ws t0 hd Q .normal t L R:=⟨g,ho,hs,⟨L1,hp,hL⟩,hR⟩
def V5d {P n code t L M R} {Q:K2} (hp:L.Perm M) (h:CJ P n code t M R Q):CJ P n code t L R Q:=Uca fun _ _ hst=>⟨_,_,hst.perm hp,h⟩
def U3c {γ:Type} {P n x y t L R} {Q:K2} (ws:List Nat) (hd:Head γ) (h:CJ P n x t L R (Z6e ws t hd Q)) (k:∀g junk,CJ P n y (updL (havoc ws t junk) (hd.slots g)) (hd.L g) (hd.R g) Q):CJ P n x t L R (U7 P n y Q):=by
 intro c a w hf hs;refine wp_mono (h c a w hf hs) ?_;rintro e a w ⟨hnp,t',M,U,hq,hf',hs'⟩;cases e with
 | normal=>
  obtain ⟨g,ho,hsh,⟨L1,hp,hL⟩,hR⟩:=hq;have e:updL (havoc ws t t') (hd.slots g)=t':=by rw [Jha ho,Zw hsh]
  refine ⟨trivial,t',M,U,?_,hf',hs'⟩;have:=k g t';rw [e] at this;exact V5d hp (Kpa hL hR this)
 | _=>exact ⟨hnp,t',M,U,hq,hf',hs'⟩
def Kcd {P : Program} {dst : Option Tmp} {f : FuncId} {xs : List Operand} {ts : Array TypeId} {pos : String} {after : Array Edge} {guard : Option (Nat × Bool)} {ty : TypeId} {t : Nat → Value} {L : LB} {R : LS} {args : List Value} {Post : Zc} (ha : xs.map (ev t) = args)
 (h:Tri P f args.toArray L R Post):Gives P ⟨dst,.call ⟨.value (.func f),xs.toArray,ts⟩,ty,pos,after,guard⟩ (ev t) L R Post:=
 Uja (by rw [← ha];simp) rfl h
def Kt {α : Type} {P n code t L R} {Q : K2} {T : TypeId} {f : α → List Value} {wd : Nat} (p : OwL α) (subs : LS) {F : OwL α → LB} (hseg : OSeg T f p L F) (hf : ∀ x, (f x).length = wd) (hwd : 0 < wd) (hok : p.ok wd f) (hs : ∀ s ∈ subs, InR s R)
 (h:CJ P n code t (F OwL.nil) (p.arr.sl wd f subs :: R) Q):CJ P n code t L R Q:=by
 obtain ⟨A,B,hL,hF⟩:=hseg.split;rw [hF] at h;rw [hL,yp];refine Yq subs hf hwd hok hs ?_;have e:A ++ (OwL.nil:OwL α).L T f ++ B=A ++ B:=by rw [Kr,yla]
 rw [← e];exact h
end
section
attribute [local irreducible] CJ LJ DJ Tri YV Gives U7 Kb Kp U8 RV Ke OwL.L
section
variable {A B:Prop}
def Yme(h:A→B:=by exact Y6 zDb rfl):=h
def Vpe(h:A→B:=by exact J0 (Jo tb ((⟨b.o,bs1⟩:OwL XNode)) _ rfl rfl ((show _=Value.slice _ _ _ from rfl).trans (by simp only [OwL.val,hb1l])) rfl zi (i:=i) zo zw) rfl):=h
def Kif(h:A→B:=by exact J0 (Jo tb ((⟨b.o,bs⟩:OwL XNode)) _ rfl rfl ((show _=Value.slice _ _ _ from rfl).trans (by simp only [OwL.val,hbl])) rfl zi (i:=i) zo zw) rfl):=h
def J0f(h:A→B:=by exact J0 (Kc tb ((⟨b.o,bs1⟩:OwL XNode)) rfl rfl rfl zm zi yf zi ze) rfl):=h
def Zwf(h:A→B:=by exact J0 (Kf (qs:=[(0,(Value.int _ _).cells.toList),(1,(Value.int _ _).cells.toList)]) (out:=[_,_,_,_]) tb rfl rfl rfl rfl) rfl):=h
def U6f(h:A→B:=by exact J0 (Kc tb ((⟨b.o,bs⟩:OwL XNode)) rfl rfl rfl zm zi yf zi ze) rfl):=h
end
def Vqe (c : Nat) (x : Arr Int) (R : LS) (conds n : Nat) : Prop := ∀ k, k ≤ x.l.length → Tri Tryz.prog 93 [.pointer (some ⟨c, 0, none⟩), .int .i64 (conds : Int), .int .i64 (n : Int)].toArray [cblk c x k] R
 (fun v M U=>∃(p:OwL XNode) (k':Nat),v=p.val∧p.ok 4 XNode.cells∧RuleD conds n p.l∧k'≤x.l.length∧p.L 172 XNode.cells ++ (cblk c x k' :: [])=M∧R=U)
def Y9d (c:Nat) (x:Arr Int) (R:LS) (conds:Nat) (hx:CodesR x R) (hc:1≤conds∧conds≤64):Vqe c x R conds 0:=by
 intro k hk;refine Jd 106 Tryz.call93 Tryz.func93 rfl rfl rfl ?_;apply qae∘Xbz∘Xcf;refine Zi (k:=13) ztb (fun hg3=>?_) (fun hg3=>?_);·
  replace hg3:=qb hg3;iterate 3 refine V8a rfl rfl ?_
  refine J0 zQ rfl ?_;apply (qaf);refine K0 rfl ?_;apply qae∘Xc2;refine Ju rfl (Zx zx hx hk zc) rfl ?_;rintro v M U ⟨r1,k1,rfl,g1,g1',g1'',hk1,rfl,rfl⟩;have g1q:=g1' zc;apply Zwf∘Yme;rintro v M U ⟨b22,rfl,rfl,hR22⟩;replace hR22:=hR22.symm;subst hR22;apply qc4∘qbh;refine Ku (M:=(⟨.own b22 1 [],[⟨1,r1,0,0⟩]⟩:OwL XNode).L 172 XNode.cells ++ (cblk c x k1 :: [])) (U:=R) zzd ?hp ?hL ?hR;case hp=>exact ⟨⟨.own b22 1 [],[⟨1,r1,0,0⟩]⟩,k1,rfl,Kga yf rfl zj,RuleD.leaf zc hc.2,hk1,rfl,rfl⟩
  case hL=>rw [← U3a (f:=XNode.cells) [⟨1,r1,0,0⟩] rfl];exact yu _
  case hR=>exact Jc _
 replace hg3:=qb hg3;(exfalso;omega)
def Jhc {α β:Type} [Inhabited α] {l:List α} {f:α→β}:(List.range l.length).map (fun j=>f (l.getD j default))=l.map f:=by
 refine yfa fun j=>?_;rcases yk j l.length with hj | hj;·rw [yt,yZ hj,yt,Js (l:=l) (k:=j) default hj];rfl
 ·rw [yq zH,yq zH]
def Yge {α:Type} {l:List α} {i:Nat} {x:α} (h:l[i]?=some x):l.set i x=l:=by
 refine yfa fun j=>?_;rw [yE];split;·
  rename_i e;subst e;rw [h];split;·rfl
  ·rename_i hn;rw [yq zc] at h;cases h
 ·rfl
def Kcb (c:Nat) (x:Arr Int) (R:LS) (conds n:Nat) (hx:CodesR x R) (hc:1≤conds∧conds≤64) (hn:Unf n≤100) (hn2:n≤100) (ih:Vqe c x R conds n):Vqe c x R conds (n + 1):=by
 intro k hk;have call : ∀ k, k ≤ x.l.length → Tri Tryz.prog 93 [.pointer (some ⟨c, 0, none⟩), .int .i64 (conds : Int), .int .i64 (((n + 1 : Nat) : Int) - 1)].toArray [cblk c x k] R
  (fun v M U=>∃(p:OwL XNode) (k':Nat),v=p.val∧p.ok 4 XNode.cells∧RuleD conds n p.l∧k'≤x.l.length∧p.L 172 XNode.cells ++ (cblk c x k' :: [])=M∧R=U):=fun k hk=>by
  rw [show ((n + 1:Nat):Int) - 1=(n:Int) by omega];exact ih k hk
 refine Jd 106 Tryz.call93 Tryz.func93 rfl rfl rfl ?_;apply qae∘Xbz∘Xcf;refine Zi (k:=13) ztb (fun hg3=>?_) (fun hg3=>?_);·replace hg3:=qb hg3;(exfalso;omega)
 replace hg3:=qb hg3;refine U6 (J2 zSb) rfl rfl ?_;refine Vha rfl (Zx zx hx hk zc) rfl rfl ?_;rintro v M U ⟨r0,k0,rfl,g0,g0',g0'',hk0,rfl,rfl⟩;refine U6 zvc rfl rfl ?_;refine J0 zQ rfl ?_;apply (qaf);refine q_c ?_ ?_<;>intro hc0;·
  apply qae∘Xc2;refine Ju rfl (Zx zx hx hk0 zc) rfl ?_;rintro v M U ⟨r1,k1,rfl,g1,g1',g1'',hk1,rfl,rfl⟩;have g1q:=g1' zc;apply Zwf∘Yme;rintro v M U ⟨b22,rfl,rfl,hR22⟩;replace hR22:=hR22.symm;subst hR22;apply qc4∘qbh;refine Ku (M:=(⟨.own b22 1 [],[⟨1,r1,0,0⟩]⟩:OwL XNode).L 172 XNode.cells ++ (cblk c x k1 :: [])) (U:=R) zzd ?hp ?hL ?hR;case hp=>exact ⟨⟨.own b22 1 [],[⟨1,r1,0,0⟩]⟩,k1,rfl,Kga yf rfl zj,RuleD.leaf zc hc.2,hk1,rfl,rfl⟩
  case hL=>rw [← U3a (f:=XNode.cells) [⟨1,r1,0,0⟩] rfl];exact yu _
  case hR=>exact Jc _
 apply qbv∘qa6∘Xbu∘qa9;refine Ju rfl (call _ hk0) rfl ?_;rintro v M U ⟨a,k2,rfl,hak,haD,hk2,rfl,rfl⟩;have hal:=haD.len;apply Xbz∘qa6;refine Ju rfl (Kte zx hx hk2 zc) rfl ?_;rintro v M U ⟨bb,k3,rfl,hk3,rfl,rfl⟩;apply (qaf);refine q_c ?_ ?_<;>intro hc1;·apply qae∘qbm∘Xaq∘qa9;refine J0 (Kf (qs:=[(0,(Value.int _ _).cells.toList),(2,(Value.int _ _).cells.toList)]) (out:=[_,_,_,_]) tb rfl rfl rfl rfl) rfl ?_;apply (Yme);rintro v M U ⟨b35,rfl,rfl,hR35⟩;replace hR35:=hR35.symm;subst hR35;refine Y6 (Jq (f:=XNode.cells) (p:=a) (a:=⟨2,0,(a.l.length:Int) - 1,0⟩) tb rfl rfl rfl rfl (hak) zm zCb rfl zz) rfl ?_;rintro v M U ⟨o36,rfl,hok36,rfl,rfl⟩;apply qc4∘qbh;refine q_r ((⟨o36,a.l ++ [⟨2,0,(a.l.length:Int) - 1,0⟩]⟩:OwL XNode).L 172 XNode.cells ++ (cblk c x k3 :: [])) R zzd ?_;exact ⟨(⟨o36,_⟩:OwL XNode),k3,rfl,hok36,haD.neg,hk3,rfl,rfl⟩
 apply qbv∘qa6∘Xbu∘qa9;refine Ju rfl (Tri.spl (.appB (.consL .nil)) (call _ hk3)) rfl ?_;rintro v M U ⟨_,rfl,b,k4,rfl,hbk,hbD,hk4,rfl,rfl⟩;simp only [yp,yA,yv];have hbn:=hbD.len;apply Xbz∘Xat;refine Jh [(0,.pointer _),(7,.slice _ _ _),(8,.slice _ _ _),(9,.int _ _)] zg fun tq0=>?_;refine q_p ([9]++rg 42 46) ((⟨fun g=>[(9,.int .i64 ((g.1.1:Nat):Int))],fun g=>a.L 172 XNode.cells ++ ((⟨b.o,g.1.2⟩:OwL XNode).L 172 XNode.cells ++ (cblk c x k4 :: [])),fun _=>R,fun g=>b.l.length - g.1.1⟩:Head {g:Nat×List XNode // g.1≤b.l.length∧WrO b.l (fun j=>shN a.l.length (b.l.getD j default)) g.1 g.2})) (⟨(0,b.l),by dsimp only;omega,.zero⟩) ?_;rintro ⟨⟨i,bs⟩,hi,hW⟩ junk;try dsimp only
 dsimp only at hi hW;have hbl:=hW.len;have hbk1:(⟨b.o,bs⟩:OwL XNode).ok 4 XNode.cells:=OwL.len_ok yf hbk hbl;apply (Xcr);refine q_c ?_ ?_<;>intro hc2;·
  have hbg0:=Js (l:=b.l) (k:=i) default zc;have hbg:=hW.old i (yn _);rw [hbg0] at hbg;have hWn:=fun (z:XNode)=>hW.next (x:=z) zc;obtain ⟨y,hy⟩:∃y,y=b.l.getD i default:=⟨_,rfl⟩;have hsm:=hbD.small _ (yi hbg0);rw [← hy] at hbg hWn hsm;refine Jt (Ja (Ji (Jy (Ji (Ji (Je ?_))))));apply Xaj∘Kif∘qb0∘U6f∘Xaw;refine Vu (rg 54 10) ((⟨fun _=>[],fun g=>a.L 172 XNode.cells ++ ((⟨b.o,g.1⟩:OwL XNode).L 172 XNode.cells ++ (cblk c x k4 :: [])),fun _=>R,fun _=>0⟩:Head {g:List XNode // g=bs.set i ⟨y.kind,y.cond,if y.kind=1 then y.left else y.left + a.l.length,y.right⟩})) ?_ ?_;·
   skip
   refine q_c ?_ ?_<;>intro hc3;·apply Xcl∘Kif∘qb0∘U6f∘Xaq∘qar∘Kif∘qb0;refine V5 (Jp tb ((⟨b.o,bs⟩:OwL XNode)) (⟨y.kind,y.cond,y.left + a.l.length,y.right⟩) rfl rfl rfl rfl zm zi yf zi zj ze ze) ?_;rintro v M U ⟨rfl,rfl⟩;apply (qav);exact q_j ⟨bs.set i ⟨y.kind,y.cond,y.left + a.l.length,y.right⟩,by rw [if_neg hc3]⟩
   refine Jt ?_;exact q_j ⟨bs,by rw [if_pos zc];exact (Yge hbg).symm⟩
  rintro ⟨bs1,hb1⟩ junk;try dsimp only
  have hb1l:bs1.length=b.l.length:=by rw [hb1,yN];exact hbl
  have hbk2:(⟨b.o,bs1⟩:OwL XNode).ok 4 XNode.cells:=OwL.len_ok yf hbk hb1l;have hbg1:bs1[i]?=some ⟨y.kind,y.cond,if y.kind=1 then y.left else y.left + a.l.length,y.right⟩:=by rw [hb1];exact yB zc
  apply Xee∘Vpe∘qb0∘J0f∘Xcn;apply J3 (G:=[_,_,_,_,_,_]) (j:=6) (cj:=70) rfl rfl ze rfl ztb rfl;·intro hg7;replace hg7:=qb hg7;exact (Xaj∘Vpe∘qb0∘J0f) zme
  intro junk7;apply (qaf);refine q_c ?_ ?_<;>intro hc4;·apply Xcl∘Vpe∘qb0∘J0f∘Xaq;refine J0 (Y3a rfl rfl zt zt) rfl ?_;apply Vpe∘qb0;refine V5 (Jp tb ((⟨b.o,bs1⟩:OwL XNode)) (⟨y.kind,y.cond,if y.kind=1 then y.left else y.left + a.l.length,y.right + a.l.length⟩) rfl rfl rfl rfl zm zi yf zi zj ze ze) ?_;rintro v M U ⟨rfl,rfl⟩;apply (Xb6);exact q_k ⟨(i + 1,bs1.set i ⟨y.kind,y.cond,if y.kind=1 then y.left else y.left + a.l.length,y.right + a.l.length⟩),by dsimp only;omega,by dsimp only;rw [hb1,yra];exact hWn _ (by rw [shN,if_pos hc4])⟩
  apply (Xa4);exact q_k ⟨(i + 1,bs1),by dsimp only;omega,by dsimp only;rw [hb1];exact hWn _ (by rw [shN,if_neg (show ¬ (y.kind=3∨y.kind=4) by omega)])⟩
 obtain rfl:i=b.l.length:=by omega
 have hdn:=hW.done;rw [Jhc] at hdn;apply qbk∘Xaq∘Xaq∘Xad∘Xd0∘qbm;refine Y6 (Vqc tb a (⟨b.o,bs⟩:OwL XNode) rfl rfl rfl rfl ((show _=Value.slice _ _ _ from rfl).trans (by simp only [OwL.val,hbl])) hak hbk1 yf zm zE zt yf zt) rfl ?_;rintro v M U ⟨o95,rfl,hok95,rfl,rfl⟩;apply (qa6);refine Ju rfl (Jra zx hx hk4 zc) rfl ?_;rintro v M U ⟨r3,k5,rfl,g3,g3',hk5,rfl,rfl⟩;apply Xaq∘qa9∘Xck;refine J0 (Kf (qs:=[(0,(Value.int _ _).cells.toList),(2,(Value.int _ _).cells.toList),(3,(Value.int _ _).cells.toList)]) (out:=[_,_,_,_]) tb rfl rfl rfl rfl) rfl ?_;apply (Yme);rintro v M U ⟨b104,rfl,rfl,hR104⟩;replace hR104:=hR104.symm;subst hR104;refine Y6 (Jq (f:=XNode.cells) (p:=(⟨o95,a.l ++ bs⟩:OwL XNode)) (a:=⟨r3,0,(a.l.length:Int) - 1,(a.l.length:Int) + b.l.length - 1⟩) tb rfl rfl rfl rfl (hok95) zm zCb rfl zz) rfl ?_;rintro v M U ⟨o105,rfl,hok105,rfl,rfl⟩;apply qc4∘qa0;refine q_r ((⟨o105,a.l ++ bs ++ [⟨r3,0,(a.l.length:Int) - 1,(a.l.length:Int) + b.l.length - 1⟩]⟩:OwL XNode).L 172 XNode.cells ++ (cblk c x k5 :: [])) R zzd ?_;refine ⟨(⟨o105,_⟩:OwL XNode),k5,rfl,hok105,?_,hk5,rfl,rfl⟩;have:=haD.two hbD (k:=r3) zc;rw [show ((a.l.length + b.l.length:Nat):Int)=(a.l.length:Int) + b.l.length by omega] at this;rw [hdn];exact this
def Yzd (c:Nat) (x:Arr Int) (R:LS) (conds:Nat) (hx:CodesR x R) (hc:1≤conds∧conds≤64):Vqe c x R conds 2:=
 Kcb c x R conds 1 hx hc zj zj (Kcb c x R conds 0 hx hc zj zj (Y9d c x R conds hx hc))
end
end Go.Proofs.YtchfclmokpbldaaGreat
