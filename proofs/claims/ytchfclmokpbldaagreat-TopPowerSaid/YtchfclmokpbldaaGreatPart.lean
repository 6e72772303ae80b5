/-
  Merged texts. By an AI agent.
-/
import Derived.Test.YtchfclmokpbldaaGreatFits
import Derived.Test.YtchfclmokpbldaaGreatDraws
import Derived.Test.YtchfclmokpbldaaGreatNets
set_option linter.all false
set_option maxHeartbeats 4000000
set_option maxRecDepth 20000
namespace Go.Proofs.YtchfclmokpbldaaGreat
open Go.Aw Go
section
def Zr (m : XMine) (v : Nat) : Nat → List Int
 | 0=>[]
 | k + 1 => if (m.roads.l.getD k default).closed = true then Zr m v k
  else if (m.roads.l.getD k default).fr=(v:Int) then Zr m v k ++ [(m.roads.l.getD k default).to]
  else if (m.roads.l.getD k default).to=(v:Int) then Zr m v k ++ [(m.roads.l.getD k default).fr] else Zr m v k
def Kpa (m : XMine) (v : Nat) : ∀ k, (Zr m v k).length ≤ k
 | 0=>by simp [Zr]
 | k + 1=>by
  have:=Kpa m v k
  rw [Zr]
  split
  ·omega
  ·split
   ·simp only [yo,yU];omega
   ·split
    ·simp only [yo,yU];omega
    ·omega
def Yvb {m : XMine} (hm : MineOk m) {v : Nat} : ∀ k, k ≤ m.roads.l.length → ∀ e ∈ Zr m v k, ∃ w : Nat, e = (w : Int) ∧ Step m v w
 | 0,_,e,h=>by cases h
 | k + 1,hk,e,h=>by
  have ih:=Yvb hm (v:=v) k za e
  have hg:=Jw (l:=m.roads.l) (k:=k) default za
  have hro:=hm.road k _ hg
  have h1:=hro.fr
  have h2:=hro.to
  have hmem:=yj hg
  rw [Zr] at h
  split at h
  ·exact ih h
  ·rename_i hc
   have hc:(m.roads.l.getD k default).closed=false:=by simpa using hc
   split at h
   ·rename_i hf
    rcases List.mem_append.1 h with h | h
    ·exact ih h
    ·rw [List.mem_singleton.1 h]
     exact ⟨(m.roads.l.getD k default).to.toNat,by omega,_,hmem,hc,.inl ⟨hf,by omega⟩⟩
   ·split at h
    ·rename_i hf ht
     rcases List.mem_append.1 h with h | h
     ·exact ih h
     ·rw [List.mem_singleton.1 h]
      exact ⟨(m.roads.l.getD k default).fr.toNat,by omega,_,hmem,hc,.inr ⟨by omega,ht⟩⟩
    ·exact ih h
def Zlb (m : XMine) (v : Nat) {k : Nat} : ∀ {n : Nat}, k ≤ n → ∀ e ∈ Zr m v k, e ∈ Zr m v n
 | 0,h,e,he=>by rw [show k=0 by omega] at he;exact he
 | n + 1,h,e,he=>by
  rcases yk n k with h' | h'
  ·rw [show k=n + 1 by omega] at he;exact he
  ·have := Zlb m v (n := n) h' e he
   rw [Zr]
   split
   ·exact this
   ·split
    ·exact ym _ this
    ·split
     ·exact ym _ this
     ·exact this
def Jud {m:XMine} (hm:MineOk m) {v w:Nat} (h:Step m v w):(w:Int)∈Zr m v m.roads.l.length:=by
 obtain ⟨r,hr,hc,h1⟩:=h;obtain ⟨i,hi⟩:=List.mem_iff_getElem?.1 hr;have hil:=(List.getElem?_eq_some_iff.1 hi).1;have hro:=hm.road i r hi;have hne:=hro.ne;have hgr:m.roads.l.getD i default=r:=getD_some hi;refine Zlb m v (k:=i + 1) hil _ ?_;rw [Zr,hgr,if_neg (by rw [hc];decide)];rcases h1 with h1 | h1;·rw [if_pos h1.1,h1.2];simp
 ·rw [if_neg za,if_pos h1.2,h1.1];simp
structure NB (m:XMine) (k:Nat) (G:List (OwL Int)):Prop where
 len:G.length=m.places.l.length
 ok:∀(v:Nat) (p:OwL Int),G[v]?=some p→p.ok 1 Jo∧p.l=Zr m v k
def NB.zero (m:XMine):NB m 0 (List.replicate m.places.l.length OwL.nil):=by exact uaz
def NB.stay {m:XMine} {k:Nat} {G:List (OwL Int)} (h:NB m k G) (hc:(m.roads.l.getD k default).closed=true):NB m (k + 1) G:=
 ⟨h.len,fun v p hp=>⟨(h.ok v p hp).1,by rw [Zr,if_pos hc];exact (h.ok v p hp).2⟩⟩
def NB.next {m : XMine} {k : Nat} {G : List (OwL Int)} (h : NB m k G) (hc : ¬ (m.roads.l.getD k default).closed = true) {i j : Nat} (hi : (i : Int) = (m.roads.l.getD k default).fr) (hj : (j : Int) = (m.roads.l.getD k default).to) (hne : i ≠ j)
 {p q:OwL Int} (hp:G[i]?=some p) (hq:G[j]?=some q) {o o':Ow} (hok:(⟨o,p.l ++ [(m.roads.l.getD k default).to]⟩:OwL Int).ok 1 Jo) (hok':(⟨o',q.l ++ [(m.roads.l.getD k default).fr]⟩:OwL Int).ok 1 Jo):
 NB m (k + 1) ((G.set i ⟨o,p.l ++ [(m.roads.l.getD k default).to]⟩).set j ⟨o',q.l ++ [(m.roads.l.getD k default).fr]⟩):=by
 refine ⟨by simp [h.len],fun v x hx=>?_⟩;rw [yK] at hx;split at hx;·
  rename_i e;subst e;split at hx;·cases hx;refine ⟨hok',?_⟩;rw [Zr,if_neg hc,if_neg za,if_pos za,(h.ok _ q hq).2]
  ·cases hx
 ·
  rename_i e;rw [yK] at hx;split at hx;·
   rename_i e2;subst e2;split at hx;·cases hx;refine ⟨hok,?_⟩;rw [Zr,if_neg hc,if_pos za,(h.ok _ p hp).2]
   ·cases hx
  ·rename_i e2;refine ⟨(h.ok v x hx).1,?_⟩;rw [Zr,if_neg hc,if_neg za,if_neg za];exact (h.ok v x hx).2
abbrev lb (f:List Int) (v:Nat):Int:=f.getD v (-1)
def Uia {f:List Int} {k i:Nat} {x:Int} (hk:k < f.length):lb (f.set k x) i=if i=k then x else lb f i:=by unfold lb;exact uaE
def Klg {f:List Int} {v:Nat} (h:0≤lb f v):v < f.length:=by
 rcases yk v f.length with h' | h';·exact h'
 ·unfold lb at h;rw [yh,yr h'] at h;simp at h
structure Lab (m:XMine) (f:List Int) (n:Int):Prop where
 len:f.length=m.places.l.length
 rng:∀v,-1≤lb f v∧lb f v < n
 n0:0≤n
 clo:∀u v,0≤lb f u→Step m u v→lb f v=lb f u
 con:∀u v,0≤lb f u→lb f u=lb f v→Conn m u v
structure Dfs (m:XMine) (f0 f:List Int) (n:Int) (i:Nat) (todo:List Int) (ex:Nat→Prop):Prop where
 len:f.length=m.places.l.length
 old:∀v,0≤lb f0 v→lb f v=lb f0 v
 new:∀v,lb f0 v < 0→lb f v= -1∨(lb f v=n∧Conn m i v)
 start:lb f i=n∧lb f0 i < 0
 tds:∀e∈todo,∃v:Nat,e=(v:Int)∧lb f0 v < 0∧lb f v=n
 clo:∀u,lb f0 u < 0→lb f u=n→(u:Int)∈todo∨ex u∨∀v,Step m u v→lb f v=n
def Lab.start {m:XMine} {f:List Int} {n:Int} (h:Lab m f n) {i:Nat} (hi:i < m.places.l.length) (hn:lb f i < 0):Dfs m f (f.set i n) n i [(i:Int)] (fun _=>False):=by
 have hl:=h.len;refine ⟨by simp [hl],fun v hv=>?_,fun v hv=>?_,⟨by rw [Uia za,if_pos rfl],hn⟩,fun e he=>?_,fun u hu hu2=>?_⟩;·rw [Uia za,if_neg (fun e=>by rw [e] at hv;omega)]
 ·
  rw [Uia za];split;·rename_i e;rw [e];exact .inr ⟨rfl,.refl⟩
  ·left;have:=h.rng v;omega
 ·rw [List.mem_singleton.1 he];exact ⟨i,rfl,hn,by rw [Uia za,if_pos rfl]⟩
 ·
  rw [Uia za] at hu2;split at hu2;·rename_i e;rw [e];exact .inl zo
  ·have:=h.rng u;omega
def Dfs.next_lb {m:XMine} {f0 f:List Int} {n:Int} {i:Nat} {todo:List Int} {ex:Nat→Prop} (h:Dfs m f0 f n i todo ex) (hl:Lab m f0 n) {p q:Nat} (hp:lb f0 p < 0) (hs:Step m p q):lb f0 q < 0:=by
 rcases yua (lb f0 q) 0 with h' | h';·exact h'
 ·have := hl.clo q p h' hs.symm;omega
def Dfs.push {m:XMine} {f0 f:List Int} {n:Int} {i:Nat} {todo:List Int} {ex:Nat→Prop} (h:Dfs m f0 f n i todo ex) (hl:Lab m f0 n) {p q:Nat} (hp:lb f0 p < 0∧lb f p=n) (hs:Step m p q) (hq:q < m.places.l.length) (hf:lb f q < 0):Dfs m f0 (f.set q n) n i (todo ++ [(q:Int)]) ex:=by
 have hln:=h.len;have hq0:=h.next_lb hl hp.1 hs;have hci:Conn m i p:=by
  rcases h.new p hp.1 with h1 | h1;·have:=hl.n0;omega
  ·exact h1.2
 have hn0:=hl.n0;refine ⟨by simp [hln],fun v hv=>?_,fun v hv=>?_,⟨?_,h.start.2⟩,fun e he=>?_,fun u hu hu2=>?_⟩;·rw [Uia za,if_neg (fun e=>by rw [e] at hv;omega)];exact h.old v hv
 ·
  rw [Uia za];split;·rename_i e;rw [e];exact .inr ⟨rfl,hci.tail hs⟩
  ·exact h.new v hv
 ·
  rw [Uia za];split;·rfl
  ·exact h.start.1
 ·
  rcases List.mem_append.1 he with h1 | h1;·
   obtain ⟨v, a1, a2, a3⟩ := h.tds e h1;refine ⟨v,a1,a2,?_⟩;rw [Uia za];split;·rfl
   ·exact a3
  ·rw [List.mem_singleton.1 h1];exact ⟨q,rfl,hq0,by rw [Uia za,if_pos rfl]⟩
 ·
  rw [Uia za] at hu2;split at hu2;·rename_i e;rw [e];exact .inl zo
  ·
   rcases h.clo u hu hu2 with h1 | h1 | h1;·exact .inl (ym _ h1)
   ·exact .inr (.inl h1)
   ·
    refine .inr (.inr fun v hv => ?_);rw [Uia za];split;·rfl
    ·exact h1 v hv
def Dfs.pop {m:XMine} {f0 f:List Int} {n:Int} {i:Nat} {todo:List Int} {p:Nat} (h:Dfs m f0 f n i (todo ++ [(p:Int)]) (fun _=>False)):Dfs m f0 f n i todo (fun u=>u=p):=by
 refine ⟨h.len,h.old,h.new,h.start,fun e he=>h.tds e (ym _ he),fun u hu hu2=>?_⟩;rcases h.clo u hu hu2 with h1 | h1 | h1;·
  rcases List.mem_append.1 h1 with h2 | h2;·exact .inl h2
  ·have := List.mem_singleton.1 h2;exact .inr (.inl za)
 ·exact absurd h1 id
 ·exact .inr (.inr h1)
def Dfs.through {m:XMine} {f0 f:List Int} {n:Int} {i:Nat} {todo:List Int} {p:Nat} (h:Dfs m f0 f n i todo (fun u=>u=p)) (hp:∀v,Step m p v→lb f v=n):Dfs m f0 f n i todo (fun _=>False):=by
 refine ⟨h.len,h.old,h.new,h.start,h.tds,fun u hu hu2=>?_⟩;rcases h.clo u hu hu2 with h1 | h1 | h1;·exact .inl h1
 ·rw [h1];exact .inr (.inr hp)
 ·exact .inr (.inr h1)
def Dfs.done {m:XMine} {f0 f:List Int} {n:Int} {i:Nat} (h:Dfs m f0 f n i [] (fun _=>False)) (hl:Lab m f0 n):Lab m f (n + 1):=by
 have hn0:=hl.n0;have cases_:∀v,(0≤lb f0 v∧lb f v=lb f0 v)∨(lb f0 v < 0∧lb f v= -1)∨(lb f0 v < 0∧lb f v=n∧Conn m i v):=fun v=>by
  rcases yua (lb f0 v) 0 with h1 | h1;·
   rcases h.new v h1 with h2 | h2;·exact .inr (.inl ⟨h1,h2⟩)
   ·exact .inr (.inr ⟨h1,h2⟩)
  ·exact .inl ⟨h1,h.old v h1⟩
 refine ⟨h.len,fun v=>?_,by omega,fun u v hu hs=>?_,fun u v hu he=>?_⟩;·have := hl.rng v;rcases cases_ v with h1 | h1 | h1 <;> omega
 ·
  rcases cases_ u with h1 | h1 | h1;·have h2 := hl.clo u v h1.1 hs;rw [h.old v za,h1.2,h2]
  ·omega
  ·
   rcases h.clo u h1.1 h1.2.1 with h2 | h2 | h2;·cases h2
   ·exact absurd h2 id
   ·rw [h2 v hs,h1.2.1]
 ·
  have ru := hl.rng u;have rv:=hl.rng v;rcases cases_ u with h1 | h1 | h1;·
   rcases cases_ v with h2 | h2 | h2;·exact hl.con u v h1.1 za
   ·omega
   ·omega
  ·omega
  ·
   rcases cases_ v with h2 | h2 | h2;·omega
   ·omega
   ·exact h1.2.2.symm.trans h2.2.2
def Lab.init {m:XMine}:Lab m (List.replicate m.places.l.length (-1)) 0:=by
 have e:∀v,lb (List.replicate m.places.l.length (-1)) v= -1:=fun v=>by unfold lb;rw [yh,yB];split <;> rfl
 refine ⟨by simp,fun v=>by rw [e];omega,by omega,fun u v hu=>by rw [e] at hu;omega,fun u v hu=>by rw [e] at hu;omega⟩
structure PartIs (m:XMine) (f:List Int) (n:Int):Prop where
 len:f.length=m.places.l.length
 rng:∀v,v < m.places.l.length→0≤lb f v∧lb f v < n
 n:0≤n∧n≤m.places.l.length
 iff:∀u v,u < m.places.l.length→v < m.places.l.length→(lb f u=lb f v↔Conn m u v)
def Lab.part {m:XMine} {f:List Int} {n:Int} (h:Lab m f n) (ha:∀v,v < m.places.l.length→0≤lb f v) (hn:n≤m.places.l.length):PartIs m f n:=by refine ⟨h.len,fun v hv=>⟨ha v hv,(h.rng v).2⟩,⟨h.n0,hn⟩,fun u v hu hv=>⟨fun he=>h.con u v (ha u hu) he,fun hc=>?_⟩⟩;have:=Conn.closed (P:=fun x=>0≤lb f x∧lb f x=lb f u) (fun x y hx hs=>by have:=h.clo x y hx.1 hs;omega) hc ⟨ha u hu,rfl⟩;exact this.2.symm
def J0f (f:List Int):Nat:=f.countP (fun x=>decide (x < 0))
def Vdd {f:List Int} {q:Nat} {n:Int} (hq:q < f.length) (hf:lb f q < 0) (hn:0≤n):J0f (f.set q n) + 1=J0f f:=by
 unfold J0f;have hg:f[q] < 0:=by have:=Jw (l:=f) (k:=q) (-1) hq;rw [yC hq] at this;rw [yL this];exact hf
 rw [List.countP_set hq];have:0 < List.countP (fun x=>decide (x < 0)) f:=List.countP_pos_iff.2 ⟨f[q],List.getElem_mem hq,by simpa using hg⟩;rw [if_pos (by simpa using hg),if_neg (by simpa using hn)];omega
end
section
attribute [local irreducible] CJ LJ DJ Tri YV Gives U0 J3 Kj Uz RV J5 OwL.L
section
variable {A B:Prop}
def Vof(h:A→B:=by exact Jx (Jv tb ((⟨.own b59 m.places.l.length [],f⟩:OwL Int)) _ rfl rfl ((show _=Value.slice _ _ _ from rfl).trans (Uq hfl)) rfl zg (i:=i) zk zu) rfl):=h
def Jxg(h:A→B:=by exact Jx (Jv tb ((⟨.own b59 m.places.l.length [],f2⟩:OwL Int)) _ rfl rfl ((show _=Value.slice _ _ _ from rfl).trans (Uq hfl)) rfl zg (i:=u) zk zu) rfl):=h
end
def Vvc {P n code t L R U} {Q:Kt} (h:R=U) (k:CJ P n code t L U Q):CJ P n code t L R Q:=h ▸ k
def Y7c {f:List Int} {v:Nat} (h:v < f.length):f[v]?=some (lb f v):=Jw _ h
def Vce {g cap:Nat} {spare:List Value} {l:List Int} {x:Int} (h:(⟨.own g cap spare,l ++ [x]⟩:OwL Int).ok 1 Jo):(⟨.own g cap (Jo x ++ spare),l⟩:OwL Int).ok 1 Jo:=by obtain ⟨h1,h2,h3,h4⟩:=h;dsimp only [] at h1 h2 h3 h4;simp only [yo,yU] at h2;refine ⟨by rw [Uo (wd:=1) (fun _=>rfl)],by dsimp only;omega,h3,?_⟩;rw [← h4];simp [yLb,yq]
def Jbf {g cap:Nat} {spare:List Value} {T:TypeId} {l:List Int} {x:Int}:(⟨.own g cap spare,l ++ [x]⟩:OwL Int).L T Jo=(⟨.own g cap (Jo x ++ spare),l⟩:OwL Int).L T Jo:=by simp [OwL.L,Ow.L,yLb,yq]
def Y5e (m:XMine) (L:LB) (R:LS) (hm:MineR m R) (hok:MineOk m):
 Tri Tryz.prog 281 [m.val].toArray L R (fun w M U=>∃(p:OwL Int) (n:Nat) (S:LS),w=.tuple #[p.val,.int .i64 n]∧p.ok 1 Jo∧PartIs m p.l n∧p.L 3 Jo ++ L=M∧S ++ R=U):=by
 have hmr:=hm.roads;have hmp:=hm.places;have hnp:=hok.places;have hnr:=hok.roads;refine Jj 127 Tryz.call281 Tryz.func281 rfl rfl rfl ?_;apply (Xaf);intro b1;apply qc4∘Xag∘Xab∘qc7;rintro v M U ⟨b18,rfl,rfl,hR18⟩;replace hR18:=hR18.symm;subst hR18;apply Xb0∘Xaw;refine Jp [(1,.pointer _),(4,.slice _ _ _),(20,.slice _ _ _),(21,.int _ _),(22,.int _ _)] zh fun tq0=>?_;refine Vx ([6]++rg 22 34) ((⟨fun q=>[(22,.int .i64 ((q.1.1:Nat):Int))],fun q=>⟨b18,q.1.2.flatMap Kjb,40⟩ :: ⟨b1,m.cells,28⟩ :: (q.1.2.flatMap (OwL.L 3 Jo) ++ L),fun _=>R,fun q=>m.roads.l.length - q.1.1⟩:Head {q:Nat×List (OwL Int) // q.1≤m.roads.l.length∧NB m q.1 q.2})) (⟨(0,List.replicate m.places.l.length OwL.nil),by dsimp only;omega,NB.zero m⟩) zh (by dsimp only;rw [Uqc,← K7c];exact yx _) ztb ?_;rintro ⟨⟨k,G⟩,hk,hG⟩ junk;try dsimp only
 dsimp only at hk hG;apply (Xak);refine q_c ?_ ?_<;>intro hc0;·
  have hr:=Jw (l:=m.roads.l) (k:=k) default za;have hro:=hok.road _ _ hr;have hr1:=hro.fr;have hr2:=hro.to;have hr3:=hro.ne;have hGl:=hG.len;have hg1:(m.roads.l.getD k default).fr.toNat < G.length:=by omega
  have hg2:(m.roads.l.getD k default).to.toNat < G.length:=by omega
  obtain ⟨p,hp⟩:=Ky hg1;obtain ⟨q,hq⟩:=Ky hg2;have hpk:=hG.ok _ _ hp;have hqk:=hG.ok _ _ hq;have hpl:=Kpa m (m.roads.l.getD k default).fr.toNat k;have hql:=Kpa m (m.roads.l.getD k default).to.toNat k;rw [← hpk.2] at hpl;rw [← hqk.2] at hql;have hne:(m.roads.l.getD k default).fr.toNat≠(m.roads.l.getD k default).to.toNat:=by omega
  apply qbb∘qa3∘qc8∘qaq;intro b6;apply Xbx∘Xbb;refine q_c ?_ ?_<;>intro hc1;·refine Jr ?_;refine Kh tb [29,30,31] [0,1,2,3,4,5,6,7,8,9,10] [11,12,13] ([Blk.mk b6 _ _,Blk.mk b18 _ _]) _ K3 zc zi zPa ?_;refine V2 zMc rfl rfl rfl rfl ?_;apply Xc9∘Xcw;refine Ku zuc rfl rfl rfl rfl ?_;apply qcr∘Xar∘qc9;rintro v M U ⟨b39,rfl,rfl,hR39⟩;replace hR39:=hR39.symm;subst hR39;apply (Xc0);refine Z4b (Kb (f:=Jo) (a:=(m.roads.l.getD k default).to) tb rfl rfl rfl rfl (hpk.1) zj zxb rfl zA) rfl rfl rfl ?_;rintro v M U ⟨o40,rfl,hok40,rfl,rfl⟩;apply (qa1);refine K2 zuc rfl rfl rfl ?_;refine Zi (v:=Value.slice _ _ _) rfl rfl rfl rfl zy zO (by exact K2a (x':=⟨o40,p.l ++ [(m.roads.l.getD k default).to]⟩) yf ze zg zb) zb zi ?_;apply (qbu);(have hq':(G.set (m.roads.l.getD k default).fr.toNat ⟨o40,p.l ++ [(m.roads.l.getD k default).to]⟩)[(m.roads.l.getD k default).to.toNat]?=some q:=by rw [yda hne];exact hq);refine Kh tb [42,43,44] [0,1,2,3,4,5,6,7,8,9,10] [11,12,13] ([Blk.mk b6 _ _,Blk.mk b18 _ _]) _ K3 zc zi zPa ?_;refine V2 zMc rfl rfl rfl rfl ?_;apply Xc9∘Xcw;refine Ku zvc rfl rfl rfl rfl ?_;apply qcr∘Xar∘qc9;rintro v M U ⟨b52,rfl,rfl,hR52⟩;replace hR52:=hR52.symm;subst hR52;apply (Xc0);refine Z4b (Kb (f:=Jo) (a:=(m.roads.l.getD k default).fr) tb rfl rfl rfl rfl (hqk.1) zj zxb rfl zA) rfl rfl rfl ?_;rintro v M U ⟨o53,rfl,hok53,rfl,rfl⟩;apply (qa1);refine K2 zvc rfl rfl rfl ?_;refine Zi (v:=Value.slice _ _ _) rfl rfl rfl rfl zy zO (by exact K2a (x':=⟨o53,q.l ++ [(m.roads.l.getD k default).fr]⟩) yf ze zg zb) zb zi ?_;apply (Xda);exact q_k ⟨(k + 1,_),by dsimp only;omega,hG.next zG za za hne hp hq hok40 hok53⟩
  apply (Xax);exact q_k ⟨(k + 1,G),by dsimp only;omega,hG.stay zG⟩
 obtain rfl:k=m.roads.l.length:=by omega
 apply (qc3);have hGl:=hG.len;refine J8c (A:=[_,_]) (wd:=1) yf ze (fun p hp=>?okG) fun S2 hS2=>?_;case okG=>obtain ⟨r,hr⟩:=List.mem_iff_getElem?.1 hp;exact (hG.ok r p hr).1
 apply (qb1);refine V5b (A:=[]) (wd:=1) (len:=(G.map OwL.arr).length) (cap:=m.places.l.length) (rows:=(G.map OwL.arr).map Uhf) (subs:=(G.map OwL.arr).map isl) zo zD za (fun r hr=>?w1) ze ?cs1 (fun x hx=>?subG) ?_;case w1=>obtain ⟨y,_,rfl⟩:=List.mem_map.1 hr;rfl
 case cs1=>rw [Jzb,List.flatMap_map,yG (by rw [Uo (wd:=1) (fun _=>rfl)];simp)];rfl
 case subG=>exact zId
 apply (qb1);obtain ⟨NR,hNR⟩:∃NR:Arr (Arr Int),NR=⟨some ⟨b18,0,none⟩,m.places.l.length,G.map OwL.arr⟩:=⟨_,rfl⟩;have hNl:NR.l.length=m.places.l.length:=by rw [hNR];simp [hGl]
 have hNx:∀(v:Nat) (x:Arr Int),NR.l[v]?=some x→x.l=Zr m v m.roads.l.length:=fun v x hx=>by rw [hNR] at hx;dsimp only at hx;exact zQd
 have hval:Value.slice (some ⟨b18,0,none⟩) m.places.l.length m.places.l.length=NR.val:=by rw [hNR,Arr.val,yz,hGl]
 obtain ⟨R2,hR2⟩:∃R2,R2=Yga NR :: (S2 ++ R):=⟨_,rfl⟩;have hNI:InR (Yga NR) R2:=by rw [hR2];exact Ja (.head _)
 have hmp2:InR (psl m.places) R2:=by rw [hR2];exact hmp.mono fun r h=>Ja (by simp [h])
 rw [hval];refine Vvc (show _=R2 by rw [hR2,hNR]) ?_;apply qay∘Xab∘qc7;rintro v M U ⟨b59,rfl,rfl,hR59⟩;replace hR59:=hR59.symm;subst hR59;apply Xb0∘Xbt;refine Jp [(4,.slice _ _ _),(7,.slice _ _ _),(61,.int _ _),(62,.int _ _)] zh fun tq1=>?_;refine Vf (Y1 (f:=Jo) (x:=0) rfl _) ?_;refine q_p ([8]++rg 62 7) ((⟨fun q=>[(62,.int .i64 ((q.1.1:Nat):Int))],fun q=>(⟨.own b59 m.places.l.length [],q.1.2⟩:OwL Int).L 3 Jo ++ (⟨b1,m.cells,28⟩ :: L),fun _=>R2,fun q=>m.places.l.length - q.1.1⟩:Head {q:Nat×List Int // q.1≤m.places.l.length∧q.2.length=m.places.l.length∧∀j:Nat,j < q.1→q.2[j]?=some (-1)})) (⟨(0,List.replicate m.places.l.length 0),by dsimp only;omega,by simp,fun j hj=>by omega⟩) ?_;rintro ⟨⟨i,f⟩,q1,hfl,q3⟩ junk;try dsimp only
 dsimp only at q1 hfl q3;have hkf:(⟨.own b59 m.places.l.length [],f⟩:OwL Int).ok 1 Jo:=by have:=Yr (f:=Jo) (wd:=1) (b:=b59) (n:=m.places.l.length) (x:=0) yf zE;exact OwL.len_ok yf this (by simp;exact hfl)
 apply (Xak);refine q_c ?_ ?_<;>intro hc2;·
  have hfg:=Y7c (f:=f) (v:=i) za;apply Xa0∘qad;refine J6 (Jc (Jh ?_));apply Xat∘Vof;refine Ym (Js tb ((⟨.own b59 m.places.l.length [],f⟩:OwL Int)) (-1) rfl rfl rfl rfl zj zg yf zg ze zb zb) ?_;rintro v M U ⟨rfl,rfl⟩;apply (Xa7);exact Kr ⟨(i + 1,f.set i (-1)),by dsimp only;omega,by simp;exact hfl,fun j hj=>by
  rw [yK];split;·rw [if_pos za]
  ·exact q3 j (by dsimp only at hj;omega)⟩ zm zh zi ztb zx
 obtain rfl:i=m.places.l.length:=by omega
 have hf1:f=List.replicate m.places.l.length (-1):=by
  refine yxa fun j=>?_;rcases yk j m.places.l.length with h | h;·rw [q3 j h,yB,if_pos h]
  ·rw [yr za,yr (by simp;exact h)]
 have hL0:Lab m f ((0:Nat):Int):=by rw [hf1];exact Lab.init
 apply qbk∘Xap∘Xbt;refine Jp [(4,.slice _ _ _),(7,.slice _ _ _),(9,.int _ _),(70,.int _ _),(71,.int _ _)] zh fun tq2=>?_;refine q_p ([9,10,11,12,14]++rg 71 54) ((⟨fun q=>[(71,.int .i64 ((q.1.1:Nat):Int)),(9,.int .i64 ((q.1.2.1:Nat):Int))],fun q=>(⟨.own b59 m.places.l.length [],q.1.2.2⟩:OwL Int).L 3 Jo ++ (⟨b1,m.cells,28⟩ :: L),fun _=>R2,fun q=>m.places.l.length - q.1.1⟩:Head {q:Nat×Nat×List Int // q.1≤m.places.l.length∧Lab m q.2.2 (q.2.1:Int)∧q.2.1≤q.1∧∀j:Nat,j < q.1→0≤lb q.2.2 j})) (⟨(0,0,f),by dsimp only;omega,hL0,by dsimp only;omega,fun j hj=>by dsimp only at hj;omega⟩) ?_;rintro ⟨⟨i,n,f⟩,q1,hLb,q3,q4⟩ junk;try dsimp only
 dsimp only at q1 hLb q3 q4;have hfl:=hLb.len;have hkf:(⟨.own b59 m.places.l.length [],f⟩:OwL Int).ok 1 Jo:=by have:=Yr (f:=Jo) (wd:=1) (b:=b59) (n:=m.places.l.length) (x:=0) yf zE;exact OwL.len_ok yf this (by simp;exact hfl)
 apply (Xak);refine q_c ?_ ?_<;>intro hc3;·
  have hfg:=Y7c (f:=f) (v:=i) za;apply Xa0∘Xap∘Xat∘Vof;refine Jx (Kc tb ((⟨.own b59 m.places.l.length [],f⟩:OwL Int)) rfl rfl rfl zj zg yf zg zb) rfl ?_;apply (Xcn);refine q_c ?_ ?_<;>intro hc4;·
   refine Ug (Kw (Kd (Jc (Jh ?_))));apply (Xae);exact Kr ⟨(i + 1,n,f),by dsimp only;omega,hLb,by dsimp only;omega,fun j hj=>by
   rcases yk j i with h | h;·exact q4 j h
   ·(obtain rfl : j = i := by dsimp only at hj; omega);omega⟩ zm zh zi ztb zx
  have hn0:lb f i < 0:=by omega
  have hD0:=hLb.start (i:=i) za hn0;have hneg:=Vdd (f:=f) (q:=i) (n:=(n:Int)) za hn0 za;have hnf:J0f f≤f.length:=List.countP_le_length;apply qbv∘Xat∘qaa∘Vof;refine Ym (Js tb ((⟨.own b59 m.places.l.length [],f⟩:OwL Int)) ((n:Int)) rfl rfl rfl rfl zj zg yf zg ze zb zb) ?_;rintro v M U ⟨rfl,rfl⟩;apply qaw∘qaa∘qcx;rintro v M U ⟨b84,rfl,rfl,hR84⟩;replace hR84:=hR84.symm;subst hR84;apply qc4∘qa2;refine Y6 ([9,10,11,12,14]++rg 71 54) zI [(9,.int _ _),(11,.slice _ _ _),(71,.int _ _)] zh fun tq3=>?_;have hT0:(⟨.own b84 1 [],[(i:Int)]⟩:OwL Int).ok 1 Jo:=⟨rfl,yl _,by simp only [maxLen];omega,rfl⟩;refine Vf (M:=(⟨.own b84 1 [],[(i:Int)]⟩:OwL Int).L 3 Jo ++ ((⟨.own b59 m.places.l.length [],f.set i (n:Int)⟩:OwL Int).L 3 Jo ++ (⟨b1,m.cells,28⟩ :: L))) (by simp only [OwL.L,Ow.L,yM,List.flatMap_nil,Jo,yZ,yp,yv]) ?_;refine q_p ([11,12,14]++rg 85 37) ((⟨fun q=>[(11,q.1.2.val)],fun q=>q.1.2.L 3 Jo ++ ((⟨.own b59 m.places.l.length [],q.1.1⟩:OwL Int).L 3 Jo ++ (⟨b1,m.cells,28⟩ :: L)),fun _=>R2,fun q=>2 * J0f q.1.1 + q.1.2.l.length⟩:Head {q:List Int×OwL Int // q.2.ok 1 Jo∧Dfs m f q.1 (n:Int) i q.2.l (fun _=>False)∧2 * J0f q.1 + q.2.l.length≤2 * m.places.l.length})) (⟨(f.set i (n:Int),⟨.own b84 1 [],[(i:Int)]⟩),hT0,hD0,by dsimp only;simp only [yU];omega⟩) ?_;rintro ⟨⟨f1,⟨o1,l1⟩⟩,hT,hD,hN⟩ junk;try dsimp only
  dsimp only at hT hD hN;apply qbi∘Xaq∘qa5∘qaf;refine q_c ?_ ?_<;>intro hc5;·
   (have hpos:0 < l1.length:=by have:=hc5;(try simp only [OwL.val] at this);omega);obtain ⟨g,cap,spare,ho⟩:=OwL.own_of hT (i:=0) hpos;dsimp only at ho;subst ho;obtain ⟨l2,x,hlx⟩:∃l2 x,l1=l2 ++ [x]:=⟨l1.dropLast,l1.getLast (by intro h;rw [h] at hpos;simp at hpos),(List.dropLast_concat_getLast _).symm⟩;subst hlx;obtain ⟨v,hxv,hv1,hv2⟩:=hD.tds x zo;subst hxv;(have hl2:(l2 ++ [(v:Int)]).length=l2.length + 1:=by simp);(have hgx:(l2 ++ [(v:Int)])[l2.length]?=some (v:Int):=by simp);(have hTv:(⟨.own g cap spare,l2 ++ [(v:Int)]⟩:OwL Int).val=Value.slice (some ⟨g,0,none⟩) (l2.length + 1) cap:=by simp [OwL.val,Ow.addr,Ow.cap]);rw [hTv];have hT2:=Vce hT;have hcap:=hT.2.1;dsimp only at hcap;(have hvl:v < m.places.l.length:=by have h1:=hD.len;have h2:=Klg (f:=f1) (v:=v) za;omega);obtain ⟨y,hy⟩:=Ky (l:=NR.l) (k:=v) za;have hyx:=hNx v y hy;have hyI:=InR.arr hNI hy;(have hyl:y.l.length≤m.roads.l.length:=by rw [hyx];exact Kpa m v _);refine Ka (Jc (Km (Jr (Jh ?_))));apply qbm∘Xaq∘qa9;refine Jx (Jv tb ((⟨.own g cap spare,l2 ++ [(v:Int)]⟩:OwL Int)) _ rfl rfl ((show _=Value.slice _ _ _ from rfl).trans hTv.symm) rfl zg (i:=l2.length) zk zu) rfl ?_;refine Jx (Kc tb ((⟨.own g cap spare,l2 ++ [(v:Int)]⟩:OwL Int)) rfl rfl rfl zj zg yf zg zb) rfl ?_;apply Xag∘qbm∘Xaq∘qa9;refine Jx (Ufb tb rfl rfl rfl rfl (n:=l2.length) zk za) rfl ?_;apply (Xcx);refine Vf (by rw [Jbf]) ?_;apply (Xb3);refine Jx (by first | exact Jf tb rfl rfl rfl rfl zt (i:=v) zk za | exact Jl tb rfl rfl rfl rfl (i:=v) zk za) rfl ?_;apply qa7∘qag∘Xal;refine Y6 ([11,12,14]++rg 85 37) zI [(11,.slice _ _ _),(102,.slice _ _ _),(103,.int _ _),(104,.int _ _)] zh fun tq4=>?_;refine q_p ([11,14]++rg 104 18) ((⟨fun q=>[(104,.int .i64 ((q.1.1:Nat):Int)),(11,q.1.2.2.val)],fun q=>q.1.2.2.L 3 Jo ++ ((⟨.own b59 m.places.l.length [],q.1.2.1⟩:OwL Int).L 3 Jo ++ (⟨b1,m.cells,28⟩ :: L)),fun _=>R2,fun q=>y.l.length - q.1.1⟩:Head {q:Nat×List Int×OwL Int // q.1≤y.l.length∧q.2.2.ok 1 Jo∧Dfs m f q.2.1 (n:Int) i q.2.2.l (fun u=>u=v)∧2 * J0f q.2.1 + q.2.2.l.length≤2 * J0f f1 + l2.length∧lb q.2.1 v=(n:Int)∧∀(j:Nat) (e:Int),j < q.1→y.l[j]?=some e→lb q.2.1 e.toNat=(n:Int)})) (⟨(0,f1,⟨.own g cap (Jo (v:Int) ++ spare),l2⟩),by dsimp only;omega,hT2,hD.pop,yl _,hv2,fun j e hj=>by dsimp only at hj;omega⟩) ?_;rintro ⟨⟨k,f2,⟨o2,l3⟩⟩,w1,w2,w3,w4,w6,w5⟩ junk;(try dsimp only);dsimp only at w1 w2 w3 w4 w5 w6;have hfl:=w3.len;(have hkf2:(⟨.own b59 m.places.l.length [],f2⟩:OwL Int).ok 1 Jo:=by have:=Yr (f:=Jo) (wd:=1) (b:=b59) (n:=m.places.l.length) (x:=0) yf zE;exact OwL.len_ok yf this (by simp;exact hfl));apply (Xak);refine q_c ?_ ?_<;>intro hc6;·
    have hyk:=Jw (l:=y.l) (k:=k) 0 za;obtain ⟨e,he⟩:∃e,e=y.l.getD k 0:=⟨_,rfl⟩;rw [← he] at hyk;obtain ⟨u,hue,hst⟩:=Yvb hok m.roads.l.length (yl _) e (by rw [← hyx];exact yj hyk);subst hue;have hul:=(hst.lt hok).2;have hfu:=Y7c (f:=f2) (v:=u) za;apply (qbb);refine Jx zB rfl ?_;apply qa7∘Xag∘Xat∘Jxg;refine Jx (Kc tb ((⟨.own b59 m.places.l.length [],f2⟩:OwL Int)) rfl rfl rfl zj zg yf zg zb) rfl ?_;apply (Xbm);refine q_c ?_ ?_<;>intro hc7;·
     apply qae∘Xat∘qaa∘Jxg;refine Ym (Js tb ((⟨.own b59 m.places.l.length [],f2⟩:OwL Int)) ((n:Int)) rfl rfl rfl rfl zj zg yf zg ze zb zb) ?_;rintro v M U ⟨rfl,rfl⟩;refine J6 (Jc (Jh ?_));apply Xat∘qcx;rintro v M U ⟨b119,rfl,rfl,hR119⟩;replace hR119:=hR119.symm;subst hR119;refine Jqa (Kb (f:=Jo) (a:=(u:Int)) tb rfl rfl rfl rfl (w2) zj zxb rfl zA) rfl ?_;rintro v M U ⟨o120,rfl,hok120,rfl,rfl⟩;apply qc4∘Xa7;(have hc7':lb f2 u < 0:=by simpa using hc7);have hnn:=Vdd (f:=f2) (q:=u) (n:=(n:Int)) za hc7' za;exact Kr ⟨(k + 1,f2.set u (n:Int),⟨o120,l3 ++ [(u:Int)]⟩),by dsimp only;omega,hok120,w3.push hLb ⟨hv1,w6⟩ hst hul hc7',by dsimp only;rw [yo,yU];omega,by dsimp only;rw [Uia za];split;rfl;exact w6,fun j e hj hje=>by
      dsimp only at hj ⊢;rw [Uia za];split;·rfl
      ·
       rename_i hne;rcases yk j k with h | h;·exact w5 j e h hje
       ·(obtain rfl : j = k := by omega);rw [hyk] at hje;cases hje;exact absurd za hne⟩ zm zh zi ztb zx
    apply (Xax);(have hc7':¬ lb f2 u < 0:=by simpa using hc7);exact Kr ⟨(k + 1,f2,⟨o2,l3⟩),by dsimp only;omega,w2,w3,w4,w6,fun j e hj hje=>by
     dsimp only at hj ⊢;rcases yk j k with h | h;·exact w5 j e h hje
     ·
      (obtain rfl : j = k := by omega);rw [hyk] at hje;cases hje;rw [yu];rcases w3.new u (w3.next_lb hLb hv1 hst) with h1 | h1;·omega
      ·exact h1.1⟩ zm zh zi ztb zx
   (obtain rfl:k=y.l.length:=by omega);have hD2:=w3.through (fun u hs=>by have h1:=Jud hok hs;rw [← hyx] at h1;obtain ⟨j,hj⟩:=List.mem_iff_getElem?.1 h1;exact w5 j u (List.getElem?_eq_some_iff.1 hj).1 hj);refine Ug (Kw (Ux (Kd (Jk ?_))));exact q_k ⟨(f2,⟨o2,l3⟩),w2,hD2,by dsimp only;omega⟩
  have hl0:l1=[]:=List.length_eq_zero_iff.1 (by have:=hc5;(try simp only [OwL.val] at this);omega);subst hl0;have hDn:=hD.done hLb;refine Ug (Kw (Ux (Kd (Jc (Jh ?_)))));apply Xcg∘qad∘Xa7;exact Kr ⟨(i + 1,n + 1,f1),by dsimp only;omega,(show ((n + 1:Nat):Int)=(n:Int) + 1 from by omega) ▸ hDn,by dsimp only;omega,fun j hj=>by
  dsimp only at hj ⊢;rcases yk j i with h | h;·have := q4 j h;rw [hD.old j this];exact this
  ·(obtain rfl : j = i := by omega);rw [hD.start.1];omega⟩ zm zh zi ztb zx
 obtain rfl:i=m.places.l.length:=by omega
 apply qbk∘Xat∘qc4∘Xah;refine q_r ((⟨.own b59 m.places.l.length [],f⟩:OwL Int).L 3 Jo ++ L) R2 zRc ?_;exact ⟨(⟨.own b59 m.places.l.length [],f⟩:OwL Int),n,Yga NR :: S2,congrArg (fun w=>Value.tuple #[w,.int .i64 (n:Int)]) (Uq hfl),hkf,hLb.part (fun v hv=>q4 v hv) za,rfl,hR2.symm⟩
end
end Go.Proofs.YtchfclmokpbldaaGreat
