/-
  Texts of one chapter, merged. By an AI agent; no person has read it.
-/
import Derived.Test.YtchfclmokpbldaaGreatFits
import Derived.Test.YtchfclmokpbldaaGreatDraws
import Derived.Test.YtchfclmokpbldaaGreatNets
set_option linter.unusedVariables false
set_option linter.unusedSimpArgs false
set_option maxRecDepth 20000
namespace Go.Proofs.YtchfclmokpbldaaGreat
open Go.Aw Go
section
def Y7 (m : XMine) (v : Nat) : Nat → List Int
  | 0=>[]
  | k + 1 => if (m.roads.l.getD k default).closed = true then Y7 m v k
    else if (m.roads.l.getD k default).fr=(v:Int) then Y7 m v k ++ [(m.roads.l.getD k default).to]
    else if (m.roads.l.getD k default).to=(v:Int) then Y7 m v k ++ [(m.roads.l.getD k default).fr] else Y7 m v k
theorem J0a (m : XMine) (v : Nat) : ∀ k, (Y7 m v k).length ≤ k
  | 0=>by simp [Y7]
  | k + 1=>by
    have:=J0a m v k
    rw [Y7]
    split
    · omega
    · split
      · simp only [List.length_append,List.length_singleton];omega
      · split
        · simp only [List.length_append,List.length_singleton];omega
        · omega
theorem Veb {m : XMine} (hm : MineOk m) {v : Nat} : ∀ k, k ≤ m.roads.l.length → ∀ e ∈ Y7 m v k, ∃ w : Nat, e = (w : Int) ∧ Step m v w
  | 0,_,e,h=>by cases h
  | k + 1,hk,e,h=>by
    have ih:=Veb hm (v:=v) k za e
    have hg:=Jw (l:=m.roads.l) (k:=k) default za
    have hro:=hm.road k _ hg
    have h1:=hro.fr
    have h2:=hro.to
    have hmem:=List.mem_of_getElem? hg
    rw [Y7] at h
    split at h
    · exact ih h
    · rename_i hc
      have hc:(m.roads.l.getD k default).closed=false:=by simpa using hc
      split at h
      · rename_i hf
        rcases List.mem_append.1 h with h | h
        · exact ih h
        · rw [List.mem_singleton.1 h]
          exact ⟨(m.roads.l.getD k default).to.toNat,by omega,_,hmem,hc,.inl ⟨hf,by omega⟩⟩
      · split at h
        · rename_i hf ht
          rcases List.mem_append.1 h with h | h
          · exact ih h
          · rw [List.mem_singleton.1 h]
            exact ⟨(m.roads.l.getD k default).fr.toNat,by omega,_,hmem,hc,.inr ⟨by omega,ht⟩⟩
        · exact ih h
theorem V2b (m : XMine) (v : Nat) {k : Nat} : ∀ {n : Nat}, k ≤ n → ∀ e ∈ Y7 m v k, e ∈ Y7 m v n
  | 0,h,e,he=>by rw [show k=0 by omega] at he;exact he
  | n + 1,h,e,he=>by
    rcases Nat.lt_or_ge n k with h' | h'
    · rw [show k=n + 1 by omega] at he;exact he
    · have := V2b m v (n := n) h' e he
      rw [Y7]
      split
      · exact this
      · split
        · exact List.mem_append_left _ this
        · split
          · exact List.mem_append_left _ this
          · exact this
theorem Z6c {m:XMine} (hm:MineOk m) {v w:Nat} (h:Step m v w):(w:Int)∈Y7 m v m.roads.l.length:=by
  obtain ⟨r,hr,hc,h1⟩:=h
  obtain ⟨i,hi⟩:=List.mem_iff_getElem?.1 hr
  have hil:=(List.getElem?_eq_some_iff.1 hi).1
  have hro:=hm.road i r hi
  have hne:=hro.ne
  have hgr:m.roads.l.getD i default=r:=getD_some hi
  refine V2b m v (k:=i + 1) hil _ ?_
  rw [Y7,hgr,if_neg (by rw [hc];decide)]
  rcases h1 with h1 | h1
  · rw [if_pos h1.1,h1.2];simp
  · rw [if_neg za,if_pos h1.2,h1.1];simp
structure NB (m:XMine) (k:Nat) (G:List (OwL Int)):Prop where
  len:G.length=m.places.l.length
  ok:∀(v:Nat) (p:OwL Int),G[v]?=some p→p.ok 1 Jp∧p.l=Y7 m v k
theorem NB.zero (m:XMine):NB m 0 (List.replicate m.places.l.length OwL.nil):=by
  refine ⟨by simp,fun r p hp=>?_⟩
  rw [List.getElem?_replicate] at hp
  split at hp
  · cases hp;exact ⟨OwL.nil_ok,rfl⟩
  · cases hp
theorem NB.stay {m:XMine} {k:Nat} {G:List (OwL Int)} (h:NB m k G) (hc:(m.roads.l.getD k default).closed=true):NB m (k + 1) G:=
  ⟨h.len,fun v p hp=>⟨(h.ok v p hp).1,by rw [Y7,if_pos hc];exact (h.ok v p hp).2⟩⟩
theorem NB.next {m : XMine} {k : Nat} {G : List (OwL Int)} (h : NB m k G) (hc : ¬ (m.roads.l.getD k default).closed = true) {i j : Nat} (hi : (i : Int) = (m.roads.l.getD k default).fr) (hj : (j : Int) = (m.roads.l.getD k default).to) (hne : i ≠ j)
    {p q:OwL Int} (hp:G[i]?=some p) (hq:G[j]?=some q) {o o':Ow} (hok:(⟨o,p.l ++ [(m.roads.l.getD k default).to]⟩:OwL Int).ok 1 Jp) (hok':(⟨o',q.l ++ [(m.roads.l.getD k default).fr]⟩:OwL Int).ok 1 Jp):
    NB m (k + 1) ((G.set i ⟨o,p.l ++ [(m.roads.l.getD k default).to]⟩).set j ⟨o',q.l ++ [(m.roads.l.getD k default).fr]⟩):=by
  refine ⟨by simp [h.len],fun v x hx=>?_⟩
  rw [List.getElem?_set] at hx
  split at hx
  · rename_i e
    subst e
    split at hx
    · cases hx
      refine ⟨hok',?_⟩
      rw [Y7,if_neg hc,if_neg za,if_pos za,(h.ok _ q hq).2]
    · cases hx
  · rename_i e
    rw [List.getElem?_set] at hx
    split at hx
    · rename_i e2
      subst e2
      split at hx
      · cases hx
        refine ⟨hok,?_⟩
        rw [Y7,if_neg hc,if_pos za,(h.ok _ p hp).2]
      · cases hx
    · rename_i e2
      refine ⟨(h.ok v x hx).1,?_⟩
      rw [Y7,if_neg hc,if_neg za,if_neg za]
      exact (h.ok v x hx).2
abbrev lb (f:List Int) (v:Nat):Int:=f.getD v (-1)
theorem Kva {f:List Int} {k i:Nat} {x:Int} (hk:k < f.length):lb (f.set k x) i=if i=k then x else lb f i:=by
  unfold lb
  rw [List.getD_eq_getElem?_getD,List.getElem?_set,List.getD_eq_getElem?_getD]
  split
  · rename_i h;subst h;simp [hk]
  · rename_i h;rw [if_neg (fun e=>h e.symm)]
theorem V4f {f:List Int} {v:Nat} (h:0≤lb f v):v < f.length:=by
  rcases Nat.lt_or_ge v f.length with h' | h'
  · exact h'
  · unfold lb at h;rw [List.getD_eq_getElem?_getD,List.getElem?_eq_none h'] at h;simp at h
structure Lab (m:XMine) (f:List Int) (n:Int):Prop where
  len:f.length=m.places.l.length
  rng:∀v,-1≤lb f v∧lb f v < n
  n0:0≤n
  clo:∀u v,0≤lb f u→Step m u v→lb f v=lb f u
  con:∀u v,0≤lb f u→lb f u=lb f v→Conn m u v
structure Dfs (m:XMine) (f0 f:List Int) (n:Int) (i:Nat) (todo:List Int) (ex:Nat→Prop):Prop where
  len:f.length=m.places.l.length
  old:∀v,0≤lb f0 v→lb f v=lb f0 v
  new:∀v,lb f0 v < 0→lb f v= -1∨(lb f v=n∧Conn m i v)
  start:lb f i=n∧lb f0 i < 0
  tds:∀e∈todo,∃v:Nat,e=(v:Int)∧lb f0 v < 0∧lb f v=n
  clo:∀u,lb f0 u < 0→lb f u=n→(u:Int)∈todo∨ex u∨∀v,Step m u v→lb f v=n
theorem Lab.start {m:XMine} {f:List Int} {n:Int} (h:Lab m f n) {i:Nat} (hi:i < m.places.l.length) (hn:lb f i < 0):Dfs m f (f.set i n) n i [(i:Int)] (fun _=>False):=by
  have hl:=h.len
  refine ⟨by simp [hl],fun v hv=>?_,fun v hv=>?_,⟨by rw [Kva za,if_pos rfl],hn⟩,fun e he=>?_,fun u hu hu2=>?_⟩
  · rw [Kva za,if_neg (fun e=>by rw [e] at hv;omega)]
  · rw [Kva za]
    split
    · rename_i e;rw [e];exact .inr ⟨rfl,.refl⟩
    · left;have:=h.rng v;omega
  · rw [List.mem_singleton.1 he];exact ⟨i,rfl,hn,by rw [Kva za,if_pos rfl]⟩
  · rw [Kva za] at hu2
    split at hu2
    · rename_i e;rw [e];exact .inl zo
    · have:=h.rng u;omega
theorem Dfs.next_lb {m:XMine} {f0 f:List Int} {n:Int} {i:Nat} {todo:List Int} {ex:Nat→Prop} (h:Dfs m f0 f n i todo ex) (hl:Lab m f0 n) {p q:Nat} (hp:lb f0 p < 0) (hs:Step m p q):lb f0 q < 0:=by
  rcases Int.lt_or_le (lb f0 q) 0 with h' | h'
  · exact h'
  · have := hl.clo q p h' hs.symm
    omega
theorem Dfs.push {m:XMine} {f0 f:List Int} {n:Int} {i:Nat} {todo:List Int} {ex:Nat→Prop} (h:Dfs m f0 f n i todo ex) (hl:Lab m f0 n) {p q:Nat} (hp:lb f0 p < 0∧lb f p=n) (hs:Step m p q) (hq:q < m.places.l.length) (hf:lb f q < 0):Dfs m f0 (f.set q n) n i (todo ++ [(q:Int)]) ex:=by
  have hln:=h.len
  have hq0:=h.next_lb hl hp.1 hs
  have hci:Conn m i p:=by
    rcases h.new p hp.1 with h1 | h1
    · have:=hl.n0;omega
    · exact h1.2
  have hn0:=hl.n0
  refine ⟨by simp [hln],fun v hv=>?_,fun v hv=>?_,⟨?_,h.start.2⟩,fun e he=>?_,fun u hu hu2=>?_⟩
  · rw [Kva za,if_neg (fun e=>by rw [e] at hv;omega)];exact h.old v hv
  · rw [Kva za]
    split
    · rename_i e;rw [e];exact .inr ⟨rfl,hci.tail hs⟩
    · exact h.new v hv
  · rw [Kva za]
    split
    · rfl
    · exact h.start.1
  · rcases List.mem_append.1 he with h1 | h1
    · obtain ⟨v, a1, a2, a3⟩ := h.tds e h1
      refine ⟨v,a1,a2,?_⟩
      rw [Kva za]
      split
      · rfl
      · exact a3
    · rw [List.mem_singleton.1 h1]
      exact ⟨q,rfl,hq0,by rw [Kva za,if_pos rfl]⟩
  · rw [Kva za] at hu2
    split at hu2
    · rename_i e;rw [e];exact .inl zo
    · rcases h.clo u hu hu2 with h1 | h1 | h1
      · exact .inl (List.mem_append_left _ h1)
      · exact .inr (.inl h1)
      · refine .inr (.inr fun v hv => ?_)
        rw [Kva za]
        split
        · rfl
        · exact h1 v hv
theorem Dfs.pop {m:XMine} {f0 f:List Int} {n:Int} {i:Nat} {todo:List Int} {p:Nat} (h:Dfs m f0 f n i (todo ++ [(p:Int)]) (fun _=>False)):Dfs m f0 f n i todo (fun u=>u=p):=by
  refine ⟨h.len,h.old,h.new,h.start,fun e he=>h.tds e (List.mem_append_left _ he),fun u hu hu2=>?_⟩
  rcases h.clo u hu hu2 with h1 | h1 | h1
  · rcases List.mem_append.1 h1 with h2 | h2
    · exact .inl h2
    · have := List.mem_singleton.1 h2
      exact .inr (.inl za)
  · exact absurd h1 id
  · exact .inr (.inr h1)
theorem Dfs.through {m:XMine} {f0 f:List Int} {n:Int} {i:Nat} {todo:List Int} {p:Nat} (h:Dfs m f0 f n i todo (fun u=>u=p)) (hp:∀v,Step m p v→lb f v=n):Dfs m f0 f n i todo (fun _=>False):=by
  refine ⟨h.len,h.old,h.new,h.start,h.tds,fun u hu hu2=>?_⟩
  rcases h.clo u hu hu2 with h1 | h1 | h1
  · exact .inl h1
  · rw [h1];exact .inr (.inr hp)
  · exact .inr (.inr h1)
theorem Dfs.done {m:XMine} {f0 f:List Int} {n:Int} {i:Nat} (h:Dfs m f0 f n i [] (fun _=>False)) (hl:Lab m f0 n):Lab m f (n + 1):=by
  have hn0:=hl.n0
  have cases_:∀v,(0≤lb f0 v∧lb f v=lb f0 v)∨(lb f0 v < 0∧lb f v= -1)∨(lb f0 v < 0∧lb f v=n∧Conn m i v):=fun v=>by
    rcases Int.lt_or_le (lb f0 v) 0 with h1 | h1
    · rcases h.new v h1 with h2 | h2
      · exact .inr (.inl ⟨h1,h2⟩)
      · exact .inr (.inr ⟨h1,h2⟩)
    · exact .inl ⟨h1,h.old v h1⟩
  refine ⟨h.len,fun v=>?_,by omega,fun u v hu hs=>?_,fun u v hu he=>?_⟩
  · have := hl.rng v
    rcases cases_ v with h1 | h1 | h1 <;> omega
  · rcases cases_ u with h1 | h1 | h1
    · have h2 := hl.clo u v h1.1 hs
      rw [h.old v za,h1.2,h2]
    · omega
    · rcases h.clo u h1.1 h1.2.1 with h2 | h2 | h2
      · cases h2
      · exact absurd h2 id
      · rw [h2 v hs,h1.2.1]
  · have ru := hl.rng u
    have rv:=hl.rng v
    rcases cases_ u with h1 | h1 | h1
    · rcases cases_ v with h2 | h2 | h2
      · exact hl.con u v h1.1 za
      · omega
      · omega
    · omega
    · rcases cases_ v with h2 | h2 | h2
      · omega
      · omega
      · exact h1.2.2.symm.trans h2.2.2
theorem Lab.init {m:XMine}:Lab m (List.replicate m.places.l.length (-1)) 0:=by
  have e:∀v,lb (List.replicate m.places.l.length (-1)) v= -1:=fun v=>by
    unfold lb
    rw [List.getD_eq_getElem?_getD,List.getElem?_replicate]
    split <;> rfl
  refine ⟨by simp,fun v=>by rw [e];omega,by omega,fun u v hu=>by rw [e] at hu;omega,fun u v hu=>by rw [e] at hu;omega⟩
structure PartIs (m:XMine) (f:List Int) (n:Int):Prop where
  len:f.length=m.places.l.length
  rng:∀v,v < m.places.l.length→0≤lb f v∧lb f v < n
  n:0≤n∧n≤m.places.l.length
  iff:∀u v,u < m.places.l.length→v < m.places.l.length→(lb f u=lb f v↔Conn m u v)
theorem Lab.part {m:XMine} {f:List Int} {n:Int} (h:Lab m f n) (ha:∀v,v < m.places.l.length→0≤lb f v) (hn:n≤m.places.l.length):PartIs m f n:=by
  refine ⟨h.len,fun v hv=>⟨ha v hv,(h.rng v).2⟩,⟨h.n0,hn⟩,fun u v hu hv=>⟨fun he=>h.con u v (ha u hu) he,fun hc=>?_⟩⟩
  have:=Conn.closed (P:=fun x=>0≤lb f x∧lb f x=lb f u) (fun x y hx hs=>by
    have:=h.clo x y hx.1 hs
    omega) hc ⟨ha u hu,rfl⟩
  exact this.2.symm
def Vye (f:List Int):Nat:=f.countP (fun x=>decide (x < 0))
theorem Kzd {f:List Int} {q:Nat} {n:Int} (hq:q < f.length) (hf:lb f q < 0) (hn:0≤n):Vye (f.set q n) + 1=Vye f:=by
  unfold Vye
  have hg:f[q] < 0:=by
    have:=Jw (l:=f) (k:=q) (-1) hq
    rw [List.getElem?_eq_getElem hq] at this
    rw [Option.some.inj this];exact hf
  rw [List.countP_set hq]
  have:0 < List.countP (fun x=>decide (x < 0)) f:=List.countP_pos_iff.2 ⟨f[q],List.getElem_mem hq,by simpa using hg⟩
  rw [if_pos (by simpa using hg),if_neg (by simpa using hn)]
  omega
end
section
attribute [local irreducible] CJ LJ DJ Tri YV Gives Ui J0 Ke Uh RV J2 OwL.L
section
variable {A9 B9:Prop}
theorem Yoe (a:A9) (h:A9→B9:=by exact Jx (Ju tb ((⟨.own b59 m.places.l.length [],f⟩:OwL Int)) _ rfl rfl ((show _=Value.slice _ _ _ from rfl).trans (Us hfl)) rfl zh (i:=i) zk zu) rfl):B9:=h a
theorem J8f (a:A9) (h:A9→B9:=by exact Jx (Ju tb ((⟨.own b59 m.places.l.length [],f2⟩:OwL Int)) _ rfl rfl ((show _=Value.slice _ _ _ from rfl).trans (Us hfl)) rfl zh (i:=u) zk zu) rfl):B9:=h a
end
theorem Ymb {P n code t L R R'} {Q:Kp} (h:R=R') (k:CJ P n code t L R' Q):CJ P n code t L R Q:=h ▸ k
theorem U9c {f:List Int} {v:Nat} (h:v < f.length):f[v]?=some (lb f v):=Jw _ h
theorem Jhe {g cap:Nat} {spare:List Value} {l:List Int} {x:Int} (h:(⟨.own g cap spare,l ++ [x]⟩:OwL Int).ok 1 Jp):(⟨.own g cap (Jp x ++ spare),l⟩:OwL Int).ok 1 Jp:=by
  obtain ⟨h1,h2,h3,h4⟩:=h
  dsimp only [] at h1 h2 h3 h4
  simp only [List.length_append,List.length_singleton] at h2
  refine ⟨by rw [Uc (wd:=1) (fun _=>rfl)],by dsimp only;omega,h3,?_⟩
  rw [← h4]
  simp [List.flatMap_append,List.append_assoc]
theorem Vve {g cap:Nat} {spare:List Value} {T:TypeId} {l:List Int} {x:Int}:(⟨.own g cap spare,l ++ [x]⟩:OwL Int).L T Jp=(⟨.own g cap (Jp x ++ spare),l⟩:OwL Int).L T Jp:=by
  simp [OwL.L,Ow.L,List.flatMap_append,List.append_assoc]
theorem Une (m:XMine) (L:List Blk) (R:List Sl) (hm:MineR m R) (hok:MineOk m):
    Tri Tryz.prog 281 [m.val].toArray L R (fun w L' R'=>∃(p:OwL Int) (n:Nat) (S:List Sl),w=.tuple #[p.val,.int .i64 n]∧p.ok 1 Jp∧PartIs m p.l n∧p.L 3 Jp ++ L=L'∧S ++ R=R'):=by
  have hmr:=hm.roads
  have hmp:=hm.places
  have hnp:=hok.places
  have hnr:=hok.roads
  refine Jg 127 Tryz.call281 Tryz.func281 rfl rfl rfl ?_
  refine Xag ?_
  intro b1
  refine qc4 ?_
  refine Xaf ?_
  refine Xac ?_
  refine qc7 ?_
  rintro v L' R' ⟨b18,rfl,rfl,hR18⟩
  replace hR18:=hR18.symm;subst hR18
  refine Xb9 ?_
  refine Xaw ?_
  refine Jo [(1,Value.pointer _),(4,Value.slice _ _ _),(20,Value.slice _ _ _),(21,Value.int _ _),(22,Value.int _ _)] zg fun tq0=>?_
  refine Vm [6,22,23,24,25,26,27,28,29,30,31,32,33,34,35,36,37,38,39,40,41,42,43,44,45,46,47,48,49,50,51,52,53,54,55] ((⟨fun q=>[(22,.int .i64 ((q.1.1:Nat):Int))],fun q=>⟨b18,q.1.2.flatMap Jkb,40⟩ :: ⟨b1,m.cells,28⟩ :: (q.1.2.flatMap (OwL.L 3 Jp) ++ L),fun _=>R,fun q=>m.roads.l.length - q.1.1⟩:Head {q:Nat×List (OwL Int) // q.1≤m.roads.l.length∧NB m q.1 q.2})) (⟨(0,List.replicate m.places.l.length OwL.nil),by dsimp only;omega,NB.zero m⟩) zg (by dsimp only;rw [Jwc,← Jlc];exact List.Sublist.refl _) zqb ?_
  rintro ⟨⟨k,G⟩,hk,hG⟩ junk
  try dsimp only
  dsimp only at hk hG
  refine Xak ?_
  refine q_c (fun hc0=>?_) (fun hc0=>?_)
  ·
   have hr:=Jw (l:=m.roads.l) (k:=k) default za
   have hro:=hok.road _ _ hr
   have hr1:=hro.fr
   have hr2:=hro.to
   have hr3:=hro.ne
   have hGl:=hG.len
   have hg1:(m.roads.l.getD k default).fr.toNat < G.length:=by omega
   have hg2:(m.roads.l.getD k default).to.toNat < G.length:=by omega
   obtain ⟨p,hp⟩:=Kr hg1
   obtain ⟨q,hq⟩:=Kr hg2
   have hpk:=hG.ok _ _ hp
   have hqk:=hG.ok _ _ hq
   have hpl:=J0a m (m.roads.l.getD k default).fr.toNat k
   have hql:=J0a m (m.roads.l.getD k default).to.toNat k
   rw [← hpk.2] at hpl
   rw [← hqk.2] at hql
   have hne:(m.roads.l.getD k default).fr.toNat≠(m.roads.l.getD k default).to.toNat:=by omega
   refine qbb ?_
   refine qa3 ?_
   refine qc8 ?_
   refine qaq ?_
   intro b6
   refine Xb2 ?_
   refine Xbd ?_
   refine q_c (fun hc1=>?_) (fun hc1=>?_)
   ·
    refine Jn ?_
    refine Kj tb [29,30,31] [0,1,2,3,4,5,6,7,8,9,10] [11,12,13] ([Blk.mk b6 _ _,Blk.mk b18 _ _]) _ K1 ze zi zNa ?_
    refine V8 zKc rfl rfl rfl rfl ?_
    refine Xc6 ?_
    refine Xcu ?_
    refine Kx ztc rfl rfl rfl rfl ?_
    refine qcr ?_
    refine Xar ?_
    refine qc9 ?_
    rintro v L' R' ⟨b39,rfl,rfl,hR39⟩
    replace hR39:=hR39.symm;subst hR39
    refine Xcz ?_
    refine Yjb (J8 (f:=Jp) (a:=(m.roads.l.getD k default).to) tb rfl rfl rfl rfl (hpk.1) zj zsb rfl zy) rfl rfl rfl ?_
    rintro v L' R' ⟨o40,rfl,hok40,rfl,rfl⟩
    refine qa1 ?_
    refine Kv ztc rfl rfl rfl ?_
    refine Zh (v:=Value.slice _ _ _) rfl rfl rfl rfl zA zN (by exact Kga (x':=⟨o40,p.l ++ [(m.roads.l.getD k default).to]⟩) (fun _=>rfl) zc zh zb) zb zi ?_
    refine qbu ?_
    have hq':(G.set (m.roads.l.getD k default).fr.toNat ⟨o40,p.l ++ [(m.roads.l.getD k default).to]⟩)[(m.roads.l.getD k default).to.toNat]?=some q:=by rw [List.getElem?_set_ne hne];exact hq
    refine Kj tb [42,43,44] [0,1,2,3,4,5,6,7,8,9,10] [11,12,13] ([Blk.mk b6 _ _,Blk.mk b18 _ _]) _ K1 ze zi zNa ?_
    refine V8 zKc rfl rfl rfl rfl ?_
    refine Xc6 ?_
    refine Xcu ?_
    refine Kx zuc rfl rfl rfl rfl ?_
    refine qcr ?_
    refine Xar ?_
    refine qc9 ?_
    rintro v L' R' ⟨b52,rfl,rfl,hR52⟩
    replace hR52:=hR52.symm;subst hR52
    refine Xcz ?_
    refine Yjb (J8 (f:=Jp) (a:=(m.roads.l.getD k default).fr) tb rfl rfl rfl rfl (hqk.1) zj zsb rfl zy) rfl rfl rfl ?_
    rintro v L' R' ⟨o53,rfl,hok53,rfl,rfl⟩
    refine qa1 ?_
    refine Kv zuc rfl rfl rfl ?_
    refine Zh (v:=Value.slice _ _ _) rfl rfl rfl rfl zA zN (by exact Kga (x':=⟨o53,q.l ++ [(m.roads.l.getD k default).fr]⟩) (fun _=>rfl) zc zh zb) zb zi ?_
    refine Xc7 ?_
    exact q_k ⟨(k + 1,_),by dsimp only;omega,hG.next zH za za hne hp hq hok40 hok53⟩
   refine Xax ?_
   exact q_k ⟨(k + 1,G),by dsimp only;omega,hG.stay zH⟩
  obtain rfl:k=m.roads.l.length:=by omega
  refine qc3 ?_
  have hGl:=hG.len
  refine Z4b (A:=[_,_]) (wd:=1) (fun _=>rfl) zc (fun p hp=>?okG) fun S2 hS2=>?_
  case okG=>obtain ⟨r,hr⟩:=List.mem_iff_getElem?.1 hp;exact (hG.ok r p hr).1
  refine qb1 ?_
  refine Vkb (A:=[]) (wd:=1) (len:=(G.map OwL.arr).length) (cap:=m.places.l.length) (rows:=(G.map OwL.arr).map Jef) (subs:=(G.map OwL.arr).map isl) zo zD za (fun r hr=>?w1) zc ?cs1 (fun x hx=>?subG) ?_
  case w1=>obtain ⟨y,_,rfl⟩:=List.mem_map.1 hr;rfl
  case cs1=>
    rw [Jeb,List.flatMap_map,List.take_of_length_le (by rw [Uc (wd:=1) (fun _=>rfl)];simp)]
    rfl
  case subG=>
    exact zDd
  refine qb1 ?_
  obtain ⟨NR,hNR⟩:∃NR:Arr (Arr Int),NR=⟨some ⟨b18,0,none⟩,m.places.l.length,G.map OwL.arr⟩:=⟨_,rfl⟩
  have hNl:NR.l.length=m.places.l.length:=by rw [hNR];simp [hGl]
  have hNx:∀(v:Nat) (x:Arr Int),NR.l[v]?=some x→x.l=Y7 m v m.roads.l.length:=fun v x hx=>by
    rw [hNR] at hx
    dsimp only at hx
    exact zKd
  have hval:Value.slice (some ⟨b18,0,none⟩) m.places.l.length m.places.l.length=NR.val:=by rw [hNR,Arr.val,List.length_map,hGl]
  obtain ⟨R2,hR2⟩:∃R2,R2=Via NR :: (S2 ++ R):=⟨_,rfl⟩
  have hNI:InR (Via NR) R2:=by rw [hR2];exact Ja (.head _)
  have hmp2:InR (psl m.places) R2:=by rw [hR2];exact hmp.mono fun r h=>Ja (by simp [h])
  rw [hval]
  refine Ymb (show _=R2 by rw [hR2,hNR]) ?_
  refine qay ?_
  refine Xac ?_
  refine qc7 ?_
  rintro v L' R' ⟨b59,rfl,rfl,hR59⟩
  replace hR59:=hR59.symm;subst hR59
  refine Xb9 ?_
  refine Xbt ?_
  refine Jo [(4,Value.slice _ _ _),(7,Value.slice _ _ _),(61,Value.int _ _),(62,Value.int _ _)] zg fun tq1=>?_
  refine Uv (Y3 (f:=Jp) (x:=0) rfl _) ?_
  refine q_p [8,62,63,64,65,66,67,68] ((⟨fun q=>[(62,.int .i64 ((q.1.1:Nat):Int))],fun q=>(⟨.own b59 m.places.l.length [],q.1.2⟩:OwL Int).L 3 Jp ++ (⟨b1,m.cells,28⟩ :: L),fun _=>R2,fun q=>m.places.l.length - q.1.1⟩:Head {q:Nat×List Int // q.1≤m.places.l.length∧q.2.length=m.places.l.length∧∀j:Nat,j < q.1→q.2[j]?=some (-1)})) (⟨(0,List.replicate m.places.l.length 0),by dsimp only;omega,by simp,fun j hj=>by omega⟩) ?_
  rintro ⟨⟨i,f⟩,q1,hfl,q3⟩ junk
  try dsimp only
  dsimp only at q1 hfl q3
  have hkf:(⟨.own b59 m.places.l.length [],f⟩:OwL Int).ok 1 Jp:=by have:=Ze (f:=Jp) (wd:=1) (b:=b59) (n:=m.places.l.length) (x:=0) (fun _=>rfl) zE;exact OwL.len_ok (fun _=>rfl) this (by simp;exact hfl)
  refine Xak ?_
  refine q_c (fun hc2=>?_) (fun hc2=>?_)
  ·
   have hfg:=U9c (f:=f) (v:=i) za
   refine Xa2 ?_
   refine qad ?_
   refine J6 (Jb (Jh ?_))
   refine Xau ?_
   refine Yoe ?_
   refine Ye (Jr tb ((⟨.own b59 m.places.l.length [],f⟩:OwL Int)) (-1) rfl rfl rfl rfl zj zh (fun _=>rfl) zh zc zb zb) ?_
   rintro v L' R' ⟨rfl,rfl⟩
   refine Xa8 ?_
   exact Kf ⟨(i + 1,f.set i (-1)),by dsimp only;omega,by simp;exact hfl,fun j hj=>by
   rw [List.getElem?_set]
   split
   · rw [if_pos za]
   · exact q3 j (by dsimp only at hj;omega)⟩ zm zg zi zqb zx
  obtain rfl:i=m.places.l.length:=by omega
  have hf1:f=List.replicate m.places.l.length (-1):=by
    refine List.ext_getElem? fun j=>?_
    rcases Nat.lt_or_ge j m.places.l.length with h | h
    · rw [q3 j h,List.getElem?_replicate,if_pos h]
    · rw [List.getElem?_eq_none za,List.getElem?_eq_none (by simp;exact h)]
  have hL0:Lab m f ((0:Nat):Int):=by rw [hf1];exact Lab.init
  refine qbk ?_
  refine Xas ?_
  refine Xbt ?_
  refine Jo [(4,Value.slice _ _ _),(7,Value.slice _ _ _),(9,Value.int _ _),(70,Value.int _ _),(71,Value.int _ _)] zg fun tq2=>?_
  refine q_p [9,10,11,12,14,71,72,73,74,75,76,77,78,79,80,81,82,83,84,85,86,87,88,89,90,91,92,93,94,95,96,97,98,99,100,101,102,103,104,105,106,107,108,109,110,111,112,113,114,115,116,117,118,119,120,121,122,123,124] ((⟨fun q=>[(71,.int .i64 ((q.1.1:Nat):Int)),(9,.int .i64 ((q.1.2.1:Nat):Int))],fun q=>(⟨.own b59 m.places.l.length [],q.1.2.2⟩:OwL Int).L 3 Jp ++ (⟨b1,m.cells,28⟩ :: L),fun _=>R2,fun q=>m.places.l.length - q.1.1⟩:Head {q:Nat×Nat×List Int // q.1≤m.places.l.length∧Lab m q.2.2 (q.2.1:Int)∧q.2.1≤q.1∧∀j:Nat,j < q.1→0≤lb q.2.2 j})) (⟨(0,0,f),by dsimp only;omega,hL0,by dsimp only;omega,fun j hj=>by dsimp only at hj;omega⟩) ?_
  rintro ⟨⟨i,n,f⟩,q1,hLb,q3,q4⟩ junk
  try dsimp only
  dsimp only at q1 hLb q3 q4
  have hfl:=hLb.len
  have hkf:(⟨.own b59 m.places.l.length [],f⟩:OwL Int).ok 1 Jp:=by have:=Ze (f:=Jp) (wd:=1) (b:=b59) (n:=m.places.l.length) (x:=0) (fun _=>rfl) zE;exact OwL.len_ok (fun _=>rfl) this (by simp;exact hfl)
  refine Xak ?_
  refine q_c (fun hc3=>?_) (fun hc3=>?_)
  ·
   have hfg:=U9c (f:=f) (v:=i) za
   refine Xa2 ?_
   refine Xas ?_
   refine Xau ?_
   refine Yoe ?_
   refine Jx (Kk tb ((⟨.own b59 m.places.l.length [],f⟩:OwL Int)) rfl rfl rfl zj zh (fun _=>rfl) zh zb) rfl ?_
   refine Xcj ?_
   refine q_c (fun hc4=>?_) (fun hc4=>?_)
   ·
    refine K8 (Kq (Kc (Jb (Jh ?_))))
    refine Xae ?_
    exact Kf ⟨(i + 1,n,f),by dsimp only;omega,hLb,by dsimp only;omega,fun j hj=>by
    rcases Nat.lt_or_ge j i with h | h
    · exact q4 j h
    · obtain rfl : j = i := by dsimp only at hj; omega
      omega⟩ zm zg zi zqb zx
   have hn0:lb f i < 0:=by omega
   have hD0:=hLb.start (i:=i) za hn0
   have hneg:=Kzd (f:=f) (q:=i) (n:=(n:Int)) za hn0 za
   have hnf:Vye f≤f.length:=List.countP_le_length
   refine qbv ?_
   refine Xau ?_
   refine qaa ?_
   refine Yoe ?_
   refine Ye (Jr tb ((⟨.own b59 m.places.l.length [],f⟩:OwL Int)) ((n:Int)) rfl rfl rfl rfl zj zh (fun _=>rfl) zh zc zb zb) ?_
   rintro v L' R' ⟨rfl,rfl⟩
   refine qaw ?_
   refine qaa ?_
   refine qcx ?_
   rintro v L' R' ⟨b84,rfl,rfl,hR84⟩
   replace hR84:=hR84.symm;subst hR84
   refine qc4 ?_
   refine qa2 ?_
   refine Y4 [9,10,11,12,14,71,72,73,74,75,76,77,78,79,80,81,82,83,84,85,86,87,88,89,90,91,92,93,94,95,96,97,98,99,100,101,102,103,104,105,106,107,108,109,110,111,112,113,114,115,116,117,118,119,120,121,122,123,124] zK [(9,Value.int _ _),(11,Value.slice _ _ _),(71,Value.int _ _)] zg fun tq3=>?_
   have hT0:(⟨.own b84 1 [],[(i:Int)]⟩:OwL Int).ok 1 Jp:=⟨rfl,Nat.le_refl _,by simp only [maxLen];omega,rfl⟩
   refine Uv (L':=(⟨.own b84 1 [],[(i:Int)]⟩:OwL Int).L 3 Jp ++ ((⟨.own b59 m.places.l.length [],f.set i (n:Int)⟩:OwL Int).L 3 Jp ++ (⟨b1,m.cells,28⟩ :: L))) (by simp only [OwL.L,Ow.L,List.flatMap_cons,List.flatMap_nil,Jp,List.append_nil,List.cons_append,List.nil_append]) ?_
   refine q_p [11,12,14,85,86,87,88,89,90,91,92,93,94,95,96,97,98,99,100,101,102,103,104,105,106,107,108,109,110,111,112,113,114,115,116,117,118,119,120,121] ((⟨fun q=>[(11,q.1.2.val)],fun q=>q.1.2.L 3 Jp ++ ((⟨.own b59 m.places.l.length [],q.1.1⟩:OwL Int).L 3 Jp ++ (⟨b1,m.cells,28⟩ :: L)),fun _=>R2,fun q=>2 * Vye q.1.1 + q.1.2.l.length⟩:Head {q:List Int×OwL Int // q.2.ok 1 Jp∧Dfs m f q.1 (n:Int) i q.2.l (fun _=>False)∧2 * Vye q.1 + q.2.l.length≤2 * m.places.l.length})) (⟨(f.set i (n:Int),⟨.own b84 1 [],[(i:Int)]⟩),hT0,hD0,by dsimp only;simp only [List.length_singleton];omega⟩) ?_
   rintro ⟨⟨f1,⟨o1,l1⟩⟩,hT,hD,hN⟩ junk
   try dsimp only
   dsimp only at hT hD hN
   refine qbi ?_
   refine Xap ?_
   refine qa5 ?_
   refine qaf ?_
   refine q_c (fun hc5=>?_) (fun hc5=>?_)
   ·
    have hpos:0 < l1.length:=by
      have:=hc5
      (try simp only [OwL.val] at this)
      omega
    obtain ⟨g,cap,spare,ho⟩:=OwL.own_of hT (i:=0) hpos
    dsimp only at ho
    subst ho
    obtain ⟨l2,x,hlx⟩:∃l2 x,l1=l2 ++ [x]:=⟨l1.dropLast,l1.getLast (by intro h;rw [h] at hpos;simp at hpos),(List.dropLast_concat_getLast _).symm⟩
    subst hlx
    obtain ⟨v,hxv,hv1,hv2⟩:=hD.tds x zo
    subst hxv
    have hl2:(l2 ++ [(v:Int)]).length=l2.length + 1:=by simp
    have hgx:(l2 ++ [(v:Int)])[l2.length]?=some (v:Int):=by simp
    have hTv:(⟨.own g cap spare,l2 ++ [(v:Int)]⟩:OwL Int).val=Value.slice (some ⟨g,0,none⟩) (l2.length + 1) cap:=by simp [OwL.val,Ow.addr,Ow.cap]
    rw [hTv]
    have hT2:=Jhe hT
    have hcap:=hT.2.1
    dsimp only at hcap
    have hvl:v < m.places.l.length:=by
      have h1:=hD.len
      have h2:=V4f (f:=f1) (v:=v) za
      omega
    obtain ⟨y,hy⟩:=Kr (l:=NR.l) (k:=v) za
    have hyx:=hNx v y hy
    have hyI:=InR.arr hNI hy
    have hyl:y.l.length≤m.roads.l.length:=by rw [hyx];exact J0a m v _
    refine J5 (Jb (Kg (Jn (Jh ?_))))
    refine qbm ?_
    refine Xap ?_
    refine qa9 ?_
    refine Jx (Ju tb ((⟨.own g cap spare,l2 ++ [(v:Int)]⟩:OwL Int)) _ rfl rfl ((show _=Value.slice _ _ _ from rfl).trans hTv.symm) rfl zh (i:=l2.length) zk zu) rfl ?_
    refine Jx (Kk tb ((⟨.own g cap spare,l2 ++ [(v:Int)]⟩:OwL Int)) rfl rfl rfl zj zh (fun _=>rfl) zh zb) rfl ?_
    refine Xaf ?_
    refine qbm ?_
    refine Xap ?_
    refine qa9 ?_
    refine Jx (Yca tb rfl rfl rfl rfl (n:=l2.length) zk za) rfl ?_
    refine Xcm ?_
    refine Uv (by rw [Vve]) ?_
    refine Xca ?_
    refine Jx (by first | exact Jf tb rfl rfl rfl rfl zt (i:=v) zk za | exact Jk tb rfl rfl rfl rfl (i:=v) zk za) rfl ?_
    refine qa7 ?_
    refine Xc1 ?_
    refine Y4 [11,12,14,85,86,87,88,89,90,91,92,93,94,95,96,97,98,99,100,101,102,103,104,105,106,107,108,109,110,111,112,113,114,115,116,117,118,119,120,121] zK [(11,Value.slice _ _ _),(102,Value.slice _ _ _),(103,Value.int _ _),(104,Value.int _ _)] zg fun tq4=>?_
    refine q_p [11,14,104,105,106,107,108,109,110,111,112,113,114,115,116,117,118,119,120,121] ((⟨fun q=>[(104,.int .i64 ((q.1.1:Nat):Int)),(11,q.1.2.2.val)],fun q=>q.1.2.2.L 3 Jp ++ ((⟨.own b59 m.places.l.length [],q.1.2.1⟩:OwL Int).L 3 Jp ++ (⟨b1,m.cells,28⟩ :: L)),fun _=>R2,fun q=>y.l.length - q.1.1⟩:Head {q:Nat×List Int×OwL Int // q.1≤y.l.length∧q.2.2.ok 1 Jp∧Dfs m f q.2.1 (n:Int) i q.2.2.l (fun u=>u=v)∧2 * Vye q.2.1 + q.2.2.l.length≤2 * Vye f1 + l2.length∧lb q.2.1 v=(n:Int)∧∀(j:Nat) (e:Int),j < q.1→y.l[j]?=some e→lb q.2.1 e.toNat=(n:Int)})) (⟨(0,f1,⟨.own g cap (Jp (v:Int) ++ spare),l2⟩),by dsimp only;omega,hT2,hD.pop,Nat.le_refl _,hv2,fun j e hj=>by dsimp only at hj;omega⟩) ?_
    rintro ⟨⟨k,f2,⟨o2,l3⟩⟩,w1,w2,w3,w4,w6,w5⟩ junk
    try dsimp only
    dsimp only at w1 w2 w3 w4 w5 w6
    have hfl:=w3.len
    have hkf2:(⟨.own b59 m.places.l.length [],f2⟩:OwL Int).ok 1 Jp:=by have:=Ze (f:=Jp) (wd:=1) (b:=b59) (n:=m.places.l.length) (x:=0) (fun _=>rfl) zE;exact OwL.len_ok (fun _=>rfl) this (by simp;exact hfl)
    refine Xak ?_
    refine q_c (fun hc6=>?_) (fun hc6=>?_)
    ·
     have hyk:=Jw (l:=y.l) (k:=k) 0 za
     obtain ⟨e,he⟩:∃e,e=y.l.getD k 0:=⟨_,rfl⟩
     rw [← he] at hyk
     obtain ⟨u,hue,hst⟩:=Veb hok m.roads.l.length (Nat.le_refl _) e (by rw [← hyx];exact List.mem_of_getElem? hyk)
     subst hue
     have hul:=(hst.lt hok).2
     have hfu:=U9c (f:=f2) (v:=u) za
     refine qbb ?_
     refine Jx zB rfl ?_
     refine qa7 ?_
     refine Xaf ?_
     refine Xau ?_
     refine J8f ?_
     refine Jx (Kk tb ((⟨.own b59 m.places.l.length [],f2⟩:OwL Int)) rfl rfl rfl zj zh (fun _=>rfl) zh zb) rfl ?_
     refine Xbo ?_
     refine q_c (fun hc7=>?_) (fun hc7=>?_)
     ·
      refine qae ?_
      refine Xau ?_
      refine qaa ?_
      refine J8f ?_
      refine Ye (Jr tb ((⟨.own b59 m.places.l.length [],f2⟩:OwL Int)) ((n:Int)) rfl rfl rfl rfl zj zh (fun _=>rfl) zh zc zb zb) ?_
      rintro v L' R' ⟨rfl,rfl⟩
      refine J6 (Jb (Jh ?_))
      refine Xau ?_
      refine qcx ?_
      rintro v L' R' ⟨b119,rfl,rfl,hR119⟩
      replace hR119:=hR119.symm;subst hR119
      refine Y9 (J8 (f:=Jp) (a:=(u:Int)) tb rfl rfl rfl rfl (w2) zj zsb rfl zy) rfl ?_
      rintro v L' R' ⟨o120,rfl,hok120,rfl,rfl⟩
      refine qc4 ?_
      refine Xa8 ?_
      have hc7':lb f2 u < 0:=by simpa using hc7
      have hnn:=Kzd (f:=f2) (q:=u) (n:=(n:Int)) za hc7' za
      exact Kf ⟨(k + 1,f2.set u (n:Int),⟨o120,l3 ++ [(u:Int)]⟩),by dsimp only;omega,hok120,w3.push hLb ⟨hv1,w6⟩ hst hul hc7',by dsimp only;rw [List.length_append,List.length_singleton];omega,by dsimp only;rw [Kva za];split;rfl;exact w6,fun j e hj hje=>by
        dsimp only at hj ⊢
        rw [Kva za]
        split
        · rfl
        · rename_i hne
          rcases Nat.lt_or_ge j k with h | h
          · exact w5 j e h hje
          · obtain rfl : j = k := by omega
            rw [hyk] at hje
            cases hje
            exact absurd za hne⟩ zm zg zi zqb zx
     refine Xax ?_
     have hc7':¬ lb f2 u < 0:=by simpa using hc7
     exact Kf ⟨(k + 1,f2,⟨o2,l3⟩),by dsimp only;omega,w2,w3,w4,w6,fun j e hj hje=>by
       dsimp only at hj ⊢
       rcases Nat.lt_or_ge j k with h | h
       · exact w5 j e h hje
       · obtain rfl : j = k := by omega
         rw [hyk] at hje
         cases hje
         rw [Int.toNat_natCast]
         rcases w3.new u (w3.next_lb hLb hv1 hst) with h1 | h1
         · omega
         · exact h1.1⟩ zm zg zi zqb zx
    obtain rfl:k=y.l.length:=by omega
    have hD2:=w3.through (fun u hs=>by
      have h1:=Z6c hok hs
      rw [← hyx] at h1
      obtain ⟨j,hj⟩:=List.mem_iff_getElem?.1 h1
      exact w5 j u (List.getElem?_eq_some_iff.1 hj).1 hj)
    refine K8 (Kq (Uf (Kc (Ji ?_))))
    exact q_k ⟨(f2,⟨o2,l3⟩),w2,hD2,by dsimp only;omega⟩
   have hl0:l1=[]:=List.length_eq_zero_iff.1 (by
     have:=hc5
     (try simp only [OwL.val] at this)
     omega)
   subst hl0
   have hDn:=hD.done hLb
   refine K8 (Kq (Uf (Kc (Jb (Jh ?_)))))
   refine Xcn ?_
   refine qad ?_
   refine Xa8 ?_
   exact Kf ⟨(i + 1,n + 1,f1),by dsimp only;omega,(show ((n + 1:Nat):Int)=(n:Int) + 1 from by omega) ▸ hDn,by dsimp only;omega,fun j hj=>by
   dsimp only at hj ⊢
   rcases Nat.lt_or_ge j i with h | h
   · have := q4 j h
     rw [hD.old j this];exact this
   · obtain rfl : j = i := by omega
     rw [hD.start.1];omega⟩ zm zg zi zqb zx
  obtain rfl:i=m.places.l.length:=by omega
  refine qbk ?_
  refine Xau ?_
  refine qc4 ?_
  refine Xah ?_
  refine q_r (L':=(⟨.own b59 m.places.l.length [],f⟩:OwL Int).L 3 Jp ++ L) (R':=R2) zPc ?_
  exact ⟨(⟨.own b59 m.places.l.length [],f⟩:OwL Int),n,Via NR :: S2,congrArg (fun w=>Value.tuple #[w,.int .i64 (n:Int)]) (Us hfl),hkf,hLb.part (fun v hv=>q4 v hv) za,rfl,hR2.symm⟩
end
end Go.Proofs.YtchfclmokpbldaaGreat
