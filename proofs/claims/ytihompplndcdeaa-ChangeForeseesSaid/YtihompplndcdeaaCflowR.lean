import Derived.Test.YtihompplndcdeaaPart
import Derived.Test.YtihompplndcdeaaCircS
import Derived.Test.YtihompplndcdeaaFits
set_option linter.unusedVariables false
set_option linter.unusedSimpArgs false
section
/-
  plan.Valid, plan.CutOff, certify.Lost. By an AI agent; no person has read it.
-/
namespace Go.Proofs.Ytihompplndcdeaa
open Go.Aw Go
set_option maxRecDepth 20000
attribute [local irreducible] CJ LJ DJ Tri YV Gives Jdn Jaw Jbk Jdo RV Jay OwL.L
section
variable {A9 B9:Prop}
theorem J59 (a:A9) (h:A9→B9:=by exact Jax (Jao tb (p) _ rfl rfl rfl rfl (by assumption) (i:=k) (by first | rfl | omega | (simp;omega)) (by first | omega | (dsimp only;omega) | (dsimp only;rw [List.length_set];omega) | (dsimp only;simp only [List.length_set];omega))) rfl):B9:=h a
theorem J52 (a:A9) (h:A9→B9:=by exact Jax (Jbe tb (p) rfl rfl rfl (by repeat (first | apply OSeg.cons | exact OSeg.here | exact OSeg.last | exact OSeg.at (by assumption) | apply OSeg.app)) (by assumption) (fun _=>rfl) (by assumption) (by rfl)) rfl):B9:=h a
theorem J5z (a:A9) (h:A9→B9:=by exact Jax (Jao tb ((⟨.own b19 N [],fr⟩:OwL Bool)) _ rfl rfl ((show _=Value.slice _ _ _ from rfl).trans (Jei hfl)) rfl (by assumption) (i:=(lb p.l k).toNat) (by first | rfl | omega | (simp;omega)) (by first | omega | (dsimp only;omega) | (dsimp only;rw [List.length_set];omega) | (dsimp only;simp only [List.length_set];omega))) rfl):B9:=h a
end
theorem Jsc (m:XMine) (L:List Blk) (R:List Sl) (hm:MineR m R):
    Tri Try.prog 74 [m.val].toArray L R (fun v L' R'=>v=.bool (decide (Jbs m=0))∧L=L'∧R=R'):=by
  refine Jae 6 Try.call74 Try.func74 rfl rfl rfl ?_
  refine Xaj ?_
  intro b1
  refine Xct ?_
  refine qbe ?_
  refine q_l rfl (Jkm m _ _ hm) ?_
  refine qbn ?_
  refine Xa9 ?_
  refine q_b (L':=L) (R':=R) ?_
  exact ⟨rfl,rfl,rfl⟩
structure FrOk (m:XMine) (f:List Int) (fr:List Bool) (N k:Nat):Prop where
  len:fr.length=N
  iff:∀c:Nat,fr.getD c false=true↔∃j:Nat,j < k∧(m.places.l.getD j default).surface=true∧lb f j=(c:Int)
theorem FrOk.zero (m:XMine) (f:List Int) (N:Nat):FrOk m f (List.replicate N false) N 0:=by
  refine ⟨by simp,fun c=>⟨fun h=>?_,fun ⟨j,hj,_⟩=>by omega⟩⟩
  rw [List.getD_eq_getElem?_getD,List.getElem?_replicate] at h
  split at h <;> simp at h
theorem FrOk.stay {m:XMine} {f:List Int} {fr:List Bool} {N k:Nat} (h:FrOk m f fr N k) (hs:¬ (m.places.l.getD k default).surface=true):FrOk m f fr N (k + 1):=by
  refine ⟨h.len,fun c=>(h.iff c).trans ⟨fun ⟨j,h1,h2,h3⟩=>⟨j,by omega,h2,h3⟩,fun ⟨j,h1,h2,h3⟩=>?_⟩⟩
  rcases Nat.lt_or_ge j k with h4 | h4
  · exact ⟨j,h4,h2,h3⟩
  · obtain rfl : j = k := by omega
    exact absurd h2 hs
theorem FrOk.next {m:XMine} {f:List Int} {fr:List Bool} {N k:Nat} (h:FrOk m f fr N k) (hs:(m.places.l.getD k default).surface=true) (h0:0≤lb f k∧lb f k < (N:Int)):FrOk m f (fr.set (lb f k).toNat true) N (k + 1):=by
  have hl:=h.len
  refine ⟨by simp [hl],fun c=>?_⟩
  rw [Jic (by omega)]
  split
  · rename_i e
    exact ⟨fun _=>⟨k,by omega,hs,by omega⟩,fun _=>rfl⟩
  · rename_i e
    refine (h.iff c).trans ⟨fun ⟨j,h1,h2,h3⟩=>⟨j,by omega,h2,h3⟩,fun ⟨j,h1,h2,h3⟩=>?_⟩
    rcases Nat.lt_or_ge j k with h4 | h4
    · exact ⟨j,h4,h2,h3⟩
    · obtain rfl : j = k := by omega
      exact absurd (by omega) e
def Jrz (f:List Int) (fr:List Bool) (n:Nat):List Bool:=(List.range n).map fun i=>fr.getD (lb f i).toNat false
theorem Jp1 {f:List Int} {fr:List Bool} {n i:Nat} (h:i < n):(Jrz f fr n).getD i false=fr.getD (lb f i).toNat false:=by
  rw [List.getD_eq_getElem?_getD,Jrz,List.getElem?_map,List.getElem?_range h];rfl
theorem Jv3 {m:XMine} {j:Nat} (h:j < m.places.l.length):(surf m).getD j false=(m.places.l.getD j default).surface:=by
  rw [List.getD_eq_getElem?_getD,surf,List.getElem?_map,Jai (l:=m.places.l) (k:=j) default h];rfl
theorem FrOk.airy {m:XMine} {f:List Int} {fr:List Bool} {N:Nat} (h:FrOk m f fr N m.places.l.length) (hp:PartIs m f (N:Int)):AiryIs m (Jrz f fr m.places.l.length):=by
  have hsl:(surf m).length=m.places.l.length:=by simp [surf]
  refine ⟨by simp [Jrz,hsl],fun i hi=>?_⟩
  have hi':i < m.places.l.length:=by omega
  have hr:=hp.rng i hi'
  rw [Jp1 hi',h.iff]
  refine ⟨fun ⟨j,h1,h2,h3⟩=>⟨j,by omega,by rw [Jv3 h1];exact h2,(hp.iff j i h1 hi').1 (by omega)⟩,fun ⟨j,h1,h2,h3⟩=>?_⟩
  have h1':j < m.places.l.length:=by omega
  rw [Jv3 h1'] at h2
  exact ⟨j,h1',h2,by rw [(hp.iff j i h1' hi').2 h3];omega⟩
def Jff (A : List Bool) : Nat → List Int
  | 0=>[]
  | k + 1=>if A.getD k false=true then Jff A k else Jff A k ++ [(k:Int)]
theorem Jfp (A : List Bool) : ∀ k, (Jff A k).length ≤ k
  | 0=>by simp [Jff]
  | k + 1=>by
    have:=Jfp A k
    rw [Jff]
    split
    · omega
    · simp only [List.length_append,List.length_singleton];omega
theorem Jlc {A : List Bool} {e : Int} : ∀ {k : Nat}, e ∈ Jff A k ↔ ∃ i : Nat, e = (i : Int) ∧ i < k ∧ ¬ A.getD i false = true
  | 0=>⟨fun h=>(by simp [Jff] at h),fun ⟨i,_,h,_⟩=>(by omega)⟩
  | k + 1=>by
    have ih:=Jlc (A:=A) (e:=e) (k:=k)
    rw [Jff]
    split
    · rename_i h
      refine ih.trans ⟨fun ⟨i,h1,h2,h3⟩=>⟨i,h1,by omega,h3⟩,fun ⟨i,h1,h2,h3⟩=>⟨i,h1,?_,h3⟩⟩
      rcases Nat.lt_or_ge i k with h4 | h4
      · exact h4
      · obtain rfl : i = k := by omega
        exact absurd h h3
    · rename_i h
      rw [List.mem_append,ih,List.mem_singleton]
      refine ⟨fun h0=>?_,fun ⟨i,h1,h2,h3⟩=>?_⟩
      · rcases h0 with ⟨i, h1, h2, h3⟩ | h0
        · exact ⟨i,h1,by omega,h3⟩
        · exact ⟨k,h0,by omega,h⟩
      · rcases Nat.lt_or_ge i k with h4 | h4
        · exact .inl ⟨i,h1,h4,h3⟩
        · obtain rfl : i = k := by omega
          exact .inr h1
theorem Jk2 (m:XMine) (L:List Blk) (R:List Sl) (hm:MineR m R) (hok:MineOk m) (hv:Jbs m=0):
    Tri Try.prog 55 [m.val].toArray L R (fun w L' R'=>∃(p:OwL Int) (A:List Bool) (S:List Sl),w=p.val∧p.ok 1 Jad∧AiryIs m A∧p.l=Jff A m.places.l.length∧p.L 3 Jad ++ L=L'∧S ++ R=R'):=by
  have hmp:=hm.places
  have hnp:=hok.places
  refine Jae 57 Try.call55 Try.func55 rfl rfl rfl ?_
  refine Xaj ?_
  intro b1
  refine Xbo ?_
  refine qbe ?_
  refine q_l rfl (Jsc m _ _ hm) ?_
  refine Xbu ?_
  refine q_c (fun hc0=>?_) (fun hc0=>?_)
  ·
   refine Xbf ?_
   refine qbh ?_
   refine q_r (L':=L) (R':=R) (Jd4 rfl (Jal (show _=Value.slice _ _ _ from rfl))) ?_
   exact absurd hv (by simpa using hc0)
  refine qbv ?_
  refine qbe ?_
  refine Jaq rfl (J05 m _ _ hm hok) rfl ?_
  rintro v L' R' ⟨p,N,S,rfl,hpk,hP,rfl,rfl⟩
  have hpl:=hP.len
  have hpn:=hP.n
  have hmp2:InR (psl m.places) (S ++ R):=hmp.mono fun r h=>Jab (by simp [h])
  refine Jax (Jap rfl) rfl ?_
  refine Xbw ?_
  refine Xax ?_
  refine qc7 ?_
  rintro v L' R' ⟨b19,rfl,rfl,hR19⟩
  replace hR19:=hR19.symm;subst hR19
  refine Xbo ?_
  refine Xbm ?_
  refine Jag [(1,Value.pointer _),(3,Value.slice _ _ _),(5,Value.slice _ _ _),(21,Value.slice _ _ _),(22,Value.int _ _),(23,Value.int _ _)] (by repeat' (first | exact trivial | refine And.intro rfl ?_)) fun tq0=>?_
  refine Jlf (Jgh (f:=blc) (x:=false) rfl _) ?_
  refine q_p [6,7,23,24,25,26,27,28,29,30,31,32,33,34,35,36] ((⟨fun q=>[(23,.int .i64 ((q.1.1:Nat):Int))],fun q=>(⟨.own b19 N [],q.1.2⟩:OwL Bool).L 4 blc ++ (p.L 3 Jad ++ (⟨b1,m.cells,28⟩ :: L)),fun _=>S ++ R,fun q=>m.places.l.length - q.1.1⟩:Head {q:Nat×List Bool // q.1≤m.places.l.length∧FrOk m p.l q.2 N q.1})) (⟨(0,List.replicate N false),by dsimp only;omega,FrOk.zero m p.l N⟩) ?_
  rintro ⟨⟨k,fr⟩,q1,q2⟩ junk
  try dsimp only
  dsimp only at q1 q2
  have hfl:=q2.len
  have hkf:(⟨.own b19 N [],fr⟩:OwL Bool).ok 1 blc:=by have:=Jfa (f:=blc) (wd:=1) (b:=b19) (n:=N) (x:=false) Jid (by simp only [maxLen];omega);exact OwL.len_ok Jid this (by simp;exact hfl)
  refine Xar ?_
  refine q_c (fun hc1=>?_) (fun hc1=>?_)
  ·
   have hpg:=Jai (l:=m.places.l) (k:=k) default (by omega)
   have hlg:=Jsy (f:=p.l) (v:=k) (by omega)
   have hrk:=hP.rng k (by omega)
   have hfg:=Jai (l:=fr) (k:=(lb p.l k).toNat) false (by omega)
   refine Xa8 ?_
   refine qa3 ?_
   refine Xcu ?_
   intro b7
   refine qad ?_
   refine Xcd ?_
   refine qaf ?_
   refine q_c (fun hc2=>?_) (fun hc2=>?_)
   ·
    refine qay ?_
    refine qbm ?_
    refine Xal ?_
    refine J59 ?_
    refine J52 ?_
    refine J5z ?_
    refine Jhw (Jav tb ((⟨.own b19 N [],fr⟩:OwL Bool)) (true) rfl rfl rfl rfl (by repeat (first | apply OSeg.cons | exact OSeg.here | exact OSeg.last | exact OSeg.at (by assumption) | apply OSeg.app)) (by assumption) (fun _=>rfl) (by assumption) (by decide) (by rfl) (by rfl)) ?_
    rintro v L' R' ⟨rfl,rfl⟩
    refine Xa5 ?_
    exact q_k ⟨(k + 1,_),by dsimp only;omega,q2.next (by simpa using hc2) hrk⟩
   refine Xay ?_
   exact q_k ⟨(k + 1,fr),by dsimp only;omega,q2.stay (by simpa using hc2)⟩
  obtain rfl:k=m.places.l.length:=by omega
  have hA:=q2.airy hP
  obtain ⟨A,hAe⟩:∃A,A=Jrz p.l fr m.places.l.length:=⟨_,rfl⟩
  rw [← hAe] at hA
  refine qbk ?_
  refine Xbo ?_
  refine Xbm ?_
  refine Jag [(3,Value.slice _ _ _),(5,Value.slice _ _ _),(8,Value.slice _ _ _),(39,Value.int _ _),(40,Value.int _ _)] (by repeat' (first | exact trivial | refine And.intro rfl ?_)) fun tq1=>?_
  refine Jcc [8,9,40,41,42,43,44,45,46,47,48,49,50,51,52,53,54,55] ((⟨fun q=>[(40,.int .i64 ((q.1.1:Nat):Int)),(8,q.1.2.val)],fun q=>q.1.2.L 3 Jad ++ ((⟨.own b19 N [],fr⟩:OwL Bool).L 4 blc ++ (p.L 3 Jad ++ (⟨b1,m.cells,28⟩ :: L))),fun _=>S ++ R,fun q=>m.places.l.length - q.1.1⟩:Head {q:Nat×OwL Int // q.1≤m.places.l.length∧q.2.ok 1 Jad∧q.2.l=Jff A q.1})) (⟨(0,OwL.nil),by dsimp only;omega,OwL.nil_ok,rfl⟩) (by repeat' (first | exact trivial | refine And.intro rfl ?_)) (by dsimp only;rw [Jc7,List.nil_append];exact List.Sublist.refl _) (Jac _) ?_
  rintro ⟨⟨k,q⟩,w1,w2,w3⟩ junk
  try dsimp only
  dsimp only at w1 w2 w3
  refine Xar ?_
  refine q_c (fun hc3=>?_) (fun hc3=>?_)
  ·
   have hlg:=Jsy (f:=p.l) (v:=k) (by omega)
   have hrk:=hP.rng k (by omega)
   have hfg:=Jai (l:=fr) (k:=(lb p.l k).toNat) false (by omega)
   have hAk:A.getD k false=fr.getD (lb p.l k).toNat false:=by rw [hAe];exact Jp1 (by omega)
   have hql:=Jfp A k
   rw [← w3] at hql
   refine Xa8 ?_
   refine Xai ?_
   refine qbm ?_
   refine Xal ?_
   refine J59 ?_
   refine J52 ?_
   refine J5z ?_
   refine Jax (Jbe tb ((⟨.own b19 N [],fr⟩:OwL Bool)) rfl rfl rfl (by repeat (first | apply OSeg.cons | exact OSeg.here | exact OSeg.last | exact OSeg.at (by assumption) | apply OSeg.app)) (by assumption) (fun _=>rfl) (by assumption) (by rfl)) rfl ?_
   refine Xbu ?_
   refine q_c (fun hc4=>?_) (fun hc4=>?_)
   ·
    refine Xcg ?_
    refine qcx ?_
    rintro v L' R' ⟨b53,rfl,rfl,hR53⟩
    replace hR53:=hR53.symm;subst hR53
    refine Jh0 (Jam (f:=Jad) (a:=(k:Int)) tb rfl rfl rfl rfl (w2) (by repeat (first | apply OSeg.cons | exact OSeg.here | exact OSeg.last | exact OSeg.at (by assumption) | apply OSeg.app)) (Ja1 (by repeat (first | exact zi0 | apply zi1 | apply zi2)) rfl rfl) rfl (by first | omega | (simp only [List.length_cons,List.length_nil,List.length_append];omega))) rfl ?_
    rintro v L' R' ⟨o54,rfl,hok54,rfl,rfl⟩
    refine Xcz ?_
    exact q_k ⟨(k + 1,⟨o54,q.l ++ [(k:Int)]⟩),by dsimp only;omega,hok54,by dsimp only;rw [Jff,if_neg (by rw [hAk];simpa using hc4),w3]⟩
   refine Xay ?_
   exact q_k ⟨(k + 1,q),by dsimp only;omega,w2,by dsimp only;rw [Jff,if_pos (by rw [hAk];simpa using hc4),w3]⟩
  obtain rfl:k=m.places.l.length:=by omega
  refine Xco ?_
  refine q_r (L':=q.L 3 Jad ++ L) (R':=S ++ R) (Jd4 rfl (Jal (show _=Value.slice _ _ _ from rfl))) ?_
  exact ⟨q,A,S,rfl,w2,hA,w3,rfl,rfl⟩
end Go.Proofs.Ytihompplndcdeaa
end
section
/-
  The reference's search for connected places. By an AI agent; no person has read it.
-/
namespace Go.Proofs.Ytihompplndcdeaa
open Go.Aw Go
set_option maxRecDepth 20000
attribute [local irreducible] CJ LJ DJ Tri YV Gives Jdn Jaw Jbk Jdo RV Jay OwL.L
end Go.Proofs.Ytihompplndcdeaa
end
section
/-
  certify.Lost, and the reference's fixed places. By an AI agent; no person has read it.
-/
namespace Go.Proofs.Ytihompplndcdeaa
open Go.Aw Go
set_option maxRecDepth 20000
attribute [local irreducible] CJ LJ DJ Tri YV Gives Jdn Jaw Jbk Jdo RV Jay OwL.L
theorem AiryIs.length {m:XMine} {A:List Bool} (h:AiryIs m A):A.length=m.places.l.length:=by rw [h.len];simp [surf]
theorem J0v {m:XMine} {A l:List Bool} (hA:AiryIs m A) (hl:l.length=m.places.l.length) (h:∀i:Nat,l.getD i false=true↔(i:Int)∈Jff A m.places.l.length):l=A.map (!·):=by
  have hAl:=hA.length
  refine List.ext_getElem? fun i=>?_
  rcases Nat.lt_or_ge i m.places.l.length with hi | hi
  · rw [Jai (l := l) (k := i) false (by omega), List.getElem?_map, Jai (l := A) (k := i) false (by omega)]
    have h1:=h i
    rw [Jlc] at h1
    have h2:l.getD i false=true↔¬ A.getD i false=true:=h1.trans ⟨fun ⟨j,e,_,h3⟩=>by rw [show i=j from by omega];exact h3,fun h3=>⟨i,rfl,hi,h3⟩⟩
    simp only [Option.map_some,Option.some.injEq]
    cases ha:A.getD i false <;> cases hb:l.getD i false <;> simp_all
  · rw [List.getElem?_eq_none (by omega),List.getElem?_eq_none (by simp;omega)]
theorem Jme (m:XMine) (L:List Blk) (R:List Sl) (hm:MineR m R) (hok:MineOk m) (hv:Jbs m=0):
    Tri Try.prog 62 [m.val].toArray L R (fun w L' R'=>∃(p:OwL Bool) (A:List Bool) (S:List Sl),w=p.val∧p.ok 1 blc∧AiryIs m A∧p.l=A.map (!·)∧p.L 4 blc ++ L=L'∧S ++ R=R'):=by
  have hmp:=hm.places
  have hnp:=hok.places
  refine Jae 22 Try.call62 Try.func62 rfl rfl rfl ?_
  refine Xaj ?_
  intro b1
  refine Xcf ?_
  refine Xab ?_
  refine qc7 ?_
  rintro v L' R' ⟨b9,rfl,rfl,hR9⟩
  replace hR9:=hR9.symm;subst hR9
  refine qc4 ?_
  refine qco ?_
  refine Jlf (Jgh (f:=blc) (x:=false) rfl _) ?_
  refine qay ?_
  refine qbe ?_
  refine Jaq rfl (Jk2 m _ _ hm hok hv) rfl ?_
  rintro v L' R' ⟨p,A,S,rfl,hpk,hA,hpl,rfl,rfl⟩
  have hpn:=Jfp A m.places.l.length
  rw [← hpl] at hpn
  refine qag ?_
  refine Xas ?_
  refine Jag [(3,Value.slice _ _ _),(11,Value.slice _ _ _),(12,Value.int _ _),(13,Value.int _ _)] (by repeat' (first | exact trivial | refine And.intro rfl ?_)) fun tq0=>?_
  refine q_p [5,13,14,15,16,17,18,19,20] ((⟨fun q=>[(13,.int .i64 ((q.1.1:Nat):Int))],fun q=>p.L 3 Jad ++ ((⟨.own b9 m.places.l.length [],q.1.2⟩:OwL Bool).L 4 blc ++ (⟨b1,m.cells,28⟩ :: L)),fun _=>S ++ R,fun q=>p.l.length - q.1.1⟩:Head {q:Nat×List Bool // q.1≤p.l.length∧q.2.length=m.places.l.length∧∀i:Nat,q.2.getD i false=true↔∃j:Nat,j < q.1∧p.l[j]?=some (i:Int)})) (⟨(0,List.replicate m.places.l.length false),by dsimp only;omega,by simp,fun i=>⟨fun h=>(by simp [List.getD_eq_getElem?_getD,List.getElem?_replicate] at h;split at h <;> simp at h),fun ⟨j,hj,_⟩=>(by omega)⟩⟩) ?_
  rintro ⟨⟨k,l⟩,q1,hll,q3⟩ junk
  try dsimp only
  dsimp only at q1 hll q3
  have hkf:(⟨.own b9 m.places.l.length [],l⟩:OwL Bool).ok 1 blc:=by have:=Jfa (f:=blc) (wd:=1) (b:=b9) (n:=m.places.l.length) (x:=false) Jid (by simp only [maxLen];omega);exact OwL.len_ok Jid this (by simp;exact hll)
  refine Xar ?_
  refine q_c (fun hc0=>?_) (fun hc0=>?_)
  ·
   have hg:=Jai (l:=p.l) (k:=k) 0 (by omega)
   have hmem:=List.mem_of_getElem? hg
   rw [hpl] at hmem
   obtain ⟨u,hve,hvl,hvA⟩:=Jlc.1 hmem
   rw [← hpl] at hve
   rw [hve] at hg
   have hlg:=Jai (l:=l) (k:=u) false (by omega)
   refine qbb ?_
   refine Jax (Jao tb (p) _ rfl rfl rfl rfl (by assumption) (i:=k) (by first | rfl | omega | (simp;omega)) (by first | omega | (dsimp only;omega) | (dsimp only;rw [List.length_set];omega) | (dsimp only;simp only [List.length_set];omega))) rfl ?_
   refine Jax (Jbe tb (p) rfl rfl rfl (by repeat (first | apply OSeg.cons | exact OSeg.here | exact OSeg.last | exact OSeg.at (by assumption) | apply OSeg.app)) (by assumption) (fun _=>rfl) (by assumption) (by rfl)) rfl ?_
   refine qad ?_
   refine Jbr (Jaa (Jaj ?_))
   refine Xal ?_
   refine Jax (Jao tb ((⟨.own b9 m.places.l.length [],l⟩:OwL Bool)) _ rfl rfl ((show _=Value.slice _ _ _ from rfl).trans (Jei hll)) rfl (by assumption) (i:=u) (by first | rfl | omega | (simp;omega)) (by first | omega | (dsimp only;omega) | (dsimp only;rw [List.length_set];omega) | (dsimp only;simp only [List.length_set];omega))) rfl ?_
   refine Jhw (Jav tb ((⟨.own b9 m.places.l.length [],l⟩:OwL Bool)) (true) rfl rfl rfl rfl (by repeat (first | apply OSeg.cons | exact OSeg.here | exact OSeg.last | exact OSeg.at (by assumption) | apply OSeg.app)) (by assumption) (fun _=>rfl) (by assumption) (by decide) (by rfl) (by rfl)) ?_
   rintro v L' R' ⟨rfl,rfl⟩
   refine Xa5 ?_
   exact Jau ⟨(k + 1,l.set u true),by dsimp only;omega,by simp;exact hll,fun i=>by
   dsimp only
   rw [Jic (by omega)]
   split
   · rename_i e
     exact ⟨fun _=>⟨k,by omega,by rw [e];exact hg⟩,fun _=>rfl⟩
   · rename_i e
     refine (q3 i).trans ⟨fun ⟨j,h1,h2⟩=>⟨j,by omega,h2⟩,fun ⟨j,h1,h2⟩=>?_⟩
     rcases Nat.lt_or_ge j k with h4 | h4
     · exact ⟨j,h4,h2⟩
     · obtain rfl : j = k := by omega
       rw [hg] at h2
       exact absurd (by have:=Option.some.inj h2;omega) e⟩ (by repeat (first | exact Off.refl | apply Off.upd rfl | apply Off.havoc rfl | apply Off.updL rfl | apply Off.left rfl)) (by repeat' (first | exact trivial | refine And.intro rfl ?_)) (by repeat (first | exact zs0 _ | exact zs1 _ | apply zs2 | apply zs3 | apply zs4 | apply zs5)) (Jac _) (by dsimp only;omega)
  obtain rfl:k=p.l.length:=by omega
  have hlm:=J0v hA hll (fun i=>by
    rw [q3 i,← hpl,List.mem_iff_getElem?]
    exact ⟨fun ⟨j,_,h⟩=>⟨j,h⟩,fun ⟨j,h⟩=>⟨j,(List.getElem?_eq_some_iff.1 h).1,h⟩⟩)
  refine Xco ?_
  refine q_r (L':=(⟨.own b9 m.places.l.length [],l⟩:OwL Bool).L 4 blc ++ L) (R':=S ++ R) (Jd4 rfl (Jal (show _=Value.slice _ _ _ from rfl))) ?_
  exact ⟨(⟨.own b9 m.places.l.length [],l⟩:OwL Bool),A,S,Jei hll,hkf,hA,hlm,rfl,rfl⟩
end Go.Proofs.Ytihompplndcdeaa
end
section
/-
  Bounds, what certify.Check answers, and the reference's check. By an AI agent; no person has read it.
-/
namespace Go.Proofs.Ytihompplndcdeaa
open Go.Aw Go
set_option maxRecDepth 20000
attribute [local irreducible] CJ LJ DJ Tri YV Gives Jdn Jaw Jbk Jdo RV Jay OwL.L
structure XBounds where
  low:Arr Int
  high:Arr Int
def XBounds.cells (s:XBounds):List Value:=[s.low.val,s.high.val]
abbrev XBounds.val (s:XBounds):Value:=.agg #[s.low.val,s.high.val]
structure BoundsR (s:XBounds) (R:List Sl):Prop where
  low:InR (isl s.low) R
  high:InR (isl s.high) R
def Jcq (a:XAir) (s:XSetting) (b:XBounds) (A:List Bool) (i:Nat):Option Int:=
  if (!(A.getD i false) || (a.mine.places.l.getD i default).surface)=true then (if b.low.l.getD i 0≠0∨b.high.l.getD i 0≠0 then some 12 else none)
  else (if Jph a s b.high.l (i:Int) < 0∨0 < Jgp a s b.low.l (i:Int) then some 12 else none)
def Jd1 (a:XAir) (s:XSetting) (b:XBounds) (A:List Bool):Int:=
  if Jat a≠0 then Jat a
  else if Jdl a s=false then 21
  else if b.low.l.length≠a.mine.places.l.length∨b.high.l.length≠a.mine.places.l.length then 11
  else if (b.low.l.findSome? Jb5).isSome=true∨(b.high.l.findSome? Jb5).isSome=true then 1
  else ((List.range a.mine.places.l.length).findSome? (Jcq a s b A)).getD 0
end Go.Proofs.Ytihompplndcdeaa
end
section
/-
  certify.Check. By an AI agent; no person has read it.
-/
namespace Go.Proofs.Ytihompplndcdeaa
open Go.Aw Go
set_option maxRecDepth 20000
attribute [local irreducible] CJ LJ DJ Tri YV Gives Jdn Jaw Jbk Jdo RV Jay OwL.L
section
variable {A9 B9:Prop}
theorem J2d (a:A9) (h:A9→B9:=by exact Jax (by first | exact Jaf tb rfl rfl rfl rfl (by first | assumption | exact zr (by simp)) (i:=k2) (by first | rfl | omega | (simp;omega)) (by omega) | exact Jah tb rfl rfl rfl rfl (i:=k2) (by first | rfl | omega | (simp;omega)) (by omega)) rfl):B9:=h a
theorem J37 (h:B9:=by exact ⟨[Jiy n.pipes,Jh1 n.at_] ++ S,by rw [hck,Jfc hp2 (by omega) (hnb.trans (if_pos (by omega)))];rfl,rfl,rfl⟩):B9:=h
theorem J5j (a:A9) (h:A9→B9:=by exact Jbx (by first | exact Jaf tb rfl rfl rfl rfl (by first | assumption | exact zr (by simp)) (i:=k0) (by first | rfl | omega | (simp;omega)) (by omega) | exact Jah tb rfl rfl rfl rfl (i:=k0) (by first | rfl | omega | (simp;omega)) (by omega)) rfl rfl rfl):B9:=h a
end
def Jhm (b:XBounds) (i:Nat):Option Int:=[b.low.l.getD i 0,b.high.l.getD i 0].findSome? Jb5
theorem Jg4 {a:XAir} (h:Jat a=0):Jbs a.mine=0:=by
  unfold Jat at h
  split at h
  · rename_i h1;exact absurd h h1
  · rename_i h1;omega
theorem Jq3 {b:XBounds} {n:Nat} (h1:b.low.l.length=n) (h2:b.high.l.length=n) (h:(List.range n).findSome? (Jhm b)=none):b.low.l.findSome? Jb5=none∧b.high.l.findSome? Jb5=none:=by
  rw [List.findSome?_eq_none_iff] at h
  have h':∀i:Nat,i < n→Jb5 (b.low.l.getD i 0)=none∧Jb5 (b.high.l.getD i 0)=none:=fun i hi=>by
    have:=h i (List.mem_range.2 hi)
    rw [Jhm,List.findSome?_eq_none_iff] at this
    exact ⟨this _ (by simp),this _ (by simp)⟩
  constructor
  · rw [List.findSome?_eq_none_iff]
    intro x hx
    obtain ⟨i,hi⟩:=List.mem_iff_getElem?.1 hx
    have hl:=(List.getElem?_eq_some_iff.1 hi).1
    rw [← (show b.low.l.getD i 0=x from getD_some hi)]
    exact (h' i (by omega)).1
  · rw [List.findSome?_eq_none_iff]
    intro x hx
    obtain ⟨i,hi⟩:=List.mem_iff_getElem?.1 hx
    have hl:=(List.getElem?_eq_some_iff.1 hi).1
    rw [← (show b.high.l.getD i 0=x from getD_some hi)]
    exact (h' i (by omega)).2
theorem Jp8 {b:XBounds} {n k:Nat} (h1:b.low.l.length=n) (h2:b.high.l.length=n) (hk:k < n) {e:Int} (h:Jhm b k=some e):(b.low.l.findSome? Jb5).isSome=true∨(b.high.l.findSome? Jb5).isSome=true:=by
  cases e1:b.low.l.findSome? Jb5 with
  | some x=>exact .inl rfl
  | none=>
    cases e2:b.high.l.findSome? Jb5 with
    | some x=>exact .inr rfl
    | none=>
      rw [List.findSome?_eq_none_iff] at e1 e2
      rw [Jhm] at h
      have:[b.low.l.getD k 0,b.high.l.getD k 0].findSome? Jb5=none:=by
        rw [List.findSome?_eq_none_iff]
        intro x hx
        simp only [List.mem_cons,List.not_mem_nil,or_false] at hx
        rcases hx with rfl | rfl
        · exact e1 _ (List.mem_of_getElem? (Jai (l:=b.low.l) (k:=k) 0 (by omega)))
        · exact e2 _ (List.mem_of_getElem? (Jai (l:=b.high.l) (k:=k) 0 (by omega)))
      rw [this] at h
      cases h
theorem J0y (a:XAir) (s:XSetting) (b:XBounds) (A:List Bool) (L:List Blk) (R:List Sl) (hm:AirR a R) (hs:SetR s R) (hb:BoundsR b R) (hA:Jat a=0→AiryIs a.mine A):
    Tri Try.prog 61 [a.val,s.val,b.val].toArray L R (fun v L' R'=>∃S:List Sl,v=.int .i64 (Jd1 a s b A)∧L=L'∧S ++ R=R'):=by
  have hmp:=hm.places
  have hbl:=hb.low
  have hbh:=hb.high
  refine Jb7 Try.call61 hbl fun hbln=>?_
  refine Jb7 Try.call61 hbh fun hbhn=>?_
  refine Jb7 Try.call61 hmp fun hmpn=>?_
  refine Jae 124 Try.call61 Try.func61 rfl rfl rfl ?_
  refine Xaj ?_
  intro b3
  refine qax ?_
  intro b4
  refine qax ?_
  intro b5
  refine Xaw ?_
  refine qa8 ?_
  refine q_l rfl (Jdy a _ _ hm) ?_
  refine Xbv ?_
  refine q_c (fun hc0=>?_) (fun hc0=>?_)
  ·
   refine Xbb ?_
   refine Xa4 ?_
   refine q_i (L':=L) (R':=R) ?_
   exact ⟨[],by rw [Jd1,if_pos hc0],rfl,rfl⟩
  have h0:Jat a=0:=by omega
  have hok:=Jey h0
  have hAA:=hA h0
  have hmn:=hok.mine.places
  refine qbo ?_
  refine Xaz ?_
  refine q_l rfl (Je8 a s _ _ hm hs) ?_
  refine Xbu ?_
  refine q_c (fun hc1=>?_) (fun hc1=>?_)
  ·
   refine Xbn ?_
   refine q_i (L':=L) (R':=R) ?_
   exact ⟨[],by rw [Jd1,if_neg hc0,if_pos (by simpa using hc1)],rfl,rfl⟩
  have hf0:Jdl a s=true:=by simpa using hc1
  have hfo:=Jf3 hf0
  have hff:¬ Jdl a s=false:=by rw [hf0];decide
  refine qbo ?_
  refine Xab ?_
  refine Xa7 ?_
  refine Xb5 ?_
  apply Jbi (G:=[_,_,_,_,_,_,_,_]) (j:=8) (cj:=32) rfl rfl (by rfl) rfl (show _=Value.bool _ from rfl) rfl
  ·
   intro hg9
   replace hg9:=qb hg9
   refine Xab ?_
   refine Xa7 ?_
   refine qbq ?_
   exact qai
  intro junk9
  refine qaf ?_
  refine q_c (fun hc2=>?_) (fun hc2=>?_)
  ·
   refine Xbn ?_
   refine q_i (L':=L) (R':=R) ?_
   exact ⟨[],by rw [Jd1,if_neg hc0,if_neg hff,if_pos (by omega)],rfl,rfl⟩
  have hln:b.low.l.length=a.mine.places.l.length:=by omega
  have hhn:b.high.l.length=a.mine.places.l.length:=by omega
  refine qbo ?_
  refine Xbm ?_
  refine Jag [(3,Value.pointer _),(4,Value.pointer _),(5,Value.pointer _),(44,Value.int _ _),(45,Value.int _ _)] (by repeat' (first | exact trivial | refine And.intro rfl ?_)) fun tq0=>?_
  refine q_s [6,8,10,45,46,47,48,49,50,51,52,53,54,55,56,57,58,59,60,61,62,63,64,65,66,67,68,69,70,71] (fun g:FSR (Jhm b) (b.low.l.length)=>[(45,.int .i64 ((g.1:Nat):Int))]) (fun g=>(b.low.l.length) - g.1) ⟨0,Jet _ _⟩ ?_
  rintro ⟨k0,hk0,hp0⟩ junk
  try dsimp only
  refine Xar ?_
  refine q_c (fun hc3=>?_) (fun hc3=>?_)
  ·
   have hlg:=Jai (l:=b.low.l) (k:=k0) 0 (by omega)
   have hhg:=Jai (l:=b.high.l) (k:=k0) 0 (by omega)
   refine Xa8 ?_
   refine Xb3 ?_
   refine Ja5 tb [0,1,2,3,4,5,6,7,8,9,12,10,11] ([Blk.mk b5 _ _]) Jbh (by kernel_rfl) (by repeat (first | exact zs0 _ | exact zs1 _ | apply zs2 | apply zs3 | apply zs4 | apply zs5)) ?_
   refine Xa0 ?_
   refine J5j ?_
   refine qbl ?_
   refine Xa0 ?_
   refine J5j ?_
   refine qbl ?_
   refine qao ?_
   refine Jmx (Jas (qs:=[(0,(Value.int _ _).cells.toList),(1,(Value.int _ _).cells.toList)]) (out:=[_,_]) tb rfl rfl rfl rfl rfl rfl rfl) rfl rfl rfl ?_
   rintro v L' R' ⟨b58,rfl,rfl,hR58⟩
   replace hR58:=hR58.symm;subst hR58
   refine qa1 ?_
   refine Jbx (Jew tb rfl rfl rfl) rfl rfl rfl ?_
   refine Jb8 (Jaa (Ja9 ?_))
   refine Jcv [6,8,10,45,46,47,48,49,50,51,52,53,54,55,56,57,58,59,60,61,62,63,64,65,66,67,68,69,70,71] (by repeat (first | apply Off.upd rfl | apply Off.havoc rfl | refine Off.updL (t':=havoc _ _ _) rfl ?_ | exact Off.refl)) [(45,Value.int _ _),(58,Value.slice _ _ _),(59,Value.int _ _),(60,Value.int _ _)] (by repeat' (first | exact trivial | refine And.intro rfl ?_)) fun tq1=>?_
   refine Jlf (L':=(⟨.own b58 2 [],[b.low.l.getD k0 0,b.high.l.getD k0 0]⟩:OwL Int).L 3 Jad ++ (⟨b5,b.cells,88⟩ :: ⟨b4,s.cells,35⟩ :: ⟨b3,a.cells,32⟩ :: L)) (by simp only [OwL.L,Ow.L,List.flatMap_cons,List.flatMap_nil,Jad,List.append_nil,List.cons_append,List.nil_append];rfl) ?_
   refine q_s [6,10,60,61,62,63,64,65,66,67,68,69,70] (fun g:FS (Jb5) ([b.low.l.getD k0 0,b.high.l.getD k0 0])=>[(60,.int .i64 ((g.1:Nat):Int))]) (fun g=>([b.low.l.getD k0 0,b.high.l.getD k0 0]).length - g.1) ⟨0,Jec _ _⟩ ?_
   rintro ⟨k1,hk1,hp1⟩ junk
   try dsimp only
   have hk58:(⟨.own b58 2 [],[b.low.l.getD k0 0,b.high.l.getD k0 0]⟩:OwL Int).ok 1 Jad:=⟨rfl,Nat.le_refl _,by simp only [maxLen];omega,rfl⟩
   have hl2:[b.low.l.getD k0 0,b.high.l.getD k0 0].length=2:=rfl
   refine Xar ?_
   refine q_c (fun hc4=>?_) (fun hc4=>?_)
   ·
    obtain ⟨y,hy⟩:=Jar (l:=[b.low.l.getD k0 0,b.high.l.getD k0 0]) (k:=k1) (by omega)
    refine qbb ?_
    refine Jax (Jao tb ((⟨.own b58 2 [],[b.low.l.getD k0 0,b.high.l.getD k0 0]⟩:OwL Int)) _ rfl rfl rfl rfl (by assumption) (i:=k1) (by first | rfl | omega | (simp;omega)) (by first | omega | (dsimp only;omega) | (dsimp only;rw [List.length_set];omega) | (dsimp only;simp only [List.length_set];omega))) rfl ?_
    refine Jax (Jbe tb ((⟨.own b58 2 [],[b.low.l.getD k0 0,b.high.l.getD k0 0]⟩:OwL Int)) rfl rfl rfl (by repeat (first | apply OSeg.cons | exact OSeg.here | exact OSeg.last | exact OSeg.at (by assumption) | apply OSeg.app)) (by assumption) (fun _=>rfl) (by assumption) (by rfl)) rfl ?_
    refine Xax ?_
    refine Xa2 ?_
    apply Jbi (G:=[_,_]) (j:=2) (cj:=66) rfl rfl (by rfl) rfl (show _=Value.bool _ from rfl) rfl
    ·
     intro hg3
     replace hg3:=qb hg3
     refine qaa ?_
     refine qa5 ?_
     exact qai
    intro junk3
    refine qaf ?_
    refine q_c (fun hc5=>?_) (fun hc5=>?_)
    ·
     refine Xaf ?_
     refine Jbr (Jaa (Jee (Ja6 (Jbg (Jdb (Ja6 (Ja6 (Jbg (Jdb (Ja6 (Jbg ?_)))))))))))
     refine q_i (L':=L) (R':=R) ?_
     have hpb:Jhm b k0=some 1:=by rw [Jhm];exact Jc3 hp1 hy (if_pos (by omega))
     exact ⟨[],by rw [Jd1,if_neg hc0,if_neg hff,if_neg (by omega),if_pos (Jp8 rfl (by omega) (by omega) hpb)],rfl,rfl⟩
    refine Xay ?_
    exact q_k ⟨k1 + 1,Jd3 hp1 hy (if_neg (by omega))⟩
   have hn1:=Jdv hp1 (by omega)
   refine Jcs (Jbv (Jcp (Jbf (Ja7 (Jaa (Jaj ?_))))))
   refine Xag ?_
   exact q_k ⟨k0 + 1,Jds hp0 (by omega) hn1⟩
  have hn0:=Je1 hp0 (by omega)
  have hrb:=Jq3 (b:=b) rfl (by omega) hn0
  have hplb:PresOk b.low.l:=Jik hrb.1
  have hphb:PresOk b.high.l:=Jik hrb.2
  have hck:Jd1 a s b A=((List.range a.mine.places.l.length).findSome? (Jcq a s b A)).getD 0:=by rw [Jd1,if_neg hc0,if_neg hff,if_neg (by omega),if_neg (by rw [hrb.1,hrb.2];simp)]
  refine qbk ?_
  refine Xb4 ?_
  refine Jaq rfl (Jme a.mine _ _ hm.mineR hok.mine (Jg4 h0)) rfl ?_
  rintro v L' R' ⟨p,A2,S,rfl,hpk,hA2,hpl,rfl,rfl⟩
  obtain rfl:A=A2:=hAA.unique hA2
  have hfx:p.l.length=a.mine.places.l.length:=by rw [hpl,List.length_map];exact hAA.length
  have hm2:AirR a (S ++ R):=⟨hm.places.mono fun r h=>Jab (by simp [h]),hm.roads.mono fun r h=>Jab (by simp [h]),hm.fans.mono fun r h=>Jab (by simp [h]),hm.doors.mono fun r h=>Jab (by simp [h])⟩
  have hs2:SetR s (S ++ R):=⟨hs.fans.mono fun r h=>Jab (by simp [h]),hs.doors.mono fun r h=>Jab (by simp [h])⟩
  refine Xcf ?_
  refine Xaz ?_
  refine Jaq rfl (Jqv a s _ _ hm2 hs2 hok hfo) rfl ?_
  rintro v L' R' ⟨n,rfl,hn,rfl,rfl⟩
  have hpp:InR (Jiy n.pipes) (Jiy n.pipes :: Jh1 n.at_ :: (S ++ R)):=Jab (.head _)
  have haa:InR (Jh1 n.at_) (Jiy n.pipes :: Jh1 n.at_ :: (S ++ R)):=Jab (.tail _ (.head _))
  have hmp3:InR (psl a.mine.places) (Jiy n.pipes :: Jh1 n.at_ :: (S ++ R)):=hmp.mono fun r h=>Jab (by simp [h])
  have hbl3:InR (isl b.low) (Jiy n.pipes :: Jh1 n.at_ :: (S ++ R)):=hbl.mono fun r h=>Jab (by simp [h])
  have hbh3:InR (isl b.high) (Jiy n.pipes :: Jh1 n.at_ :: (S ++ R)):=hbh.mono fun r h=>Jab (by simp [h])
  refine qaq ?_
  intro b12
  refine Xbk ?_
  refine Xa7 ?_
  refine Xas ?_
  refine Jag [(5,Value.pointer _),(11,Value.slice _ _ _),(12,Value.pointer _),(80,Value.slice _ _ _),(81,Value.int _ _),(82,Value.int _ _)] (by repeat' (first | exact trivial | refine And.intro rfl ?_)) fun tq2=>?_
  refine q_s [6,13,14,82,83,84,85,86,87,88,89,90,91,92,93,94,95,96,97,98,99,100,101,102,103,104,105,106,107,108,109,110,111,112,113,114,115,116,117,118,119,120,121,122,123] (fun g:FSR (Jcq a s b A) (a.mine.places.l.length)=>[(82,.int .i64 ((g.1:Nat):Int))]) (fun g=>(a.mine.places.l.length) - g.1) ⟨0,Jet _ _⟩ ?_
  rintro ⟨k2,hk2,hp2⟩ junk
  try dsimp only
  refine Xar ?_
  refine q_c (fun hc6=>?_) (fun hc6=>?_)
  ·
   have hmg:=Jai (l:=a.mine.places.l) (k:=k2) default (by omega)
   have hpg:p.l[k2]?=some (!(A.getD k2 false)):=by
     have:=hAA.length
     rw [hpl,List.getElem?_map,Jai (l:=A) (k:=k2) false (by omega)];rfl
   have hlg:=Jai (l:=b.low.l) (k:=k2) 0 (by omega)
   have hhg:=Jai (l:=b.high.l) (k:=k2) 0 (by omega)
   refine Xa8 ?_
   refine J2d ?_
   refine Xcu ?_
   intro b14
   refine qad ?_
   refine Xcd ?_
   refine qah ?_
   apply Jbi (G:=[_,_,_,_]) (j:=2) (cj:=89) rfl rfl (by rfl) rfl (show _=Value.bool _ from rfl) rfl
   ·
    intro hg3
    replace hg3:=qb hg3
    refine Xal ?_
    refine Jax (Jao tb (p) _ rfl rfl rfl rfl (by assumption) (i:=k2) (by first | rfl | omega | (simp;omega)) (by first | omega | (dsimp only;omega) | (dsimp only;rw [List.length_set];omega) | (dsimp only;simp only [List.length_set];omega))) rfl ?_
    refine Jax (Jbe tb (p) rfl rfl rfl (by repeat (first | apply OSeg.cons | exact OSeg.here | exact OSeg.last | exact OSeg.at (by assumption) | apply OSeg.app)) (by assumption) (fun _=>rfl) (by assumption) (by rfl)) rfl ?_
    exact qai
   intro junk3
   refine qaf ?_
   refine q_c (fun hc7=>?_) (fun hc7=>?_)
   ·
    have hnb:Jcq a s b A k2=if b.low.l.getD k2 0≠0∨b.high.l.getD k2 0≠0 then some 12 else none:=by rw [Jcq,if_pos (by simpa [or_comm] using hc7)]
    refine qae ?_
    refine Xah ?_
    refine J2d ?_
    refine qa7 ?_
    refine Xb5 ?_
    apply Jbi (G:=[_,_,_,_,_,_]) (j:=6) (cj:=101) rfl rfl (by rfl) rfl (show _=Value.bool _ from rfl) rfl
    ·
     intro hg7
     replace hg7:=qb hg7
     refine Xah ?_
     refine J2d ?_
     refine qa7 ?_
     refine qbq ?_
     exact qai
    intro junk7
    refine qaf ?_
    refine q_c (fun hc8=>?_) (fun hc8=>?_)
    ·
     refine Xbj ?_
     refine q_i (L':=L) (R':=Jiy n.pipes :: Jh1 n.at_ :: (S ++ R)) ?_
     exact J37
    refine Xay ?_
    exact q_k ⟨k2 + 1,Jds hp2 (by omega) (hnb.trans (if_neg (by omega)))⟩
   have hnb:Jcq a s b A k2=if Jph a s b.high.l (k2:Int) < 0∨0 < Jgp a s b.low.l (k2:Int) then some 12 else none:=by rw [Jcq,if_neg (by simpa [and_comm] using hc7)]
   refine qae ?_
   refine qbe ?_
   refine Xah ?_
   refine q_l rfl (Jpk n a s b.high _ _ _ hpp haa hbh3 hn hok hhn hphb (by omega)) ?_
   refine Xa2 ?_
   refine Jej (k:=115) (show _=Value.bool _ from rfl) (fun hg7=>?_) (fun hg7=>?_)
   ·
    replace hg7:=qb hg7
    iterate 6 refine Jga rfl rfl ?_
    refine Jax (by first | exact Jdf rfl rfl | exact Jcx rfl rfl | exact Jg7 rfl) rfl ?_
    refine qaf ?_
    refine Jco rfl ?_
    refine Xbj ?_
    refine q_i (L':=L) (R':=Jiy n.pipes :: Jh1 n.at_ :: (S ++ R)) ?_
    exact J37
   replace hg7:=qb hg7
   refine Jc0 (Jba (row:=[_,_]) tb rfl rfl rfl (by repeat (first | exact zi0 | apply zi1 | apply zi2)) (by rfl) (by rfl)) rfl rfl ?_
   refine Jc0 (Jcr tb rfl rfl rfl) rfl rfl ?_
   refine Jc0 (Jbl tb rfl rfl rfl (by repeat (first | exact zi0 | apply zi1 | apply zi2)) (by rfl)) rfl rfl ?_
   refine Jc0 (Jap (show _=Value.int _ _ from rfl)) rfl rfl ?_
   refine Jiv rfl (Jn6 n a s b.low _ _ _ hpp haa hbl3 hn hok hln hplb (by omega)) rfl rfl ?_
   rintro v L' R' ⟨rfl,rfl,rfl⟩
   refine Jc0 (Jnf rfl rfl) rfl rfl ?_
   refine Jax (by first | exact Jdf rfl rfl | exact Jcx rfl rfl | exact Jg7 rfl) rfl ?_
   refine qaf ?_
   refine q_c (fun hc9=>?_) (fun hc9=>?_)
   ·
    refine Xbj ?_
    refine q_i (L':=L) (R':=Jiy n.pipes :: Jh1 n.at_ :: (S ++ R)) ?_
    exact J37
   refine Xay ?_
   exact q_k ⟨k2 + 1,Jds hp2 (by omega) (hnb.trans (if_neg (by omega)))⟩
  have hn2:=Je1 hp2 (by omega)
  refine Xce ?_
  refine q_i (L':=L) (R':=Jiy n.pipes :: Jh1 n.at_ :: (S ++ R)) ?_
  exact ⟨[Jiy n.pipes,Jh1 n.at_] ++ S,by rw [hck,hn2];rfl,rfl,rfl⟩
end Go.Proofs.Ytihompplndcdeaa
end
section
/-
  What the flows are that bounds allow: the shared law of certify.Flows and ref11.Flows. By an AI agent; no person has read it.
-/
namespace Go.Proofs.Ytihompplndcdeaa
open Go.Aw Go
set_option maxRecDepth 20000
attribute [local irreducible] CJ LJ DJ Tri YV Gives Jdn Jaw Jbk Jdo RV Jay OwL.L
def nothingS:XSpan:=⟨-1125899906842624,1125899906842624⟩
def Jby (a:XAir) (s:XSetting) (b:XBounds) (A:List Bool) (k:Nat):XSpan:=
  if (a.mine.roads.l.getD k default).closed=true then ⟨0,0⟩
  else if A.getD (a.mine.roads.l.getD k default).fr.toNat false=true then
    ⟨Jbp (Ja8 a s k) (b.low.l.getD (a.mine.roads.l.getD k default).fr.toNat 0 - b.high.l.getD (a.mine.roads.l.getD k default).to.toNat 0),
     Jbc (Ja8 a s k) (b.high.l.getD (a.mine.roads.l.getD k default).fr.toNat 0 - b.low.l.getD (a.mine.roads.l.getD k default).to.toNat 0)⟩
  else nothingS
def Jce (a:XAir) (s:XSetting) (b:XBounds) (A:List Bool):List XSpan:=
  if Jd1 a s b A=0 then (List.range a.mine.roads.l.length).map (Jby a s b A) else []
end Go.Proofs.Ytihompplndcdeaa
end
section
/-
  ref11.Flows. By an AI agent; no person has read it.
-/
namespace Go.Proofs.Ytihompplndcdeaa
open Go.Aw Go
set_option maxRecDepth 20000
attribute [local irreducible] CJ LJ DJ Tri YV Gives Jdn Jaw Jbk Jdo RV Jay OwL.L
structure CheckOk (a:XAir) (s:XSetting) (b:XBounds):Prop where
  h0:Jat a=0
  hf:Jdl a s=true
  hl:b.low.l.length=a.mine.places.l.length
  hh:b.high.l.length=a.mine.places.l.length
  pl:PresOk b.low.l
  ph:PresOk b.high.l
theorem Jrg {a:XAir} {s:XSetting} {b:XBounds} {A:List Bool} (h:Jd1 a s b A=0):CheckOk a s b:=by
  unfold Jd1 at h
  split at h
  · rename_i h1;exact absurd h h1
  rename_i h1
  split at h
  · cases h
  rename_i h2
  split at h
  · cases h
  rename_i h3
  split at h
  · cases h
  rename_i h4
  refine ⟨by omega,by simpa using h2,by omega,by omega,Jik ?_,Jik ?_⟩
  · cases e:b.low.l.findSome? Jb5 with
    | none=>rfl
    | some x=>exact absurd (.inl (by rw [e];rfl)) h4
  · cases e:b.high.l.findSome? Jb5 with
    | none=>rfl
    | some x=>exact absurd (.inr (by rw [e];rfl)) h4
end Go.Proofs.Ytihompplndcdeaa
end
