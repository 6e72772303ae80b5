import Derived.Test.YtihompplndcdeaaGreatPart
import Derived.Test.YtihompplndcdeaaGreatCircS
import Derived.Test.YtihompplndcdeaaGreatFits
section
/-
  plan.Valid, plan.CutOff, certify.Lost. By an AI agent; no person has read it.
-/
namespace Go.Proofs.YtihompplndcdeaaGreat
open Go.Aw Go
set_option maxRecDepth 20000
attribute [local irreducible] CJ LJ DJ Tri YV Gives Jd5 Jbd Jbz Jd4 RV Jbf OwL.L
section
variable {A9 B9:Prop}
theorem J51 (a:A9) (h:A9→B9:=by exact Ja2 (Jak tb (p) _ rfl rfl rfl rfl (by assumption) (i:=k) (by first | rfl | omega | (simp;omega)) (by first | omega | (dsimp only;omega) | (dsimp only;rw [List.length_set];omega) | (dsimp only;simp only [List.length_set];omega))) rfl):B9:=h a
theorem J69 (a:A9) (h:A9→B9:=by exact Ja2 (Jaz tb (p) rfl rfl rfl (by repeat (first | apply OSeg.cons | exact OSeg.here | exact OSeg.last | exact OSeg.at (by assumption) | apply OSeg.app)) (by assumption) (fun _=>rfl) (by assumption) (by rfl)) rfl):B9:=h a
theorem J6w (a:A9) (h:A9→B9:=by exact Ja2 (Jak tb ((⟨.own b19 N [],fr⟩:OwL Bool)) _ rfl rfl ((show _=Value.slice _ _ _ from rfl).trans (Jed hfl)) rfl (by assumption) (i:=(lb p.l k).toNat) (by first | rfl | omega | (simp;omega)) (by first | omega | (dsimp only;omega) | (dsimp only;rw [List.length_set];omega) | (dsimp only;simp only [List.length_set];omega))) rfl):B9:=h a
end
theorem Js2 (m:XMine) (L:List Blk) (R:List Sl) (hm:MineR m R):
    Tri Tryz.prog 90 [m.val].toArray L R (fun v L' R'=>v=.bool (decide (Jbv m=0))∧L=L'∧R=R'):=by
  refine Jae 6 Tryz.call90 Tryz.func90 rfl rfl rfl ?_
  refine Xai ?_
  intro b1
  refine Xbr ?_
  refine qbe ?_
  refine q_l rfl (Jla m _ _ hm) ?_
  refine qbn ?_
  refine Xbb ?_
  refine q_b (L':=L) (R':=R) ?_
  exact ⟨rfl,rfl,rfl⟩
structure FrOk (m:XMine) (f:List Int) (fr:List Bool) (N k:Nat):Prop where
  len:fr.length=N
  iff:∀c:Nat,fr.getD c false=true↔∃j:Nat,j < k∧(m.places.l.getD j default).surface=true∧lb f j=(c:Int)
theorem FrOk.zero (m:XMine) (f:List Int) (N:Nat):FrOk m f (List.replicate N false) N 0:=by
  refine ⟨by simp,fun c=>⟨fun h=>?_,fun ⟨j,hj,_⟩=>by omega⟩⟩
  rw [List.getD_eq_getElem?_getD,List.getElem?_replicate] at h
  split at h <;> simp at h
theorem FrOk.stay {m:XMine} {f:List Int} {fr:List Bool} {N k:Nat} (h:FrOk m f fr N k) (hs:¬ (m.places.l.getD k default).surface=true):FrOk m f fr N (k + 1):=by
  refine ⟨h.len,fun c=>(h.iff c).trans ⟨fun ⟨j,h1,h2,h3⟩=>⟨j,by omega,h2,h3⟩,fun ⟨j,h1,h2,h3⟩=>?_⟩⟩
  rcases Nat.lt_or_ge j k with h4 | h4
  · exact ⟨j,h4,h2,h3⟩
  · obtain rfl : j = k := by omega
    exact absurd h2 hs
theorem FrOk.next {m:XMine} {f:List Int} {fr:List Bool} {N k:Nat} (h:FrOk m f fr N k) (hs:(m.places.l.getD k default).surface=true) (h0:0≤lb f k∧lb f k < (N:Int)):FrOk m f (fr.set (lb f k).toNat true) N (k + 1):=by
  have hl:=h.len
  refine ⟨by simp [hl],fun c=>?_⟩
  rw [Jfe (by omega)]
  split
  · rename_i e
    exact ⟨fun _=>⟨k,by omega,hs,by omega⟩,fun _=>rfl⟩
  · rename_i e
    refine (h.iff c).trans ⟨fun ⟨j,h1,h2,h3⟩=>⟨j,by omega,h2,h3⟩,fun ⟨j,h1,h2,h3⟩=>?_⟩
    rcases Nat.lt_or_ge j k with h4 | h4
    · exact ⟨j,h4,h2,h3⟩
    · obtain rfl : j = k := by omega
      exact absurd (by omega) e
def Js3 (f:List Int) (fr:List Bool) (n:Nat):List Bool:=(List.range n).map fun i=>fr.getD (lb f i).toNat false
theorem Jqs {f:List Int} {fr:List Bool} {n i:Nat} (h:i < n):(Js3 f fr n).getD i false=fr.getD (lb f i).toNat false:=by
  rw [List.getD_eq_getElem?_getD,Js3,List.getElem?_map,List.getElem?_range h];rfl
theorem Jxi {m:XMine} {j:Nat} (h:j < m.places.l.length):(Jud m).getD j false=(m.places.l.getD j default).surface:=by
  rw [List.getD_eq_getElem?_getD,Jud,List.getElem?_map,Jan (l:=m.places.l) (k:=j) default h];rfl
theorem FrOk.airy {m:XMine} {f:List Int} {fr:List Bool} {N:Nat} (h:FrOk m f fr N m.places.l.length) (hp:PartIs m f (N:Int)):AiryIs m (Js3 f fr m.places.l.length):=by
  have hsl:(Jud m).length=m.places.l.length:=by simp [Jud]
  refine ⟨by simp [Js3,hsl],fun i hi=>?_⟩
  have hi':i < m.places.l.length:=by omega
  have hr:=hp.rng i hi'
  rw [Jqs hi',h.iff]
  refine ⟨fun ⟨j,h1,h2,h3⟩=>⟨j,by omega,by rw [Jxi h1];exact h2,(hp.iff j i h1 hi').1 (by omega)⟩,fun ⟨j,h1,h2,h3⟩=>?_⟩
  have h1':j < m.places.l.length:=by omega
  rw [Jxi h1'] at h2
  exact ⟨j,h1',h2,by rw [(hp.iff j i h1' hi').2 h3];omega⟩
def Jeu (A : List Bool) : Nat → List Int
  | 0=>[]
  | k + 1=>if A.getD k false=true then Jeu A k else Jeu A k ++ [(k:Int)]
theorem Jej (A : List Bool) : ∀ k, (Jeu A k).length ≤ k
  | 0=>by simp [Jeu]
  | k + 1=>by
    have:=Jej A k
    rw [Jeu]
    split
    · omega
    · simp only [List.length_append,List.length_singleton];omega
theorem Jl6 {A : List Bool} {e : Int} : ∀ {k : Nat}, e ∈ Jeu A k ↔ ∃ i : Nat, e = (i : Int) ∧ i < k ∧ ¬ A.getD i false = true
  | 0=>⟨fun h=>(by simp [Jeu] at h),fun ⟨i,_,h,_⟩=>(by omega)⟩
  | k + 1=>by
    have ih:=Jl6 (A:=A) (e:=e) (k:=k)
    rw [Jeu]
    split
    · rename_i h
      refine ih.trans ⟨fun ⟨i,h1,h2,h3⟩=>⟨i,h1,by omega,h3⟩,fun ⟨i,h1,h2,h3⟩=>⟨i,h1,?_,h3⟩⟩
      rcases Nat.lt_or_ge i k with h4 | h4
      · exact h4
      · obtain rfl : i = k := by omega
        exact absurd h h3
    · rename_i h
      rw [List.mem_append,ih,List.mem_singleton]
      refine ⟨fun h0=>?_,fun ⟨i,h1,h2,h3⟩=>?_⟩
      · rcases h0 with ⟨i, h1, h2, h3⟩ | h0
        · exact ⟨i,h1,by omega,h3⟩
        · exact ⟨k,h0,by omega,h⟩
      · rcases Nat.lt_or_ge i k with h4 | h4
        · exact .inl ⟨i,h1,h4,h3⟩
        · obtain rfl : i = k := by omega
          exact .inr h1
theorem Jl9 (m:XMine) (L:List Blk) (R:List Sl) (hm:MineR m R) (hok:MineOk m) (hv:Jbv m=0):
    Tri Tryz.prog 60 [m.val].toArray L R (fun w L' R'=>∃(p:OwL Int) (A:List Bool) (S:List Sl),w=p.val∧p.ok 1 Jad∧AiryIs m A∧p.l=Jeu A m.places.l.length∧p.L 3 Jad ++ L=L'∧S ++ R=R'):=by
  have hmp:=hm.places
  have hnp:=hok.places
  refine Jae 57 Tryz.call60 Tryz.func60 rfl rfl rfl ?_
  refine Xai ?_
  intro b1
  refine Xa4 ?_
  refine qbe ?_
  refine q_l rfl (Js2 m _ _ hm) ?_
  refine Xbc ?_
  refine q_c (fun hc0=>?_) (fun hc0=>?_)
  ·
   refine Xd5 ?_
   refine qbh ?_
   refine q_r (L':=L) (R':=R) (Jdi rfl (Jah (show _=Value.slice _ _ _ from rfl))) ?_
   exact absurd hv (by simpa using hc0)
  refine qbv ?_
  refine qbe ?_
  refine Jaq rfl (J2c m _ _ hm hok) rfl ?_
  rintro v L' R' ⟨p,N,S,rfl,hpk,hP,rfl,rfl⟩
  have hpl:=hP.len
  have hpn:=hP.n
  have hmp2:InR (psl m.places) (S ++ R):=hmp.mono fun r h=>Jab (by simp [h])
  refine Ja2 (Jar rfl) rfl ?_
  refine Xcr ?_
  refine Xav ?_
  refine qc7 ?_
  rintro v L' R' ⟨b19,rfl,rfl,hR19⟩
  replace hR19:=hR19.symm;subst hR19
  refine Xa4 ?_
  refine Xbz ?_
  refine Jai [(1,Value.pointer _),(3,Value.slice _ _ _),(5,Value.slice _ _ _),(21,Value.slice _ _ _),(22,Value.int _ _),(23,Value.int _ _)] (by repeat' (first | exact trivial | refine And.intro rfl ?_)) fun tq0=>?_
  refine Jg5 (Jf1 (f:=blc) (x:=false) rfl _) ?_
  refine q_p [6,7,23,24,25,26,27,28,29,30,31,32,33,34,35,36] ((⟨fun q=>[(23,.int .i64 ((q.1.1:Nat):Int))],fun q=>(⟨.own b19 N [],q.1.2⟩:OwL Bool).L 4 blc ++ (p.L 3 Jad ++ (⟨b1,m.cells,31⟩ :: L)),fun _=>S ++ R,fun q=>m.places.l.length - q.1.1⟩:Head {q:Nat×List Bool // q.1≤m.places.l.length∧FrOk m p.l q.2 N q.1})) (⟨(0,List.replicate N false),by dsimp only;omega,FrOk.zero m p.l N⟩) ?_
  rintro ⟨⟨k,fr⟩,q1,q2⟩ junk
  try dsimp only
  dsimp only at q1 q2
  have hfl:=q2.len
  have hkf:(⟨.own b19 N [],fr⟩:OwL Bool).ok 1 blc:=by have:=Jen (f:=blc) (wd:=1) (b:=b19) (n:=N) (x:=false) Jdk (by simp only [maxLen];omega);exact OwL.len_ok Jdk this (by simp;exact hfl)
  refine Xay ?_
  refine q_c (fun hc1=>?_) (fun hc1=>?_)
  ·
   have hpg:=Jan (l:=m.places.l) (k:=k) default (by omega)
   have hlg:=Jto (f:=p.l) (v:=k) (by omega)
   have hrk:=hP.rng k (by omega)
   have hfg:=Jan (l:=fr) (k:=(lb p.l k).toNat) false (by omega)
   refine Xb3 ?_
   refine qa3 ?_
   refine Xdn ?_
   intro b7
   refine qad ?_
   refine Xc0 ?_
   refine qaf ?_
   refine q_c (fun hc2=>?_) (fun hc2=>?_)
   ·
    refine qay ?_
    refine qbm ?_
    refine Xad ?_
    refine J51 ?_
    refine J69 ?_
    refine J6w ?_
    refine Jfa (Jas tb ((⟨.own b19 N [],fr⟩:OwL Bool)) (true) rfl rfl rfl rfl (by repeat (first | apply OSeg.cons | exact OSeg.here | exact OSeg.last | exact OSeg.at (by assumption) | apply OSeg.app)) (by assumption) (fun _=>rfl) (by assumption) (by decide) (by rfl) (by rfl)) ?_
    rintro v L' R' ⟨rfl,rfl⟩
    refine Xbj ?_
    exact q_k ⟨(k + 1,_),by dsimp only;omega,q2.next (by simpa using hc2) hrk⟩
   refine Xa6 ?_
   exact q_k ⟨(k + 1,fr),by dsimp only;omega,q2.stay (by simpa using hc2)⟩
  obtain rfl:k=m.places.l.length:=by omega
  have hA:=q2.airy hP
  obtain ⟨A,hAe⟩:∃A,A=Js3 p.l fr m.places.l.length:=⟨_,rfl⟩
  rw [← hAe] at hA
  refine qbk ?_
  refine Xa4 ?_
  refine Xbz ?_
  refine Jai [(3,Value.slice _ _ _),(5,Value.slice _ _ _),(8,Value.slice _ _ _),(39,Value.int _ _),(40,Value.int _ _)] (by repeat' (first | exact trivial | refine And.intro rfl ?_)) fun tq1=>?_
  refine Jb0 [8,9,40,41,42,43,44,45,46,47,48,49,50,51,52,53,54,55] ((⟨fun q=>[(40,.int .i64 ((q.1.1:Nat):Int)),(8,q.1.2.val)],fun q=>q.1.2.L 3 Jad ++ ((⟨.own b19 N [],fr⟩:OwL Bool).L 4 blc ++ (p.L 3 Jad ++ (⟨b1,m.cells,31⟩ :: L))),fun _=>S ++ R,fun q=>m.places.l.length - q.1.1⟩:Head {q:Nat×OwL Int // q.1≤m.places.l.length∧q.2.ok 1 Jad∧q.2.l=Jeu A q.1})) (⟨(0,OwL.nil),by dsimp only;omega,OwL.nil_ok,rfl⟩) (by repeat' (first | exact trivial | refine And.intro rfl ?_)) (by dsimp only;rw [Jcl,List.nil_append];exact List.Sublist.refl _) (Jac _) ?_
  rintro ⟨⟨k,q⟩,w1,w2,w3⟩ junk
  try dsimp only
  dsimp only at w1 w2 w3
  refine Xay ?_
  refine q_c (fun hc3=>?_) (fun hc3=>?_)
  ·
   have hlg:=Jto (f:=p.l) (v:=k) (by omega)
   have hrk:=hP.rng k (by omega)
   have hfg:=Jan (l:=fr) (k:=(lb p.l k).toNat) false (by omega)
   have hAk:A.getD k false=fr.getD (lb p.l k).toNat false:=by rw [hAe];exact Jqs (by omega)
   have hql:=Jej A k
   rw [← w3] at hql
   refine Xb3 ?_
   refine Xal ?_
   refine qbm ?_
   refine Xad ?_
   refine J51 ?_
   refine J69 ?_
   refine J6w ?_
   refine Ja2 (Jaz tb ((⟨.own b19 N [],fr⟩:OwL Bool)) rfl rfl rfl (by repeat (first | apply OSeg.cons | exact OSeg.here | exact OSeg.last | exact OSeg.at (by assumption) | apply OSeg.app)) (by assumption) (fun _=>rfl) (by assumption) (by rfl)) rfl ?_
   refine Xbc ?_
   refine q_c (fun hc4=>?_) (fun hc4=>?_)
   ·
    refine Xby ?_
    refine qcx ?_
    rintro v L' R' ⟨b53,rfl,rfl,hR53⟩
    replace hR53:=hR53.symm;subst hR53
    refine Jfo (Jap (f:=Jad) (a:=(k:Int)) tb rfl rfl rfl rfl (w2) (by repeat (first | apply OSeg.cons | exact OSeg.here | exact OSeg.last | exact OSeg.at (by assumption) | apply OSeg.app)) (Ja5 (by repeat (first | exact zi0 | apply zi1 | apply zi2)) rfl rfl) rfl (by first | omega | (simp only [List.length_cons,List.length_nil,List.length_append];omega))) rfl ?_
    rintro v L' R' ⟨o54,rfl,hok54,rfl,rfl⟩
    refine Xdl ?_
    exact q_k ⟨(k + 1,⟨o54,q.l ++ [(k:Int)]⟩),by dsimp only;omega,hok54,by dsimp only;rw [Jeu,if_neg (by rw [hAk];simpa using hc4),w3]⟩
   refine Xa6 ?_
   exact q_k ⟨(k + 1,q),by dsimp only;omega,w2,by dsimp only;rw [Jeu,if_pos (by rw [hAk];simpa using hc4),w3]⟩
  obtain rfl:k=m.places.l.length:=by omega
  refine Xb5 ?_
  refine q_r (L':=q.L 3 Jad ++ L) (R':=S ++ R) (Jdi rfl (Jah (show _=Value.slice _ _ _ from rfl))) ?_
  exact ⟨q,A,S,rfl,w2,hA,w3,rfl,rfl⟩
end Go.Proofs.YtihompplndcdeaaGreat
end
section
/-
  The reference's search for connected places. By an AI agent; no person has read it.
-/
namespace Go.Proofs.YtihompplndcdeaaGreat
open Go.Aw Go
set_option maxRecDepth 20000
attribute [local irreducible] CJ LJ DJ Tri YV Gives Jd5 Jbd Jbz Jd4 RV Jbf OwL.L
section
variable {A9 B9:Prop}
theorem J7a (a:A9) (h:A9→B9:=by exact Ja2 (by first | exact Jag tb rfl rfl rfl rfl (by first | assumption | exact zr (by simp)) (i:=i) (by first | rfl | omega | (simp;omega)) (by omega) | exact Jal tb rfl rfl rfl rfl (i:=i) (by first | rfl | omega | (simp;omega)) (by omega)) rfl):B9:=h a
theorem J7h (a:A9) (h:A9→B9:=by exact Jbu (Jaz tb ((⟨o10,l⟩:OwL Bool)) rfl rfl rfl (by repeat (first | apply OSeg.cons | exact OSeg.here | exact OSeg.last | exact OSeg.at (by assumption) | apply OSeg.app)) (by assumption) (fun _=>rfl) (by assumption) (by rfl)) rfl rfl rfl):B9:=h a
theorem J6o (a:A9) (h:A9→B9:=by exact Jbu (Jak tb ((⟨o10,l⟩:OwL Bool)) _ rfl rfl ((show _=Value.slice _ _ _ from rfl).trans (by simp only [OwL.val,hll])) rfl (by assumption) (i:=r.to.toNat) (by first | rfl | omega | (simp;omega)) (by first | omega | (dsimp only;omega) | (dsimp only;rw [List.length_set];omega) | (dsimp only;simp only [List.length_set];omega))) rfl rfl rfl):B9:=h a
end
theorem Jun (m:XMine) (seen:Arr Bool) (L:List Blk) (R:List Sl) (hm:MineR m R) (hs:InR (J2v seen) R) (hok:MineOk m) (hl:seen.l.length=m.places.l.length):
    Tri Tryz.prog 97 [m.val,seen.val].toArray L R (fun w L' R'=>∃p:OwL Bool,w=p.val∧p.ok 1 blc∧FromIs m seen.l p.l∧p.L 4 blc ++ L=L'∧R=R'):=by
  have hro:=hm.roads
  have hnp:=hok.places
  have hnr:=hok.roads
  refine Jae 49 Tryz.call97 Tryz.func97 rfl rfl rfl ?_
  refine Xai ?_
  intro b2
  refine Xbn ?_
  refine qbm ?_
  refine Jfo (Jcx (f:=blc) (xs:=seen) tb rfl rfl rfl (by decide) rfl rfl (hs) (fun _=>rfl) (by omega)) rfl ?_
  rintro v L' R' ⟨o10,rfl,hok10,rfl,rfl⟩
  refine Xa4 ?_
  refine qaz ?_
  refine qa2 ?_
  refine Jai [(2,Value.pointer _),(5,Value.slice _ _ _),(6,Value.bool _)] (by repeat' (first | exact trivial | refine And.intro rfl ?_)) fun tq0=>?_
  refine q_p [6,7,8,11,12,13,14,15,16,17,18,19,20,21,22,23,24,25,26,27,28,29,30,31,32,33,34,35,36,37,38,39,40,41,42,43,44,45,46,47] ((⟨fun q=>[(6,.bool q.1.1)],fun q=>(⟨o10,q.1.2⟩:OwL Bool).L 4 blc ++ (⟨b2,m.cells,31⟩ :: L),fun _=>R,fun q=>Jda q.1.2 * 2 + (if q.1.1=true then 1 else 0)⟩:Head {q:Bool×List Bool // (⟨o10,q.2⟩:OwL Bool).ok 1 blc∧FromTo m seen.l q.2∧(q.1=false→∀r∈m.roads.l,r.closed=false→q.2.getD r.fr.toNat false=q.2.getD r.to.toNat false)})) (⟨(true,seen.l),hok10,FromTo.init,fun h=>by cases h⟩) ?_
  rintro ⟨⟨again,l0⟩,q1,q2,q3⟩ junk
  try dsimp only
  dsimp only at q1 q2 q3
  refine qbi ?_
  refine Xdi ?_
  refine q_c (fun hc0=>?_) (fun hc0=>?_)
  ·
   refine Ja3 (Jaa (Ja1 (Jam (Jaf ?_))))
   refine Xbr ?_
   refine Xas ?_
   refine Jb8 [6,7,8,11,12,13,14,15,16,17,18,19,20,21,22,23,24,25,26,27,28,29,30,31,32,33,34,35,36,37,38,39,40,41,42,43,44,45,46,47] (by repeat (first | apply Off.upd rfl | apply Off.havoc rfl | refine Off.updL (t':=havoc _ _ _) rfl ?_ | exact Off.refl)) [(6,Value.bool _),(7,Value.int _ _)] (by repeat' (first | exact trivial | refine And.intro rfl ?_)) fun tq1=>?_
   refine q_p [6,7,8,12,13,14,15,16,17,18,19,20,21,22,23,24,25,26,27,28,29,30,31,32,33,34,35,36,37,38,39,40,41,42,43,44,45,46,47] ((⟨fun q=>[(7,.int .i64 ((q.1.1:Nat):Int)),(6,.bool q.1.2.1)],fun q=>(⟨o10,q.1.2.2⟩:OwL Bool).L 4 blc ++ (⟨b2,m.cells,31⟩ :: L),fun _=>R,fun q=>m.roads.l.length - q.1.1⟩:Head {q:Nat×Bool×List Bool // q.1≤m.roads.l.length∧(⟨o10,q.2.2⟩:OwL Bool).ok 1 blc∧FromTo m seen.l q.2.2∧(q.2.1=true→Jda q.2.2 < Jda l0)∧(q.2.1=false→q.2.2=l0∧∀(j:Nat) (r:XRoad),j < q.1→m.roads.l[j]?=some r→r.closed=false→l0.getD r.fr.toNat false=l0.getD r.to.toNat false)})) (⟨(0,false,l0),by dsimp only;omega,q1,q2,(fun h=>by cases h),fun _=>⟨rfl,fun j r hj=>by omega⟩⟩) ?_
   rintro ⟨⟨i,ch,l⟩,w1,w2,w3,w4,w5⟩ junk
   try dsimp only
   dsimp only at w1 w2 w3 w4 w5
   have hll:=w3.len
   refine Xbo ?_
   refine q_c (fun hc1=>?_) (fun hc1=>?_)
   ·
    have hr0:=Jan (l:=m.roads.l) (k:=i) default (by omega)
    have hrk:=hok.road i _ hr0
    obtain ⟨r,hrr0⟩:∃r,r=m.roads.l.getD i default:=⟨_,rfl⟩
    rw [← hrr0] at hr0 hrk
    have hr1:=hrk.fr
    have hr2:=hrk.to
    have hr3:=hrk.ne
    have hgf:=Jan (l:=l) (k:=r.fr.toNat) false (by omega)
    have hgt:=Jan (l:=l) (k:=r.to.toNat) false (by omega)
    refine Xdd ?_
    refine J7a ?_
    refine Xda ?_
    intro b8
    refine Xd6 ?_
    refine Jbb tb [0,1,2,3,4,5,6,7,8,9,10,11,12,13,14,15] ([Blk.mk b8 _ _] ++ ((⟨o10,l⟩:OwL Bool).L 4 blc ++ [])) Jbn (by kernel_rfl) (by repeat (first | exact zs0 _ | exact zs1 _ | apply zs2 | apply zs3 | apply zs4 | apply zs5)) ?_
    refine Xae ?_
    refine Jbu (Jpe rfl) rfl rfl rfl ?_
    refine qb2 ?_
    refine Jcz (k:=27) (show _=Value.bool _ from rfl) (fun hg3=>?_) (fun hg3=>?_)
    ·
     replace hg3:=qb hg3
     refine Jbu (Jar (show _=Value.slice _ _ _ from rfl)) rfl rfl rfl ?_
     refine Xae ?_
     refine Jbu (Jak tb ((⟨o10,l⟩:OwL Bool)) _ rfl rfl ((show _=Value.slice _ _ _ from rfl).trans (by simp only [OwL.val,hll])) rfl (by assumption) (i:=r.fr.toNat) (by first | rfl | omega | (simp;omega)) (by first | omega | (dsimp only;omega) | (dsimp only;rw [List.length_set];omega) | (dsimp only;simp only [List.length_set];omega))) rfl rfl rfl ?_
     refine J7h ?_
     refine Jbu (Jar (show _=Value.slice _ _ _ from rfl)) rfl rfl rfl ?_
     refine Xae ?_
     refine J6o ?_
     refine J7h ?_
     refine Jbu (Ju1 tb rfl rfl rfl) rfl rfl rfl ?_
     refine Xb0 ?_
     refine q_c (fun hc2=>?_) (fun hc2=>?_)
     ·
      refine Ja8 tb [43,44,45] [0,1,2,3,4,5,6] [7,8,9,10] ([Blk.mk b8 _ _]) _ Jbn (by kernel_rfl) (by repeat (first | exact zs0 _ | exact zs1 _ | apply zs2 | apply zs3 | apply zs4 | apply zs5)) (List.Sublist.refl _) ?_
      refine Xdz ?_
      refine Jgc (Jar (show _=Value.slice _ _ _ from rfl)) rfl rfl rfl rfl ?_
      refine Xch ?_
      refine Jca (Jak tb ((⟨o10,l⟩:OwL Bool)) _ rfl rfl ((show _=Value.slice _ _ _ from rfl).trans (by simp only [OwL.val,hll])) rfl (by assumption) (i:=r.fr.toNat) (by first | rfl | omega | (simp;omega)) (by first | omega | (dsimp only;omega) | (dsimp only;rw [List.length_set];omega) | (dsimp only;simp only [List.length_set];omega))) rfl rfl rfl rfl ?_
      refine qba ?_
      refine Jpj (Jas tb ((⟨o10,l⟩:OwL Bool)) (true) rfl rfl rfl rfl (by repeat (first | apply OSeg.cons | exact OSeg.here | exact OSeg.last | exact OSeg.at (by assumption) | apply OSeg.app)) (by assumption) (fun _=>rfl) (by assumption) (by decide) (by rfl) (by rfl)) rfl rfl ?_
      rintro v L' R' ⟨rfl,rfl⟩
      refine qa1 ?_
      refine J6o ?_
      have hq3:(l.set r.fr.toNat true)[r.to.toNat]?=some (l.getD r.to.toNat false):=by rw [List.getElem?_set_ne (by omega)];exact hgt
      have hk3:(⟨o10,l.set r.fr.toNat true⟩:OwL Bool).ok 1 blc:=OwL.len_ok Jdk w2 (by simp)
      refine Jpj (Jas tb ((⟨o10,l.set r.fr.toNat true⟩:OwL Bool)) (true) rfl rfl rfl rfl (by repeat (first | apply OSeg.cons | exact OSeg.here | exact OSeg.last | exact OSeg.at (by assumption) | apply OSeg.app)) (by assumption) (fun _=>rfl) (by assumption) (by decide) (by rfl) (by rfl)) rfl rfl ?_
      rintro v L' R' ⟨rfl,rfl⟩
      refine qa1 ?_
      refine Jbu (Jcg (show _=Value.bool _ from rfl)) rfl rfl rfl ?_
      refine Xca ?_
      have hne:l.getD r.fr.toNat false≠l.getD r.to.toNat false:=by simpa using hc2
      have hcl:r.closed=false:=by simpa using hg3
      have hst:Step m r.fr.toNat r.to.toNat:=⟨r,List.mem_of_getElem? hr0,hcl,.inl ⟨by omega,by omega⟩⟩
      have hlt:=Jxx (l:=l) (u:=r.fr.toNat) (v:=r.to.toNat) (by omega) (by omega) hne
      have hle:Jda l≤Jda l0:=by
        cases ch with
        | true=>have:=w4 rfl;omega
        | false=>rw [(w5 rfl).1];exact Nat.le_refl _
      exact q_k ⟨(i + 1,true,(l.set r.fr.toNat true).set r.to.toNat true),by dsimp only;omega,OwL.len_ok Jdk w2 (by simp),w3.next hst (by omega) (by omega) hne,fun _=>by dsimp only;omega,fun h=>by cases h⟩
     refine Xa1 ?_
     have hag:r.closed=false→l.getD r.fr.toNat false=l.getD r.to.toNat false:=by
       intro hcc
       first
         | (simpa using hc2)
         | (simp [hcc] at hg3)
     exact Jat ⟨(i + 1,ch,l),by dsimp only;omega,w2,w3,w4,fun h=>⟨(w5 h).1,fun j r2 hj hj2 hjc=>by
       rcases Nat.lt_or_ge j i with h1 | h1
       · exact (w5 h).2 j r2 h1 hj2 hjc
       · obtain rfl : j = i := by omega
         rw [hr0] at hj2
         cases hj2
         rw [← (w5 h).1]
         exact hag hjc⟩⟩ (by repeat (first | exact Off.refl | apply Off.upd rfl | apply Off.havoc rfl | apply Off.updL rfl | apply Off.left rfl)) (by repeat' (first | exact trivial | refine And.intro rfl ?_)) (by repeat (first | exact zs0 _ | exact zs1 _ | apply zs2 | apply zs3 | apply zs4 | apply zs5)) (Jac _) (by dsimp only;omega)
    replace hg3:=qb hg3
    iterate 11 refine qap ?_
    refine Xb0 ?_
    refine Jcr rfl ?_
    refine Xa1 ?_
    have hag:r.closed=false→l.getD r.fr.toNat false=l.getD r.to.toNat false:=by
      intro hcc
      first
        | (simpa using hc2)
        | (simp [hcc] at hg3)
    exact Jat ⟨(i + 1,ch,l),by dsimp only;omega,w2,w3,w4,fun h=>⟨(w5 h).1,fun j r2 hj hj2 hjc=>by
      rcases Nat.lt_or_ge j i with h1 | h1
      · exact (w5 h).2 j r2 h1 hj2 hjc
      · obtain rfl : j = i := by omega
        rw [hr0] at hj2
        cases hj2
        rw [← (w5 h).1]
        exact hag hjc⟩⟩ (by repeat (first | exact Off.refl | apply Off.upd rfl | apply Off.havoc rfl | apply Off.updL rfl | apply Off.left rfl)) (by repeat' (first | exact trivial | refine And.intro rfl ?_)) (by repeat (first | exact zs0 _ | exact zs1 _ | apply zs2 | apply zs3 | apply zs4 | apply zs5)) (Jac _) (by dsimp only;omega)
   obtain rfl:i=m.roads.l.length:=by omega
   have hmeas:Jda l * 2 + (if ch=true then 1 else 0) < Jda l0 * 2 + (if again=true then 1 else 0):=by
     rw [if_pos hc0]
     cases ch with
     | true=>have:=w4 rfl;simp;omega
     | false=>rw [(w5 rfl).1];simp
   refine Jb6 (Jbk (Jcf (Ja6 (Jao ?_))))
   exact Jat ⟨(ch,l),w2,w3,fun h r hr hcc=>by obtain ⟨j,hj⟩:=List.mem_iff_getElem?.1 hr;rw [(w5 h).1];exact (w5 h).2 j r (List.getElem?_eq_some_iff.1 hj).1 hj hcc⟩ (by repeat (first | exact Off.refl | apply Off.upd rfl | apply Off.havoc rfl | apply Off.updL rfl | apply Off.left rfl)) (by repeat' (first | exact trivial | refine And.intro rfl ?_)) (by repeat (first | exact zs0 _ | exact zs1 _ | apply zs2 | apply zs3 | apply zs4 | apply zs5)) (Jac _) hmeas
  have hll:=q2.len
  refine Xb5 ?_
  refine q_r (L':=(⟨o10,l0⟩:OwL Bool).L 4 blc ++ L) (R':=R) (Jdi rfl (Jah (show _=Value.slice _ _ _ from rfl))) ?_
  exact ⟨⟨o10,l0⟩,by simp only [OwL.val,hll],q1,q2.done (q3 (by simpa using hc0)),rfl,rfl⟩
theorem Jy9 {m:XMine} {p:OwL Bool} {A:List Blk} {R:List Sl} (hin:InB (p.L 4 blc) A) (hk:p.ok 1 blc) (hm:MineR m R) (hok:MineOk m) (hl:p.l.length=m.places.l.length):
    Tri Tryz.prog 97 [m.val,p.val].toArray A R (fun w L' R'=>∃q:OwL Bool,w=q.val∧q.ok 1 blc∧FromIs m p.l q.l∧A ++ q.L 4 blc=L'∧R=R'):=by
  have h:=Jun m p.arr [] ([J2v p.arr] ++ R) ⟨hm.places.mono fun r h=>Jab (.tail _ h),hm.roads.mono fun r h=>Jab (.tail _ h)⟩ (Jab (.head _)) hok hl
  have h2:=Tri.lend (S:=[J2v p.arr]) (Post:=fun v L'=>∃q:OwL Bool,v=q.val∧q.ok 1 blc∧FromIs m p.l q.l∧q.L 4 blc ++ []=L') (Spl.rest (L:=A)) (fun w G hh s hs=>by
    rw [List.mem_singleton.1 hs]
    exact Jc3 hh hin hk Jdk (by decide) (fun s hs=>by cases hs)) (h.mono fun v L' R' ⟨q,a1,a2,a3,a4,a5⟩=>⟨⟨q,a1,a2,a3,a4⟩,a5⟩)
  exact h2.mono fun v L'' R' ⟨L',e,⟨q,a1,a2,a3,a4⟩,a5⟩=>⟨q,a1,a2,a3,by rw [← a4,List.append_nil] at e;exact e,a5⟩
theorem Jrb (m:XMine) (L:List Blk) (R:List Sl) (hm:MineR m R) (hok:MineOk m):
    Tri Tryz.prog 69 [m.val].toArray L R (fun w L' R'=>∃p:OwL Bool,w=p.val∧p.ok 1 blc∧AiryIs m p.l∧L ++ p.L 4 blc=L'∧R=R'):=by
  have hpl:=hm.places
  have hnp:=hok.places
  refine Jae 28 Tryz.call69 Tryz.func69 rfl rfl rfl ?_
  refine Xai ?_
  intro b1
  refine Xbn ?_
  refine Xab ?_
  refine qc7 ?_
  rintro v L' R' ⟨b8,rfl,rfl,hR8⟩
  replace hR8:=hR8.symm;subst hR8
  refine Xc9 ?_
  refine Jai [(1,Value.pointer _),(3,Value.slice _ _ _),(4,Value.int _ _)] (by repeat' (first | exact trivial | refine And.intro rfl ?_)) fun tq0=>?_
  refine Jg5 (Jf1 (f:=blc) (x:=false) rfl _) ?_
  refine q_p [4,9,10,11,12,13,14,15,16,17,18,19,20,21,22,23,24] ((⟨fun q=>[(4,.int .i64 ((q.1.1:Nat):Int))],fun q=>(⟨.own b8 m.places.l.length [],q.1.2⟩:OwL Bool).L 4 blc ++ (⟨b1,m.cells,31⟩ :: L),fun _=>R,fun q=>m.places.l.length - q.1.1⟩:Head {q:Nat×List Bool // q.1≤m.places.l.length∧q.2.length=m.places.l.length∧∀(j:Nat) (p:XPlace),j < q.1→m.places.l[j]?=some p→q.2[j]?=some p.surface})) (⟨(0,List.replicate m.places.l.length false),by dsimp only;omega,by simp,fun j p hj=>by omega⟩) ?_
  rintro ⟨⟨i,l⟩,q1,hll,q3⟩ junk
  try dsimp only
  dsimp only at q1 hll q3
  have hkl:(⟨.own b8 m.places.l.length [],l⟩:OwL Bool).ok 1 blc:=by have:=Jen (f:=blc) (wd:=1) (b:=b8) (n:=m.places.l.length) (x:=false) Jdk (by simp only [maxLen];omega);exact OwL.len_ok Jdk this (by simp;exact hll)
  refine Xbo ?_
  refine q_c (fun hc0=>?_) (fun hc0=>?_)
  ·
   have hpg:=Jan (l:=m.places.l) (k:=i) default (by omega)
   have hlg:=Jan (l:=l) (k:=i) false (by omega)
   refine Ja3 (Jaa (Jam (Ja1 (Jaf ?_))))
   refine Xad ?_
   refine Xak ?_
   refine J7a ?_
   refine Xba ?_
   refine Ja2 (Jak tb ((⟨.own b8 m.places.l.length [],l⟩:OwL Bool)) _ rfl rfl ((show _=Value.slice _ _ _ from rfl).trans (Jed hll)) rfl (by assumption) (i:=i) (by first | rfl | omega | (simp;omega)) (by first | omega | (dsimp only;omega) | (dsimp only;rw [List.length_set];omega) | (dsimp only;simp only [List.length_set];omega))) rfl ?_
   refine Jfa (Jas tb ((⟨.own b8 m.places.l.length [],l⟩:OwL Bool)) ((m.places.l.getD i default).surface) rfl rfl rfl rfl (by repeat (first | apply OSeg.cons | exact OSeg.here | exact OSeg.last | exact OSeg.at (by assumption) | apply OSeg.app)) (by assumption) (fun _=>rfl) (by assumption) (by decide) (by rfl) (by rfl)) ?_
   rintro v L' R' ⟨rfl,rfl⟩
   refine Xa8 ?_
   exact Jat ⟨(i + 1,l.set i (m.places.l.getD i default).surface),by dsimp only;omega,by simp;exact hll,fun j p hj hp=>by
   rw [List.getElem?_set]
   split
   · rename_i e;subst e;rw [if_pos (by omega)];rw [hpg] at hp;cases hp;rfl
   · rename_i e;exact q3 j p (by dsimp only at hj;omega) hp⟩ (by repeat (first | exact Off.refl | apply Off.upd rfl | apply Off.havoc rfl | apply Off.updL rfl | apply Off.left rfl)) (by repeat' (first | exact trivial | refine And.intro rfl ?_)) (by repeat (first | exact zs0 _ | exact zs1 _ | apply zs2 | apply zs3 | apply zs4 | apply zs5)) (Jac _) (by dsimp only;omega)
  obtain rfl:i=m.places.l.length:=by omega
  have hsf:l=Jud m:=by
    refine List.ext_getElem? fun j=>?_
    rcases Nat.lt_or_ge j m.places.l.length with h | h
    · have hp := Jan (l := m.places.l) (k := j) default h
      rw [q3 j _ h hp,Jud,List.getElem?_map,hp];rfl
    · rw [List.getElem?_eq_none (by omega),List.getElem?_eq_none (by simp [Jud];exact h)]
  refine qbk ?_
  refine qbe ?_
  refine qbm ?_
  refine Jaq rfl (Tri.cast (Jy9 (p:=(⟨.own b8 m.places.l.length [],l⟩:OwL Bool)) (by repeat (first | exact Jaw | apply Jau | apply Jba)) hkl hm hok hll) (by show #[_,Value.slice _ (List.length _) _]=_;rw [hll];rfl)) rfl ?_
  rintro v L' R' ⟨p,rfl,hp,hF,rfl,rfl⟩
  simp only [List.append_assoc,List.cons_append,List.nil_append]
  refine Xbi ?_
  refine q_r (L':=L ++ p.L 4 blc) (R':=R) (Jdi rfl (Jah (show _=Value.slice _ _ _ from rfl))) ?_
  exact ⟨p,rfl,hp,by rw [hsf] at hF;exact hF,rfl,rfl⟩
end Go.Proofs.YtihompplndcdeaaGreat
end
