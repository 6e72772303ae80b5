import Derived.Test.YtihompplndcdeaaGreatSolveR
import Derived.Test.YtihompplndcdeaaGreatAnal
import Derived.Test.YtihompplndcdeaaGreatComp
import Derived.Test.YtihompplndcdeaaGreatCircS
section
/-
  Raising and lowering: what they leave. By an AI agent; no person has read it.
-/
namespace Go.Proofs.YtihompplndcdeaaGreat
open Go.Aw Go
section
variable {a:XAir} {s:XSetting} {A:List Bool} {l m:List Int} {k:Nat} {v:Int}
theorem J0h (h0:PresOk l) (h:Jet a s true l k=some v):l.getD k 0≤v∧0≤Jps a s (l.set k v) (k:Int)∧∀w,l.getD k 0≤w→w < v→Jps a s (l.set k w) (k:Int) < 0:=by
  obtain ⟨d,d0,d1,dv,dg,dj⟩:=(Jkf (Joz (h0.get k)).1 h).yes rfl
  have e:∀x,Jrq a s true l (k:Int) x=Juc a s l (k:Int) x:=fun x=>by rw [Jrq,if_pos rfl]
  rw [e,decide_eq_true_eq,Int.toNat_natCast] at dg
  have es:sgn true=1:=rfl
  rw [es] at dv dj
  refine ⟨by omega,dg,fun w w1 w2=>?_⟩
  have:=dj (w - l.getD k 0) (by omega) (by omega)
  rw [show l.getD k 0 + 1 * (w - l.getD k 0)=w by omega,e,decide_eq_false_iff_not,Int.toNat_natCast] at this
  omega
theorem Jt5 (h0:PresOk l) (h:Jet a s false l k=some v):v≤l.getD k 0∧Jg3 a s (l.set k v) (k:Int)≤0∧∀w,w≤l.getD k 0→v < w→0 < Jg3 a s (l.set k w) (k:Int):=by
  obtain ⟨d,d0,d1,dv,dg,dj⟩:=(Jkf (Joz (h0.get k)).1 h).yes rfl
  have e:∀x,Jrq a s false l (k:Int) x=Jjm a s l (k:Int) x:=fun x=>by rw [Jrq,if_neg (by decide)]
  rw [e,decide_eq_true_eq,Int.toNat_natCast] at dg
  have es:sgn false= -1:=rfl
  rw [es] at dv dj
  refine ⟨by omega,dg,fun w w1 w2=>?_⟩
  have:=dj (l.getD k 0 - w) (by omega) (by omega)
  rw [show l.getD k 0 + -1 * (l.getD k 0 - w)=w by omega,e,decide_eq_false_iff_not,Int.toNat_natCast] at this
  omega
end
theorem Jks {a : XAir} {s : XSetting} {A : List Bool} {up : Bool} {l : List Int} : ∀ {n : Nat} {m : List Int}, Jck a s A up l n = some m → ∀ k, k ≤ n → ∃ mk, Jck a s A up l k = some mk ∧ ∀ j : Nat, j < k → m[j]? = mk[j]?
  | 0,m,h,k,hk=>by
    obtain rfl:k=0:=by omega
    exact ⟨m,h,fun j hj=>by omega⟩
  | n + 1,m,h,k,hk=>by
    rcases Nat.lt_or_ge n k with h1 | h1
    · obtain rfl : k = n + 1 := by omega
      exact ⟨m,h,fun _ _=>rfl⟩
    · have h' := h
      rw [Jck,Option.bind_eq_some_iff] at h'
      obtain ⟨m1,e1,e2⟩:=h'
      obtain ⟨mk,f1,f2⟩:=Jks e1 k h1
      refine ⟨mk,f1,fun j hj=>?_⟩
      rw [← f2 j hj]
      split at e2
      · cases e2;rfl
      · obtain ⟨v, _, rfl⟩ := Option.map_eq_some_iff.1 e2
        rw [List.getElem?_set_ne (by omega)]
theorem J0x {a:XAir} {s:XSetting} {A:List Bool} {up:Bool} {l:List Int} (hl:PresOk l) (hn:l.length=a.mine.places.l.length) (h:Jck a s A up l a.mine.places.l.length=some l) {k:Nat} (hk:k < a.mine.places.l.length) (hf:¬ Jlc a A k=true):Jet a s up l k=some (l.getD k 0):=by
  obtain ⟨m1,e1,e2⟩:=Jks h (k + 1) (by omega)
  have e1':=e1
  rw [Jck,Option.bind_eq_some_iff] at e1'
  obtain ⟨m0,f1,f2⟩:=e1'
  obtain ⟨m0',g1,g2⟩:=Jks h k (by omega)
  rw [f1] at g1
  cases g1
  have hS:=Je7 hl f1
  have em:m0=l:=List.ext_getElem? fun j=>by
    rcases Nat.lt_or_ge j k with h1 | h1
    · exact (g2 j h1).symm
    · exact hS.rest j h1
  subst em
  rw [if_neg hf] at f2
  obtain ⟨v,hv,rfl⟩:=Option.map_eq_some_iff.1 f2
  have:=e2 k (by omega)
  rw [List.getElem?_set_self (by omega),Jan (l:=m0) (k:=k) 0 (by omega)] at this
  rw [hv,Option.some.inj this]
structure Moved (a:XAir) (A:List Bool) (up:Bool) (l m:List Int):Prop where
  len:m.length=l.length
  le:∀j:Nat,if up=true then l.getD j 0≤m.getD j 0 else m.getD j 0≤l.getD j 0
  fix:∀j:Nat,Jlc a A j=true→m.getD j 0=l.getD j 0
theorem Moved.refl {a:XAir} {A:List Bool} {up:Bool} {l:List Int}:Moved a A up l l:=⟨rfl,fun j=>by split <;> exact Int.le_refl _,fun _ _=>rfl⟩
theorem Moved.trans {a:XAir} {A:List Bool} {up:Bool} {l m n:List Int} (h:Moved a A up l m) (k:Moved a A up m n):Moved a A up l n:=by
  refine ⟨k.len.trans h.len,fun j=>?_,fun j hj=>(k.fix j hj).trans (h.fix j hj)⟩
  have h1:=h.le j
  have h2:=k.le j
  split at h1
  · rename_i e;rw [if_pos e] at h2;rw [if_pos e];omega
  · rename_i e;rw [if_neg e] at h2;rw [if_neg e];omega
theorem Jn3 {a : XAir} {s : XSetting} {A : List Bool} {up : Bool} {l : List Int} (hl : PresOk l) : ∀ {n : Nat} {m : List Int}, n ≤ l.length → Jck a s A up l n = some m → Moved a A up l m
  | 0,m,_,h=>by cases h;exact .refl
  | n + 1,m,hn,h=>by
    have h':=h
    rw [Jck,Option.bind_eq_some_iff] at h'
    obtain ⟨m0,e1,e2⟩:=h'
    have ih:=Jn3 hl (by omega) e1
    have hS:=Je7 hl e1
    have hlen:=hS.len
    split at e2
    · cases e2;exact ih
    · rename_i hf
      obtain ⟨v,hv,rfl⟩:=Option.map_eq_some_iff.1 e2
      refine ih.trans ⟨by simp,fun j=>?_,fun j hj=>?_⟩
      · rw [Jha (by omega)]
        cases up with
        | true=>
          have:=(J0h hS.pres hv).1
          simp only [if_true]
          split
          · rename_i e;subst e;exact this
          · exact Int.le_refl _
        | false=>
          have:=(Jt5 hS.pres hv).1
          simp only [Bool.false_eq_true,if_false]
          split
          · rename_i e;subst e;exact this
          · exact Int.le_refl _
      · rw [Jha (by omega),if_neg (fun e=>hf (by rw [← e];exact hj))]
theorem Jir {a : XAir} {s : XSetting} {A : List Bool} {up : Bool} : ∀ {n : Nat} {l m : List Int}, PresOk l → l.length = a.mine.places.l.length → Jcv a s A up n l = some m → Moved a A up l m
  | 0,l,m,_,_,h=>by cases h
  | n + 1,l,m,hl,hn,h=>by
    rw [Jcv] at h
    split at h
    · cases h
    · rename_i m1 h1
      have hs:=Je7 hl h1
      have hm:=Jn3 hl (by omega) h1
      split at h
      · cases h;exact hm
      · exact hm.trans (Jir hs.pres (hs.len.trans hn) h)
theorem Jqg {a:XAir} {s:XSetting} {A:List Bool} {n:Nat} {l m:List Int} {up:Bool} (hl:PresOk l) (hn:l.length=a.mine.places.l.length) (h:Jcv a s A up n l=some m) {k:Nat} (hk:k < a.mine.places.l.length) (hf:¬ Jlc a A k=true):
    if up=true then 0≤Jps a s m (k:Int) else Jg3 a s m (k:Int)≤0:=by
  obtain ⟨h1,h2,h3⟩:=Jiw hl h
  have hx:=J0x h2 (h1.trans hn) h3 hk hf
  cases up with
  | true=>
    have:=(J0h h2 hx).2.1
    rw [Jgq] at this
    simpa using this
  | false=>
    have:=(Jt5 h2 hx).2.1
    rw [Jgq] at this
    simpa using this
theorem Ji0 {a:XAir} {s:XSetting} {A:List Bool} {up:Bool} {ps:List Int} (h:StartOk a s ps A):(Jbj a s A up ps).1=0∨(Jbj a s A up ps).1=2:=by
  rw [Jbj,if_neg (by rw [Jfz.2 h];decide)]
  split
  · exact .inr rfl
  · exact .inl rfl
theorem StartOk.moved {a:XAir} {s:XSetting} {A:List Bool} {up:Bool} {l:List Int} (h:StartOk a s l A) {n:Nat} {m:List Int} (hm:Jcv a s A up n l=some m):StartOk a s m A:=by
  obtain ⟨h1,h2,_⟩:=Jiw h.hp hm
  have h3:=Jir h.hp h.hl hm
  exact ⟨h.h0,h.hf,h1.trans h.hl,h2,fun i hi hf=>(h3.fix i hf).trans (h.fix i hi hf)⟩
theorem Jyl {a:XAir} {s:XSetting} {A:List Bool} (h0:Ja4 a=0) (hf:Jdq a s=true):StartOk a s (List.replicate a.mine.places.l.length 0) A:=by
  refine ⟨h0,hf,by simp,fun p hp=>?_,fun i hi _=>?_⟩
  · rw [(List.mem_replicate.1 hp).2];decide
  · rw [List.getD_eq_getElem?_getD, List.getElem?_replicate]
    split <;> rfl
structure Solved (a:XAir) (s:XSetting) (A:List Bool) (lo hi:List Int):Prop where
  lok:StartOk a s lo A
  hok:StartOk a s hi A
  le:∀i:Nat,lo.getD i 0≤hi.getD i 0
  low:∀i:Nat,i < a.mine.places.l.length→¬ Jlc a A i=true→Jg3 a s lo (i:Int)≤0
  high:∀i:Nat,i < a.mine.places.l.length→¬ Jlc a A i=true→0≤Jps a s hi (i:Int)
theorem Jvd {a:XAir} {s:XSetting} {A:List Bool} (h0:Ja4 a=0) (hf:Jdq a s=true):((Jc1 a s A).1=0∧Solved a s A (Jc1 a s A).2.1 (Jc1 a s A).2.2)∨(Jc1 a s A).1=2:=by
  have s0:=Jyl (A:=A) h0 hf
  rw [Jc1]
  dsimp only
  rcases Ji0 (up:=false) s0 with e1 | e1
  · rw [if_neg (by omega)]
    obtain ⟨_,r1⟩:=Jow e1
    have s1:=s0.moved r1
    rcases Ji0 (up:=true) s1 with e2 | e2
    · rw [if_neg (by omega)]
      obtain ⟨_,r2⟩:=Jow e2
      have s2:=s1.moved r2
      rcases Ji0 (up:=false) s2 with e3 | e3
      · rw [if_neg (by omega)]
        obtain ⟨_,r3⟩:=Jow e3
        have s3:=s2.moved r3
        left
        refine ⟨rfl,s3,s2,fun i=>?_,fun i hi hn=>?_,fun i hi hn=>?_⟩
        · have := (Jir s2.hp s2.hl r3).le i
          simpa using this
        · have := Jqg s2.hp s2.hl r3 hi hn
          simpa using this
        · have := Jqg s1.hp s1.hl r2 hi hn
          simpa using this
      · rw [if_pos (by omega)]
        exact .inr e3
    · rw [if_pos (by omega)]
      exact .inr e2
  · rw [if_pos (by omega)]
    exact .inr e1
theorem Solved.accept {a:XAir} {s:XSetting} {A:List Bool} {lo hi:List Int} (h:Solved a s A lo hi) {b:XBounds} (e1:b.low.l=lo) (e2:b.high.l=hi):Accept a s b A:=by
  refine ⟨⟨h.lok.h0,h.lok.hf,by rw [e1];exact h.lok.hl,by rw [e2];exact h.hok.hl,by rw [e1];exact h.lok.hp,by rw [e2];exact h.hok.hp⟩,fun i hi2 hf=>?_,fun i hi2 hf=>?_⟩
  · rw [e1,e2];exact ⟨h.lok.fix i hi2 hf,h.hok.fix i hi2 hf⟩
  · rw [e1,e2];exact ⟨h.high i hi2 hf,h.low i hi2 hf⟩
end Go.Proofs.YtihompplndcdeaaGreat
end
section
/-
  What is known of the flows of a place below ground can be balanced. By an AI agent; no person has read it.
-/
namespace Go.Proofs.YtihompplndcdeaaGreat
open Go.Aw Go
theorem J5y {a:XAir} {s:XSetting} {A:List Bool} (h0:Ja4 a=0) (hf:Jdq a s=true) (hA:AiryIs a.mine A):
    (Jgi a s A).1=0∧((Accept a s (Jig a s A) A∧(∀i:Nat,(Jig a s A).low.l.getD i 0≤(Jig a s A).high.l.getD i 0)∧(Jgi a s A).2=(List.range a.mine.roads.l.length).map (Jb2 a s (Jig a s A) A))∨(Jgi a s A).2=(List.range a.mine.roads.l.length).map (Jer a)):=by
  have hfn:¬ Jdq a s=false:=by rw [hf];decide
  rw [Jgi,if_neg (by rw [h0];decide),if_neg hfn]
  rcases Jvd (A:=A) h0 hf with h | h
  · have hac : Accept a s (Jig a s A) A := h.2.accept rfl rfl
    rw [if_pos h.1,Jb5,if_pos (Jqn.2 hac)]
    exact ⟨rfl,.inl ⟨hac,h.2.le,rfl⟩⟩
  · rw [if_neg (by rw [h]; decide)]
    exact ⟨rfl,.inr rfl⟩
theorem Jl1 {a:XAir} {s:XSetting} {A:List Bool} (h0:Ja4 a=0) (hf:Jdq a s=true) (hA:AiryIs a.mine A):(Jgi a s A).2.length=a.mine.roads.l.length:=by
  rcases (J5y h0 hf hA).2 with ⟨_,_,e⟩ | e <;> rw [e] <;> simp
end Go.Proofs.YtihompplndcdeaaGreat
end
section
/-
  ref01.Spans: two lists of spans are alike. By an AI agent; no person has read it.
-/
namespace Go.Proofs.YtihompplndcdeaaGreat
open Go.Aw Go
set_option maxRecDepth 20000
attribute [local irreducible] CJ LJ DJ Tri YV Gives Jd5 Jbd Jbz Jd4 RV Jbf OwL.L
abbrev Jl8 (x:Arr XSpan):Sl:=x.sl 2 XSpan.cells []
end Go.Proofs.YtihompplndcdeaaGreat
end
section
/-
  Faces and their air: airflow.Fed and the reference's. By an AI agent; no person has read it.
-/
namespace Go.Proofs.YtihompplndcdeaaGreat
open Go.Aw Go
set_option maxRecDepth 20000
attribute [local irreducible] CJ LJ DJ Tri YV Gives Jd5 Jbd Jbz Jd4 RV Jbf OwL.L
section
variable {A9 B9:Prop}
theorem Jyu (a:A9) (h:A9→B9:=by exact Jfo (Jap (f:=Jad) (a:=_) tb rfl rfl rfl rfl (w2) (by repeat (first | apply OSeg.cons | exact OSeg.here | exact OSeg.last | exact OSeg.at (by assumption) | apply OSeg.app)) (Ja5 (by repeat (first | exact zi0 | apply zi1 | apply zi2)) rfl rfl) rfl (by first | omega | (simp only [List.length_cons,List.length_nil,List.length_append];omega))) rfl):B9:=h a
theorem J37 (a:A9) (h:A9→B9:=by exact Jbu (Jar (show _=Value.slice _ _ _ from rfl)) rfl rfl rfl):B9:=h a
theorem J8z (a:A9) (h:A9→B9:=by exact Ja2 (by first | exact Jag tb rfl rfl rfl rfl (by first | assumption | exact zr (by simp)) (i:=k) (by first | rfl | omega | (simp;omega)) (by omega) | exact Jal tb rfl rfl rfl rfl (i:=k) (by first | rfl | omega | (simp;omega)) (by omega)) rfl):B9:=h a
theorem J8h (a:A9) (h:A9→B9:=by exact Jbu (by first | exact Jag tb rfl rfl rfl rfl (by first | assumption | exact zr (by simp)) (i:=f.road.toNat) (by first | rfl | omega | (simp;omega)) (by omega) | exact Jal tb rfl rfl rfl rfl (i:=f.road.toNat) (by first | rfl | omega | (simp;omega)) (by omega)) rfl rfl rfl):B9:=h a
end
structure XFace where
  road:Int
  need:Int
  deriving Inhabited
def XFace.cells (s:XFace):List Value:=[.int .i64 s.road,.int .i64 s.need]
abbrev Jqk (x:Arr XFace):Sl:=x.sl 2 XFace.cells []
structure WrTo {α:Type} (n:Nat) (z:α) (g:Nat→α) (i:Nat) (l:List α):Prop where
  len:l.length=n
  don:∀j:Nat,j < i→l[j]?=some (g j)
  non:∀j:Nat,i≤j→j < n→l[j]?=some z
theorem WrTo.zero {α:Type} {n:Nat} {z:α} {g:Nat→α}:WrTo n z g 0 (List.replicate n z):=⟨by simp,fun j hj=>by omega,fun j _ hj=>by rw [List.getElem?_replicate,if_pos hj]⟩
theorem WrTo.next {α:Type} {n:Nat} {z:α} {g:Nat→α} {i:Nat} {l:List α} (h:WrTo n z g i l) (hi:i < n) {x:α} (hx:x=g i):WrTo n z g (i + 1) (l.set i x):=by
  have hl:=h.len
  refine ⟨by simp [hl],fun j hj=>?_,fun j h1 h2=>?_⟩
  · rw [List.getElem?_set]
    split
    · rename_i e;rw [if_pos (by omega),hx,e]
    · exact h.don j (by omega)
  · rw [List.getElem?_set_ne (by omega)]
    exact h.non j (by omega) h2
theorem WrTo.stay {α:Type} {n:Nat} {z:α} {g:Nat→α} {i:Nat} {l:List α} (h:WrTo n z g i l) (hi:i < n) (hx:z=g i):WrTo n z g (i + 1) l:=by
  refine ⟨h.len,fun j hj=>?_,fun j h1 h2=>h.non j (by omega) h2⟩
  rcases Nat.lt_or_ge j i with h1 | h1
  · exact h.don j h1
  · obtain rfl : j = i := by omega
    rw [h.non j (Nat.le_refl _) hi,hx]
theorem WrTo.done {α:Type} {n:Nat} {z:α} {g:Nat→α} {l:List α} (h:WrTo n z g n l):l=(List.range n).map g:=by
  have hl:=h.len
  refine List.ext_getElem? fun j=>?_
  rcases Nat.lt_or_ge j n with hj | hj
  · rw [h.don j hj,List.getElem?_map,List.getElem?_range hj];rfl
  · rw [List.getElem?_eq_none (by omega),List.getElem?_eq_none (by simp;omega)]
def Jux (x:XSpan) (need:Int):Int:=
  if x.high < x.low then 0 else if (need≤0∨need≤x.low)∨x.high≤ -need then 1 else if -need < x.low∧x.high < need then -1 else 0
def Jhr (fl:List XSpan) (f:XFace):Int:=if 0≤f.road∧f.road < fl.length then Jux (fl.getD f.road.toNat default) f.need else 0
def Jww (fl:List XSpan) (fc:List XFace):List Int:=(List.range fc.length).map fun k=>Jhr fl (fc.getD k default)
def Jfp (fc:List XFace):Prop:=∀f∈fc,-4611686018427387904≤f.need∧f.need≤4611686018427387904
theorem J3z (x:XSpan) (need:Int) (L:List Blk) (R:List Sl) (hn:-4611686018427387904≤need∧need≤4611686018427387904):
    Tri Tryz.prog 86 [x.val,.int .i64 need].toArray L R (fun v L' R'=>v=.int .i64 (Jux x need)∧L=L'∧R=R'):=by
  refine Jae 39 Tryz.call86 Tryz.func86 rfl rfl rfl ?_
  refine Xai ?_
  intro b2
  refine qad ?_
  refine Ja9 (Jaa (Jam (Ja1 (Jam (Jaf ?_)))))
  refine Xa3 ?_
  refine qa5 ?_
  refine Xbg ?_
  refine q_c (fun hc0=>?_) (fun hc0=>?_)
  ·
   refine Xd1 ?_
   refine q_i (L':=L) (R':=R) ?_
   exact ⟨by rw [Jux,if_pos hc0],rfl,rfl⟩
  refine Xc1 ?_
  refine qbx ?_
  refine qah ?_
  apply Jbw (G:=[_,_,_,_]) (j:=2) (cj:=14) rfl rfl (by rfl) rfl (show _=Value.bool _ from rfl) rfl
  ·
   intro hg3
   replace hg3:=qb hg3
   refine Xak ?_
   refine qbz ?_
   exact qai
  intro junk3
  refine qah ?_
  apply Jbw (G:=[_,_,_,_,_]) (j:=8) (cj:=20) rfl rfl (by rfl) rfl (show _=Value.bool _ from rfl) rfl
  ·
   intro hg9
   replace hg9:=qb hg9
   refine Xak ?_
   refine qcq ?_
   refine qbx ?_
   exact qai
  intro junk9
  refine Xbg ?_
  refine q_c (fun hc1=>?_) (fun hc1=>?_)
  ·
   refine Xd1 ?_
   refine q_i (L':=L) (R':=R) ?_
   exact ⟨by rw [Jux,if_neg (by omega),if_pos (by omega)],rfl,rfl⟩
  refine qae ?_
  refine Xak ?_
  refine qcq ?_
  refine qa5 ?_
  refine qah ?_
  apply Jcd (G:=[_,_,_,_]) (j:=5) (cj:=33) rfl rfl (by rfl) rfl (show _=Value.bool _ from rfl) rfl
  ·
   intro hg6
   replace hg6:=qb hg6
   refine Xak ?_
   refine qaj ?_
   exact qai
  intro junk6
  refine Xbg ?_
  refine q_c (fun hc2=>?_) (fun hc2=>?_)
  ·
   refine Xd1 ?_
   refine q_i (L':=L) (R':=R) ?_
   exact ⟨by rw [Jux,if_neg (by omega),if_neg (by omega),if_pos (by omega)],rfl,rfl⟩
  refine Ja3 (Jao (Jaa (Jam (Jaf ?_))))
  refine Xbe ?_
  refine q_i (L':=L) (R':=R) ?_
  exact ⟨by rw [Jux,if_neg (by omega),if_neg (by omega),if_neg (by omega)],rfl,rfl⟩
theorem Jwe (fl:Arr XSpan) (fc:Arr XFace) (L:List Blk) (R:List Sl) (hfl:InR (Jl8 fl) R) (hfc:InR (Jqk fc) R) (hn:Jfp fc.l) (hlen:fc.l.length≤1000) (hflen:fl.l.length≤1000):
    Tri Tryz.prog 57 [fl.val,fc.val].toArray L R (fun w L' R'=>∃p:OwL Int,w=p.val∧p.ok 1 Jad∧p.l=Jww fl.l fc.l∧p.L 3 Jad ++ L=L'∧R=R'):=by
  refine Jae 41 Tryz.call57 Tryz.func57 rfl rfl rfl ?_
  refine qae ?_
  refine Xbn ?_
  refine Xat ?_
  refine qc7 ?_
  rintro v L' R' ⟨b10,rfl,rfl,hR10⟩
  replace hR10:=hR10.symm;subst hR10
  refine Xdo ?_
  refine Jg5 (Jf1 (f:=Jad) (x:=0) rfl _) ?_
  refine qay ?_
  refine Xdj ?_
  refine Jai [(0,Value.slice _ _ _),(5,Value.slice _ _ _),(11,Value.slice _ _ _),(12,Value.int _ _),(13,Value.int _ _)] (by repeat' (first | exact trivial | refine And.intro rfl ?_)) fun tq0=>?_
  refine q_p [6,7,13,14,15,16,17,18,19,20,21,22,23,24,25,26,27,28,29,30,31,32,33,34,35,36,37,38,39] ((⟨fun g=>[(13,.int .i64 ((g.1.1:Nat):Int))],fun g=>(⟨.own b10 fc.l.length [],g.1.2⟩:OwL Int).L 3 Jad ++ L,fun _=>R,fun g=>fc.l.length - g.1.1⟩:Head {g:Nat×List Int // g.1≤fc.l.length∧WrTo fc.l.length 0 (fun k=>Jhr fl.l (fc.l.getD k default)) g.1 g.2})) (⟨(0,List.replicate fc.l.length 0),by dsimp only;omega,.zero⟩) ?_
  rintro ⟨⟨k,l⟩,w1,w2⟩ junk
  try dsimp only
  dsimp only at w1 w2
  have hll:=w2.len
  have hkq:(⟨.own b10 fc.l.length [],l⟩:OwL Int).ok 1 Jad:=by have:=Jen (f:=Jad) (wd:=1) (b:=b10) (n:=fc.l.length) (x:=0) Jcc (by simp only [maxLen];omega);exact OwL.len_ok Jcc this (by simp;exact hll)
  refine Xay ?_
  refine q_c (fun hc0=>?_) (fun hc0=>?_)
  ·
   have hfg:=Jan (l:=fc.l) (k:=k) default (by omega)
   have hlg:=w2.non k (Nat.le_refl _) (by omega)
   have hnd:=hn _ (List.mem_of_getElem? hfg)
   obtain ⟨f,hf⟩:∃f,f=fc.l.getD k default:=⟨_,rfl⟩
   rw [← hf] at hfg hnd
   refine Xb3 ?_
   refine J8z ?_
   refine Xdn ?_
   intro b7
   refine qad ?_
   refine Xc0 ?_
   refine qbz ?_
   refine qah ?_
   apply Jcd (G:=[_,_,_,_,_]) (j:=3) (cj:=21) rfl rfl (by rfl) rfl (show _=Value.bool _ from rfl) rfl
   ·
    intro hg4
    replace hg4:=qb hg4
    refine Xaa ?_
    refine Xat ?_
    refine qaj ?_
    exact qai
   intro junk4
   refine qaf ?_
   refine q_c (fun hc1=>?_) (fun hc1=>?_)
   ·
    have hsg:=Jan (l:=fl.l) (k:=f.road.toNat) default (by omega)
    have hfv:Jux (fl.l.getD f.road.toNat default) f.need=(fun k=>Jhr fl.l (fc.l.getD k default)) k:=by dsimp only;rw [← hf,Jhr,if_pos (by omega)]
    refine Ja8 tb [] [0,1,2,3,4,5,6,7,8,9,10] [11] ([Blk.mk b7 _ _]) _ Jbn (by kernel_rfl) (by repeat (first | exact zs0 _ | exact zs1 _ | apply zs2 | apply zs3 | apply zs4 | apply zs5)) (List.nil_sublist _) ?_
    refine qct ?_
    refine qbf ?_
    refine Xdz ?_
    refine Jca (by first | exact Jag tb rfl rfl rfl rfl (by first | assumption | exact zr (by simp)) (i:=f.road.toNat) (by first | rfl | omega | (simp;omega)) (by omega) | exact Jal tb rfl rfl rfl rfl (i:=f.road.toNat) (by first | rfl | omega | (simp;omega)) (by omega)) rfl rfl rfl rfl ?_
    refine qd1 ?_
    refine Xaf ?_
    refine Jbl rfl (J3z (fl.l.getD f.road.toNat default) f.need _ _ hnd) rfl rfl ?_
    rintro v L' R' ⟨rfl,rfl,rfl⟩
    refine qas ?_
    refine Jca (Jak tb ((⟨.own b10 fc.l.length [],l⟩:OwL Int)) _ rfl rfl ((show _=Value.slice _ _ _ from rfl).trans (Jed hll)) rfl (by assumption) (i:=k) (by first | rfl | omega | (simp;omega)) (by first | omega | (dsimp only;omega) | (dsimp only;rw [List.length_set];omega) | (dsimp only;simp only [List.length_set];omega))) rfl rfl rfl rfl ?_
    refine qba ?_
    refine Jpj (Jas tb ((⟨.own b10 fc.l.length [],l⟩:OwL Int)) (Jux (fl.l.getD f.road.toNat default) f.need) rfl rfl rfl rfl (by repeat (first | apply OSeg.cons | exact OSeg.here | exact OSeg.last | exact OSeg.at (by assumption) | apply OSeg.app)) (by assumption) (fun _=>rfl) (by assumption) (by decide) (by rfl) (by rfl)) rfl rfl ?_
    rintro v L' R' ⟨rfl,rfl⟩
    refine qa1 ?_
    refine qby ?_
    refine Xan ?_
    exact q_k ⟨(k + 1,l.set k (Jux (fl.l.getD f.road.toNat default) f.need)),by dsimp only;omega,w2.next (by omega) hfv⟩
   have hfv:(0:Int)=(fun k=>Jhr fl.l (fc.l.getD k default)) k:=by dsimp only;rw [← hf,Jhr,if_neg (by omega)]
   refine Xa6 ?_
   exact q_k ⟨(k + 1,l),by dsimp only;omega,w2.stay (by omega) hfv⟩
  obtain rfl:k=fc.l.length:=by omega
  refine Xb5 ?_
  refine q_r (L':=(⟨.own b10 fc.l.length [],l⟩:OwL Int).L 3 Jad ++ L) (R':=R) (Jdi rfl (Jah (show _=Value.slice _ _ _ from rfl))) ?_
  exact ⟨(⟨.own b10 fc.l.length [],l⟩:OwL Int),by simp only [OwL.val,Ow.addr,Ow.cap,hll],hkq,w2.done,rfl,rfl⟩
theorem Joc (fl:Arr XSpan) (fc:Arr XFace) (L:List Blk) (R:List Sl) (hfl:InR (Jl8 fl) R) (hfc:InR (Jqk fc) R) (hn:Jfp fc.l) (hlen:fc.l.length≤1000) (hflen:fl.l.length≤1000):
    Tri Tryz.prog 36 [fl.val,fc.val].toArray L R (fun w L' R'=>∃p:OwL Int,w=p.val∧p.ok 1 Jad∧p.l=Jww fl.l fc.l∧p.L 3 Jad ++ L=L'∧R=R'):=by
  refine Jae 86 Tryz.call36 Tryz.func36 rfl rfl rfl ?_
  refine qae ?_
  refine Xbn ?_
  refine Xc9 ?_
  refine Jai [(0,Value.slice _ _ _),(1,Value.slice _ _ _),(5,Value.slice _ _ _),(6,Value.int _ _)] (by repeat' (first | exact trivial | refine And.intro rfl ?_)) fun tq0=>?_
  refine Jb0 [5,6,7,8,9,10,11,12,13,14,15,16,17,18,19,20,21,22,23,24,25,26,27,28,29,30,31,32,33,34,35,36,37,38,39,40,41,42,43,44,45,46,47,48,49,50,51,52,53,54,55,56,57,58,59,60,61,62,63,64,65,66,67,68,69,70,71,72,73,74,75,76,77,78,79,80,81,82,83,84] ((⟨fun g=>[(6,.int .i64 ((g.1.1:Nat):Int)),(5,g.1.2.val)],fun g=>g.1.2.L 3 Jad ++ L,fun _=>R,fun g=>fc.l.length - g.1.1⟩:Head {g:Nat×OwL Int // g.1≤fc.l.length∧g.2.ok 1 Jad∧g.2.l=(List.range g.1).map (fun k=>Jhr fl.l (fc.l.getD k default))})) (⟨(0,OwL.nil),by dsimp only;omega,OwL.nil_ok,rfl⟩) (by repeat' (first | exact trivial | refine And.intro rfl ?_)) (by dsimp only;rw [Jcl,List.nil_append];exact List.Sublist.refl _) (Jac _) ?_
  rintro ⟨⟨k,q⟩,w1,w2,w3⟩ junk
  try dsimp only
  dsimp only at w1 w2 w3
  have hql:q.l.length=k:=by rw [w3];simp
  refine Xcg ?_
  refine q_c (fun hc0=>?_) (fun hc0=>?_)
  ·
   have hfg:=Jan (l:=fc.l) (k:=k) default (by omega)
   have hnd:=hn _ (List.mem_of_getElem? hfg)
   obtain ⟨f,hf⟩:∃f,f=fc.l.getD k default:=⟨_,rfl⟩
   rw [← hf] at hfg hnd
   refine qbb ?_
   refine Xad ?_
   refine J8z ?_
   refine Xdn ?_
   intro b7
   refine Xbf ?_
   refine qad ?_
   refine qco ?_
   refine Jbb tb [0,1,2,3,4,5,6,7,8,9,10,11,12,13,14,15,16,17,18,19,20,21,22,23,24] ([Blk.mk b7 _ _]) Jbn (by kernel_rfl) (by repeat (first | exact zs0 _ | exact zs1 _ | apply zs2 | apply zs3 | apply zs4 | apply zs5)) ?_
   refine Xae ?_
   refine Jbu (Jk0 rfl rfl) rfl rfl rfl ?_
   refine qb2 ?_
   refine Jcz (k:=23) (show _=Value.bool _ from rfl) (fun hg3=>?_) (fun hg3=>?_)
   ·
    replace hg3:=qb hg3
    refine Xae ?_
    refine J37 ?_
    refine Jbu (Je0 tb rfl rfl rfl) rfl rfl rfl ?_
    refine Jbu (Jti rfl rfl) rfl rfl rfl ?_
    refine Xcs ?_
    refine Jcz (k:=30) (show _=Value.bool _ from rfl) (fun hg10=>?_) (fun hg10=>?_)
    ·
     replace hg10:=qb hg10
     have hsg:=Jan (l:=fl.l) (k:=f.road.toNat) default (by omega)
     refine J37 ?_
     refine Xae ?_
     refine J8h ?_
     refine Xcv ?_
     refine J37 ?_
     refine Xae ?_
     refine J8h ?_
     refine Xcv ?_
     refine Jbu (Jv8 rfl rfl) rfl rfl rfl ?_
     refine Xb0 ?_
     refine q_c (fun hc1=>?_) (fun hc1=>?_)
     ·
      refine qae ?_
      refine Xcw ?_
      refine Ja2 (by first | exact Jag tb rfl rfl rfl rfl (by first | assumption | exact zr (by simp)) (i:=f.road.toNat) (by first | rfl | omega | (simp;omega)) (by omega) | exact Jal tb rfl rfl rfl rfl (i:=f.road.toNat) (by first | rfl | omega | (simp;omega)) (by omega)) rfl ?_
      refine Xdn ?_
      intro b9
      refine Xc0 ?_
      refine qbx ?_
      refine qah ?_
      apply Jbw (G:=[_,_,_,_,_]) (j:=3) (cj:=53) rfl rfl (by rfl) rfl (show _=Value.bool _ from rfl) rfl
      ·
       intro hg4
       replace hg4:=qb hg4
       refine Xa3 ?_
       refine qbz ?_
       exact qai
      intro junk4
      refine qah ?_
      apply Jbw (G:=[_,_,_,_,_,_]) (j:=10) (cj:=60) rfl rfl (by rfl) rfl (show _=Value.bool _ from rfl) rfl
      ·
       intro hg11
       replace hg11:=qb hg11
       refine Xa3 ?_
       refine qcq ?_
       refine qbx ?_
       exact qai
      intro junk11
      refine qaf ?_
      refine q_c (fun hc2=>?_) (fun hc2=>?_)
      ·
       refine qay ?_
       refine qad ?_
       refine Ja9 (Jaa (Jaf ?_))
       refine Xad ?_
       refine qcx ?_
       rintro v L' R' ⟨b83,rfl,rfl,hR83⟩
       replace hR83:=hR83.symm;subst hR83
       refine Jyu ?_
       rintro v L' R' ⟨o84,rfl,hok84,rfl,rfl⟩
       refine Xcd ?_
       exact Jat ⟨(k + 1,(⟨o84,_⟩:OwL Int)),by dsimp only;omega,hok84,by
       dsimp only
       rw [List.range_succ,List.map_append,w3]
       refine congrArg (fun z=>_ ++ [z]) ?_
       show _=Jhr fl.l (fc.l.getD k default)
       rw [← hf]
       simp only [Jhr,Jux]
       repeat' split
       all_goals omega⟩ (by repeat (first | exact Off.refl | apply Off.upd rfl | apply Off.havoc rfl | apply Off.updL rfl | apply Off.left rfl)) (by repeat' (first | exact trivial | refine And.intro rfl ?_)) (by repeat (first | exact zs0 _ | exact zs1 _ | apply zs2 | apply zs3 | apply zs4 | apply zs5)) (Jac _) (by dsimp only;omega)
      refine qae ?_
      refine Xa3 ?_
      refine qcq ?_
      refine qa5 ?_
      refine qah ?_
      apply Jcd (G:=[_,_,_,_,_]) (j:=6) (cj:=74) rfl rfl (by rfl) rfl (show _=Value.bool _ from rfl) rfl
      ·
       intro hg7
       replace hg7:=qb hg7
       refine Xa3 ?_
       refine qaj ?_
       exact qai
      intro junk7
      refine qaf ?_
      refine q_c (fun hc3=>?_) (fun hc3=>?_)
      ·
       refine qay ?_
       refine qad ?_
       refine Ja9 (Jaa (Jaf ?_))
       refine Xad ?_
       refine qcx ?_
       rintro v L' R' ⟨b83,rfl,rfl,hR83⟩
       replace hR83:=hR83.symm;subst hR83
       refine Jyu ?_
       rintro v L' R' ⟨o84,rfl,hok84,rfl,rfl⟩
       refine Xcd ?_
       exact Jat ⟨(k + 1,(⟨o84,_⟩:OwL Int)),by dsimp only;omega,hok84,by
       dsimp only
       rw [List.range_succ,List.map_append,w3]
       refine congrArg (fun z=>_ ++ [z]) ?_
       show _=Jhr fl.l (fc.l.getD k default)
       rw [← hf]
       simp only [Jhr,Jux]
       repeat' split
       all_goals omega⟩ (by repeat (first | exact Off.refl | apply Off.upd rfl | apply Off.havoc rfl | apply Off.updL rfl | apply Off.left rfl)) (by repeat' (first | exact trivial | refine And.intro rfl ?_)) (by repeat (first | exact zs0 _ | exact zs1 _ | apply zs2 | apply zs3 | apply zs4 | apply zs5)) (Jac _) (by dsimp only;omega)
      refine Ja3 (Jaa (Jaf ?_))
      refine Xad ?_
      refine qcx ?_
      rintro v L' R' ⟨b83,rfl,rfl,hR83⟩
      replace hR83:=hR83.symm;subst hR83
      refine Jyu ?_
      rintro v L' R' ⟨o84,rfl,hok84,rfl,rfl⟩
      refine Xcd ?_
      exact Jat ⟨(k + 1,(⟨o84,_⟩:OwL Int)),by dsimp only;omega,hok84,by
      dsimp only
      rw [List.range_succ,List.map_append,w3]
      refine congrArg (fun z=>_ ++ [z]) ?_
      show _=Jhr fl.l (fc.l.getD k default)
      rw [← hf]
      simp only [Jhr,Jux]
      repeat' split
      all_goals omega⟩ (by repeat (first | exact Off.refl | apply Off.upd rfl | apply Off.havoc rfl | apply Off.updL rfl | apply Off.left rfl)) (by repeat' (first | exact trivial | refine And.intro rfl ?_)) (by repeat (first | exact zs0 _ | exact zs1 _ | apply zs2 | apply zs3 | apply zs4 | apply zs5)) (Jac _) (by dsimp only;omega)
     refine Ja3 (Jaa (Jaf ?_))
     refine Xad ?_
     refine qcx ?_
     rintro v L' R' ⟨b83,rfl,rfl,hR83⟩
     replace hR83:=hR83.symm;subst hR83
     refine Jyu ?_
     rintro v L' R' ⟨o84,rfl,hok84,rfl,rfl⟩
     refine Xcd ?_
     exact Jat ⟨(k + 1,(⟨o84,_⟩:OwL Int)),by dsimp only;omega,hok84,by
     dsimp only
     rw [List.range_succ,List.map_append,w3]
     refine congrArg (fun z=>_ ++ [z]) ?_
     show _=Jhr fl.l (fc.l.getD k default)
     rw [← hf]
     simp only [Jhr,Jux]
     repeat' split
     all_goals omega⟩ (by repeat (first | exact Off.refl | apply Off.upd rfl | apply Off.havoc rfl | apply Off.updL rfl | apply Off.left rfl)) (by repeat' (first | exact trivial | refine And.intro rfl ?_)) (by repeat (first | exact zs0 _ | exact zs1 _ | apply zs2 | apply zs3 | apply zs4 | apply zs5)) (Jac _) (by dsimp only;omega)
    replace hg10:=qb hg10
    iterate 13 refine qap ?_
    refine Xb0 ?_
    refine Jcr rfl ?_
    refine Ja3 (Jaa (Jaf ?_))
    refine Xad ?_
    refine qcx ?_
    rintro v L' R' ⟨b83,rfl,rfl,hR83⟩
    replace hR83:=hR83.symm;subst hR83
    refine Jyu ?_
    rintro v L' R' ⟨o84,rfl,hok84,rfl,rfl⟩
    refine Xcd ?_
    exact Jat ⟨(k + 1,(⟨o84,_⟩:OwL Int)),by dsimp only;omega,hok84,by
    dsimp only
    rw [List.range_succ,List.map_append,w3]
    refine congrArg (fun z=>_ ++ [z]) ?_
    show _=Jhr fl.l (fc.l.getD k default)
    rw [← hf]
    simp only [Jhr,Jux]
    repeat' split
    all_goals omega⟩ (by repeat (first | exact Off.refl | apply Off.upd rfl | apply Off.havoc rfl | apply Off.updL rfl | apply Off.left rfl)) (by repeat' (first | exact trivial | refine And.intro rfl ?_)) (by repeat (first | exact zs0 _ | exact zs1 _ | apply zs2 | apply zs3 | apply zs4 | apply zs5)) (Jac _) (by dsimp only;omega)
   replace hg3:=qb hg3
   iterate 5 refine qap ?_
   refine Xcs ?_
   iterate 13 refine qap ?_
   refine Xb0 ?_
   refine Jcr rfl ?_
   refine Ja3 (Jaa (Jaf ?_))
   refine Xad ?_
   refine qcx ?_
   rintro v L' R' ⟨b83,rfl,rfl,hR83⟩
   replace hR83:=hR83.symm;subst hR83
   refine Jyu ?_
   rintro v L' R' ⟨o84,rfl,hok84,rfl,rfl⟩
   refine Xcd ?_
   exact Jat ⟨(k + 1,(⟨o84,_⟩:OwL Int)),by dsimp only;omega,hok84,by
   dsimp only
   rw [List.range_succ,List.map_append,w3]
   refine congrArg (fun z=>_ ++ [z]) ?_
   show _=Jhr fl.l (fc.l.getD k default)
   rw [← hf]
   simp only [Jhr,Jux]
   repeat' split
   all_goals omega⟩ (by repeat (first | exact Off.refl | apply Off.upd rfl | apply Off.havoc rfl | apply Off.updL rfl | apply Off.left rfl)) (by repeat' (first | exact trivial | refine And.intro rfl ?_)) (by repeat (first | exact zs0 _ | exact zs1 _ | apply zs2 | apply zs3 | apply zs4 | apply zs5)) (Jac _) (by dsimp only;omega)
  obtain rfl:k=fc.l.length:=by omega
  refine Xb5 ?_
  refine q_r (L':=q.L 3 Jad ++ L) (R':=R) (Jdi rfl (Jah (show _=Value.slice _ _ _ from rfl))) ?_
  exact ⟨q,rfl,w2,w3,rfl,rfl⟩
end Go.Proofs.YtihompplndcdeaaGreat
end
section
/-
  What a change does to the air; the search for an order of steps. Plain. By an AI agent; no person has read it.
-/
namespace Go.Proofs.YtihompplndcdeaaGreat
open Go.Aw Go
def Jms (P : Nat → Bool) : Nat → List Int
  | 0=>[]
  | k + 1=>if P k=true then Jms P k ++ [(k:Int)] else Jms P k
theorem Jf4 {P : Nat → Bool} : ∀ k, (Jms P k).length ≤ k
  | 0=>Nat.le_refl _
  | k + 1=>by
    have:=Jf4 (P:=P) k
    rw [Jms]
    split
    · simp;omega
    · omega
theorem Jsc {P : Nat → Bool} {x : Int} : ∀ {k : Nat}, x ∈ Jms P k ↔ ∃ i : Nat, x = (i : Int) ∧ i < k ∧ P i = true
  | 0=>⟨fun h=>(by cases h),fun ⟨i,_,h,_⟩=>(by omega)⟩
  | k + 1=>by
    have ih:=Jsc (P:=P) (x:=x) (k:=k)
    rw [Jms]
    constructor
    · intro h
      split at h
      · rename_i hk
        rcases List.mem_append.1 h with h | h
        · obtain ⟨i,h1,h2,h3⟩:=ih.1 h;exact ⟨i,h1,by omega,h3⟩
        · exact ⟨k,List.mem_singleton.1 h,by omega,hk⟩
      · obtain ⟨i,h1,h2,h3⟩:=ih.1 h;exact ⟨i,h1,by omega,h3⟩
    · rintro ⟨i, h1, h2, h3⟩
      rcases Nat.lt_or_ge i k with h4 | h4
      · split
        · exact List.mem_append_left _ (ih.2 ⟨i,h1,h4,h3⟩)
        · exact ih.2 ⟨i,h1,h4,h3⟩
      · obtain rfl : i = k := by omega
        rw [if_pos h3]
        exact List.mem_append_right _ (List.mem_singleton.2 h1)
def Jhl (now before:List Int):List Int:=now.filter fun x=>!decide (x∈before)
theorem Jsj {now before:List Int} {k:Nat} {x:Int} (h:now[k]?=some x) (hx:x ∉ before):Jhl (now.take (k + 1)) before=Jhl (now.take k) before ++ [x]:=by
  rw [Jhl,Jft h,List.filter_append,Jhl]
  simp [hx]
theorem Jxo {now before:List Int} {k:Nat} {x:Int} (h:now[k]?=some x) (hx:x∈before):Jhl (now.take (k + 1)) before=Jhl (now.take k) before:=by
  rw [Jhl,Jft h,List.filter_append,Jhl]
  simp [hx]
theorem Jtw (now before:List Int):(Jhl now before).length≤now.length:=List.length_filter_le _ _
structure XVerd where
  turned:List Int
  starved:List Int
  circles:List Int
  lost:List Int
  deriving DecidableEq,Inhabited
def XVerd.quiet (v:XVerd):Bool:=v.turned.isEmpty && v.starved.isEmpty && v.circles.isEmpty && v.lost.isEmpty
def Jvy (fl gl:List XSpan) (i:Nat):Bool:=decide (Jua (fl.getD i default)≠0) && decide (Jua (gl.getD i default)≠Jua (fl.getD i default))
def Jva (fl gl:List XSpan) (fc:List XFace) (i:Nat):Bool:=decide ((Jww fl fc).getD i 0=1) && decide ((Jww gl fc).getD i 0≠1)
def Jzq (a:XMine) (fl:List XSpan) (b:XMine) (gl:List XSpan) (fc:List XFace) (A B:List Bool) (Cf Cg:List Int):XVerd:=
  ⟨Jms (Jvy fl gl) a.roads.l.length,Jms (Jva fl gl fc) fc.length,Jhl Cg Cf,Jhl (Jeu B b.places.l.length) (Jeu A a.places.l.length)⟩
def Jw6 (a:XAir) (s:XSetting):Int:=if Ja4 a≠0 then Ja4 a else if Jdq a s=false then 21 else 0
theorem Jna (a:XAir) (s:XSetting) (A:List Bool):(Jgi a s A).1=Jw6 a s:=by
  rw [Jgi,Jw6]
  (repeat' split) <;> rfl
theorem Jfs {a:XAir} {s:XSetting}:Jw6 a s=0↔Ja4 a=0∧Jdq a s=true:=by
  rw [Jw6]
  constructor
  · intro h
    split at h
    · omega
    · rename_i h1
      split at h
      · cases h
      · rename_i h2;exact ⟨by omega,by simpa using h2⟩
  · rintro ⟨h1, h2⟩
    rw [if_neg (by omega),if_neg (by rw [h2];decide)]
def Jpo (a:XAir) (s:XSetting) (b:XAir) (t:XSetting):Int:=
  if Jw6 a s≠0 then Jw6 a s else if Jw6 b t≠0 then Jw6 b t else if b.mine.places.l.length < a.mine.places.l.length∨b.mine.roads.l.length < a.mine.roads.l.length then 11 else 0
theorem Jol (m : XMine) (fl : List XSpan) : ∀ k, ∃ C, CircTo m fl k C
  | 0=>⟨[],.zero⟩
  | k + 1=>by
    obtain ⟨C,hC⟩:=Jol m fl k
    rcases Classical.em (Jge m fl k false) with h1 | h1
    · exact ⟨_,hC.yes (.inl h1)⟩
    · rcases Classical.em (Jge m fl k true) with h2 | h2
      · exact ⟨_,hC.yes (.inr h2)⟩
      · exact ⟨_,hC.no h1 h2⟩
theorem J1b (m:XMine) (fl:List XSpan):∃C,CircIs m fl C:=(Jol m fl _).imp fun _ h=>h.done
theorem Jgj (m:XMine):∃K:List XSpan→List Int,∀fl,CircIs m fl (K fl):=⟨fun fl=>Classical.choose (J1b m fl),fun fl=>Classical.choose_spec (J1b m fl)⟩
theorem CircIs.len {m:XMine} {fl:List XSpan} {C:List Int} (h:CircIs m fl C):C.length≤m.roads.l.length:=by
  obtain ⟨C',h'⟩:=Jol m fl m.roads.l.length
  rw [h.unique h'.done];exact h'.len
end Go.Proofs.YtihompplndcdeaaGreat
end
