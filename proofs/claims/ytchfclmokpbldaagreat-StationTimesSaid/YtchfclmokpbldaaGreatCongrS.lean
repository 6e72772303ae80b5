import Derived.Test.YtchfclmokpbldaaGreatRel
import Derived.Test.YtchfclmokpbldaaGreatAnal
import Derived.Test.YtchfclmokpbldaaGreatCflowR
import Derived.Test.YtchfclmokpbldaaGreatFits
set_option linter.unusedVariables false
set_option linter.unusedSimpArgs false
section
/-
  Raising and lowering: what they leave. By an AI agent; no person has read it.
-/
namespace Go.Proofs.YtchfclmokpbldaaGreat
open Go.Aw Go
section
variable {a:XAir} {s:XSetting} {A:List Bool} {l m:List Int} {k:Nat} {v:Int}
theorem J3w (h0:PresOk l) (h:Jg8 a s true l k=some v):l.getD k 0≤v∧0≤Jtm a s (l.set k v) (k:Int)∧∀w,l.getD k 0≤w→w < v→Jtm a s (l.set k w) (k:Int) < 0:=by
  obtain ⟨d,d0,d1,dv,dg,dj⟩:=(Jlb (Joy (h0.get k)).1 h).yes rfl
  have e:∀x,Jsi a s true l (k:Int) x=J8b a s l (k:Int) x:=fun x=>by rw [Jsi,if_pos rfl]
  rw [e,decide_eq_true_eq,Int.toNat_natCast] at dg
  have es:sgn true=1:=rfl
  rw [es] at dv dj
  refine ⟨by omega,dg,fun w w1 w2=>?_⟩
  have:=dj (w - l.getD k 0) za za
  rw [show l.getD k 0 + 1 * (w - l.getD k 0)=w by omega,e,decide_eq_false_iff_not,Int.toNat_natCast] at this
  omega
theorem Juc (h0:PresOk l) (h:Jg8 a s false l k=some v):v≤l.getD k 0∧Ji1 a s (l.set k v) (k:Int)≤0∧∀w,w≤l.getD k 0→v < w→0 < Ji1 a s (l.set k w) (k:Int):=by
  obtain ⟨d,d0,d1,dv,dg,dj⟩:=(Jlb (Joy (h0.get k)).1 h).yes rfl
  have e:∀x,Jsi a s false l (k:Int) x=Jx4 a s l (k:Int) x:=fun x=>by rw [Jsi,if_neg ze]
  rw [e,decide_eq_true_eq,Int.toNat_natCast] at dg
  have es:sgn false= -1:=rfl
  rw [es] at dv dj
  refine ⟨by omega,dg,fun w w1 w2=>?_⟩
  have:=dj (l.getD k 0 - w) za za
  rw [show l.getD k 0 + -1 * (l.getD k 0 - w)=w by omega,e,decide_eq_false_iff_not,Int.toNat_natCast] at this
  omega
end
theorem Jk4 {a : XAir} {s : XSetting} {A : List Bool} {up : Bool} {l : List Int} : ∀ {n : Nat} {m : List Int}, Jcm a s A up l n = some m → ∀ k, k ≤ n → ∃ mk, Jcm a s A up l k = some mk ∧ ∀ j : Nat, j < k → m[j]? = mk[j]?
  | 0,m,h,k,hk=>by
    obtain rfl:k=0:=by omega
    exact ⟨m,h,fun j hj=>by omega⟩
  | n + 1,m,h,k,hk=>by
    rcases Nat.lt_or_ge n k with h1 | h1
    · obtain rfl : k = n + 1 := by omega
      exact ⟨m,h,fun _ _=>rfl⟩
    · have h' := h
      rw [Jcm,Option.bind_eq_some_iff] at h'
      obtain ⟨m1,e1,e2⟩:=h'
      obtain ⟨mk,f1,f2⟩:=Jk4 e1 k h1
      refine ⟨mk,f1,fun j hj=>?_⟩
      rw [← f2 j hj]
      split at e2
      · cases e2;rfl
      · obtain ⟨v, _, rfl⟩ := Option.map_eq_some_iff.1 e2
        rw [List.getElem?_set_ne za]
theorem J1n {a:XAir} {s:XSetting} {A:List Bool} {up:Bool} {l:List Int} (hl:PresOk l) (hn:l.length=a.mine.places.l.length) (h:Jcm a s A up l a.mine.places.l.length=some l) {k:Nat} (hk:k < a.mine.places.l.length) (hf:¬ Jp1 a A k=true):Jg8 a s up l k=some (l.getD k 0):=by
  obtain ⟨m1,e1,e2⟩:=Jk4 h (k + 1) za
  have e1':=e1
  rw [Jcm,Option.bind_eq_some_iff] at e1'
  obtain ⟨m0,f1,f2⟩:=e1'
  obtain ⟨m0',g1,g2⟩:=Jk4 h k za
  rw [f1] at g1
  cases g1
  have hS:=Jfa hl f1
  have em:m0=l:=List.ext_getElem? fun j=>by
    rcases Nat.lt_or_ge j k with h1 | h1
    · exact (g2 j h1).symm
    · exact hS.rest j h1
  subst em
  rw [if_neg hf] at f2
  obtain ⟨v,hv,rfl⟩:=Option.map_eq_some_iff.1 f2
  have:=e2 k za
  rw [List.getElem?_set_self za,Jau (l:=m0) (k:=k) 0 za] at this
  rw [hv,Option.some.inj this]
structure Moved (a:XAir) (A:List Bool) (up:Bool) (l m:List Int):Prop where
  len:m.length=l.length
  le:∀j:Nat,if up=true then l.getD j 0≤m.getD j 0 else m.getD j 0≤l.getD j 0
  fix:∀j:Nat,Jp1 a A j=true→m.getD j 0=l.getD j 0
theorem Moved.refl {a:XAir} {A:List Bool} {up:Bool} {l:List Int}:Moved a A up l l:=⟨rfl,fun j=>by split <;> exact Int.le_refl _,fun _ _=>rfl⟩
theorem Moved.trans {a:XAir} {A:List Bool} {up:Bool} {l m n:List Int} (h:Moved a A up l m) (k:Moved a A up m n):Moved a A up l n:=by
  refine ⟨k.len.trans h.len,fun j=>?_,fun j hj=>(k.fix j hj).trans (h.fix j hj)⟩
  have h1:=h.le j
  have h2:=k.le j
  split at h1
  · rename_i e;rw [if_pos e] at h2;rw [if_pos e];omega
  · rename_i e;rw [if_neg e] at h2;rw [if_neg e];omega
theorem Jpu {a : XAir} {s : XSetting} {A : List Bool} {up : Bool} {l : List Int} (hl : PresOk l) : ∀ {n : Nat} {m : List Int}, n ≤ l.length → Jcm a s A up l n = some m → Moved a A up l m
  | 0,m,_,h=>by cases h;exact .refl
  | n + 1,m,hn,h=>by
    have h':=h
    rw [Jcm,Option.bind_eq_some_iff] at h'
    obtain ⟨m0,e1,e2⟩:=h'
    have ih:=Jpu hl za e1
    have hS:=Jfa hl e1
    have hlen:=hS.len
    split at e2
    · cases e2;exact ih
    · rename_i hf
      obtain ⟨v,hv,rfl⟩:=Option.map_eq_some_iff.1 e2
      refine ih.trans ⟨by simp,fun j=>?_,fun j hj=>?_⟩
      · rw [Jhz za]
        cases up with
        | true=>
          have:=(J3w hS.pres hv).1
          simp only [if_true]
          split
          · rename_i e;subst e;exact this
          · exact Int.le_refl _
        | false=>
          have:=(Juc hS.pres hv).1
          simp only [Bool.false_eq_true,if_false]
          split
          · rename_i e;subst e;exact this
          · exact Int.le_refl _
      · rw [Jhz za,if_neg (fun e=>hf (by rw [← e];exact hj))]
theorem Jjw {a : XAir} {s : XSetting} {A : List Bool} {up : Bool} : ∀ {n : Nat} {l m : List Int}, PresOk l → l.length = a.mine.places.l.length → Jcz a s A up n l = some m → Moved a A up l m
  | 0,l,m,_,_,h=>by cases h
  | n + 1,l,m,hl,hn,h=>by
    rw [Jcz] at h
    split at h
    · cases h
    · rename_i m1 h1
      have hs:=Jfa hl h1
      have hm:=Jpu hl za h1
      split at h
      · cases h;exact hm
      · exact hm.trans (Jjw hs.pres (hs.len.trans hn) h)
theorem Jqz {a:XAir} {s:XSetting} {A:List Bool} {n:Nat} {l m:List Int} {up:Bool} (hl:PresOk l) (hn:l.length=a.mine.places.l.length) (h:Jcz a s A up n l=some m) {k:Nat} (hk:k < a.mine.places.l.length) (hf:¬ Jp1 a A k=true):
    if up=true then 0≤Jtm a s m (k:Int) else Ji1 a s m (k:Int)≤0:=by
  obtain ⟨h1,h2,h3⟩:=Jje hl h
  have hx:=J1n h2 (h1.trans hn) h3 hk hf
  cases up with
  | true=>
    have:=(J3w h2 hx).2.1
    rw [Jj8] at this
    simpa using this
  | false=>
    have:=(Juc h2 hx).2.1
    rw [Jj8] at this
    simpa using this
theorem Jjs {a:XAir} {s:XSetting} {A:List Bool} {up:Bool} {ps:List Int} (h:StartOk a s ps A):(Jb4 a s A up ps).1=0∨(Jb4 a s A up ps).1=2:=by
  rw [Jb4,if_neg (by rw [Jjl.2 h];decide)]
  split
  · exact .inr rfl
  · exact .inl rfl
theorem StartOk.moved {a:XAir} {s:XSetting} {A:List Bool} {up:Bool} {l:List Int} (h:StartOk a s l A) {n:Nat} {m:List Int} (hm:Jcz a s A up n l=some m):StartOk a s m A:=by
  obtain ⟨h1,h2,_⟩:=Jje h.hp hm
  have h3:=Jjw h.hp h.hl hm
  exact ⟨h.h0,h.hf,h1.trans h.hl,h2,fun i hi hf=>(h3.fix i hf).trans (h.fix i hi hf)⟩
theorem Jzt {a:XAir} {s:XSetting} {A:List Bool} (h0:Jbx a=0) (hf:Jjb a s=true):StartOk a s (List.replicate a.mine.places.l.length 0) A:=by
  refine ⟨h0,hf,by simp,fun p hp=>?_,fun i hi _=>?_⟩
  · rw [(List.mem_replicate.1 hp).2];decide
  · rw [List.getD_eq_getElem?_getD, List.getElem?_replicate]
    split <;> rfl
structure Solved (a:XAir) (s:XSetting) (A:List Bool) (lo hi:List Int):Prop where
  lok:StartOk a s lo A
  hok:StartOk a s hi A
  le:∀i:Nat,lo.getD i 0≤hi.getD i 0
  low:∀i:Nat,i < a.mine.places.l.length→¬ Jp1 a A i=true→Ji1 a s lo (i:Int)≤0
  high:∀i:Nat,i < a.mine.places.l.length→¬ Jp1 a A i=true→0≤Jtm a s hi (i:Int)
theorem Jv8 {a:XAir} {s:XSetting} {A:List Bool} (h0:Jbx a=0) (hf:Jjb a s=true):((Jd8 a s A).1=0∧Solved a s A (Jd8 a s A).2.1 (Jd8 a s A).2.2)∨(Jd8 a s A).1=2:=by
  have s0:=Jzt (A:=A) h0 hf
  rw [Jd8]
  dsimp only
  rcases Jjs (up:=false) s0 with e1 | e1
  · rw [if_neg za]
    obtain ⟨_,r1⟩:=Jo2 e1
    have s1:=s0.moved r1
    rcases Jjs (up:=true) s1 with e2 | e2
    · rw [if_neg za]
      obtain ⟨_,r2⟩:=Jo2 e2
      have s2:=s1.moved r2
      rcases Jjs (up:=false) s2 with e3 | e3
      · rw [if_neg za]
        obtain ⟨_,r3⟩:=Jo2 e3
        have s3:=s2.moved r3
        left
        refine ⟨rfl,s3,s2,fun i=>?_,fun i hi hn=>?_,fun i hi hn=>?_⟩
        · have := (Jjw s2.hp s2.hl r3).le i
          simpa using this
        · have := Jqz s2.hp s2.hl r3 hi hn
          simpa using this
        · have := Jqz s1.hp s1.hl r2 hi hn
          simpa using this
      · rw [if_pos za]
        exact .inr e3
    · rw [if_pos za]
      exact .inr e2
  · rw [if_pos za]
    exact .inr e1
theorem Solved.accept {a:XAir} {s:XSetting} {A:List Bool} {lo hi:List Int} (h:Solved a s A lo hi) {b:XBounds} (e1:b.low.l=lo) (e2:b.high.l=hi):Accept a s b A:=by
  refine ⟨⟨h.lok.h0,h.lok.hf,by rw [e1];exact h.lok.hl,by rw [e2];exact h.hok.hl,by rw [e1];exact h.lok.hp,by rw [e2];exact h.hok.hp⟩,fun i hi2 hf=>?_,fun i hi2 hf=>?_⟩
  · rw [e1,e2];exact ⟨h.lok.fix i hi2 hf,h.hok.fix i hi2 hf⟩
  · rw [e1,e2];exact ⟨h.high i hi2 hf,h.low i hi2 hf⟩
end Go.Proofs.YtchfclmokpbldaaGreat
end
section
/-
  What is known of the flows of a place below ground can be balanced. By an AI agent; no person has read it.
-/
namespace Go.Proofs.YtchfclmokpbldaaGreat
open Go.Aw Go
theorem Kcv {a:XAir} {s:XSetting} {A:List Bool} (h0:Jbx a=0) (hf:Jjb a s=true) (hA:AiryIs a.mine A):
    (Jns a s A).1=0∧((Accept a s (Jlt a s A) A∧(∀i:Nat,(Jlt a s A).low.l.getD i 0≤(Jlt a s A).high.l.getD i 0)∧(Jns a s A).2=(List.range a.mine.roads.l.length).map (Jcw a s (Jlt a s A) A))∨(Jns a s A).2=(List.range a.mine.roads.l.length).map (Jg0 a)):=by
  have hfn:¬ Jjb a s=false:=by rw [hf];decide
  rw [Jns,if_neg (by rw [h0];decide),if_neg hfn]
  rcases Jv8 (A:=A) h0 hf with h | h
  · have hac : Accept a s (Jlt a s A) A := h.2.accept rfl rfl
    rw [if_pos h.1,Jcr,if_pos (J0r.2 hac)]
    exact ⟨rfl,.inl ⟨hac,h.2.le,rfl⟩⟩
  · rw [if_neg (by rw [h]; decide)]
    exact ⟨rfl,.inr rfl⟩
theorem J18 {a:XAir} {s:XSetting} {A:List Bool} (h0:Jbx a=0) (hf:Jjb a s=true) (hA:AiryIs a.mine A):(Jns a s A).2.length=a.mine.roads.l.length:=by
  rcases (Kcv h0 hf hA).2 with ⟨_,_,e⟩ | e <;> rw [e] <;> simp
end Go.Proofs.YtchfclmokpbldaaGreat
end
section
/-
  ref01.Spans: two lists of spans are alike. By an AI agent; no person has read it.
-/
namespace Go.Proofs.YtchfclmokpbldaaGreat
open Go.Aw Go
set_option maxRecDepth 20000
attribute [local irreducible] CJ LJ DJ Tri YV Gives Jcj Ja1 Jbg Jci RV Ja2 OwL.L
abbrev J06 (x:Arr XSpan):Sl:=x.sl 2 XSpan.cells []
end Go.Proofs.YtchfclmokpbldaaGreat
end
section
/-
  Faces and their air: airflow.Fed and the reference's. By an AI agent; no person has read it.
-/
namespace Go.Proofs.YtchfclmokpbldaaGreat
open Go.Aw Go
set_option maxRecDepth 20000
attribute [local irreducible] CJ LJ DJ Tri YV Gives Jcj Ja1 Jbg Jci RV Ja2 OwL.L
structure XFace where
  road:Int
  need:Int
  deriving Inhabited
def XFace.cells (s:XFace):List Value:=[.int .i64 s.road,.int .i64 s.need]
abbrev Kdr (x:Arr XFace):Sl:=x.sl 2 XFace.cells []
structure WrTo {α:Type} (n:Nat) (z:α) (g:Nat→α) (i:Nat) (l:List α):Prop where
  len:l.length=n
  don:∀j:Nat,j < i→l[j]?=some (g j)
  non:∀j:Nat,i≤j→j < n→l[j]?=some z
theorem WrTo.zero {α:Type} {n:Nat} {z:α} {g:Nat→α}:WrTo n z g 0 (List.replicate n z):=⟨by simp,fun j hj=>by omega,fun j _ hj=>by rw [List.getElem?_replicate,if_pos hj]⟩
theorem WrTo.next {α:Type} {n:Nat} {z:α} {g:Nat→α} {i:Nat} {l:List α} (h:WrTo n z g i l) (hi:i < n) {x:α} (hx:x=g i):WrTo n z g (i + 1) (l.set i x):=by
  have hl:=h.len
  refine ⟨by simp [hl],fun j hj=>?_,fun j h1 h2=>?_⟩
  · rw [List.getElem?_set]
    split
    · rename_i e;rw [if_pos za,hx,e]
    · exact h.don j za
  · rw [List.getElem?_set_ne za]
    exact h.non j za h2
theorem WrTo.stay {α:Type} {n:Nat} {z:α} {g:Nat→α} {i:Nat} {l:List α} (h:WrTo n z g i l) (hi:i < n) (hx:z=g i):WrTo n z g (i + 1) l:=by
  refine ⟨h.len,fun j hj=>?_,fun j h1 h2=>h.non j za h2⟩
  rcases Nat.lt_or_ge j i with h1 | h1
  · exact h.don j h1
  · obtain rfl : j = i := by omega
    rw [h.non j (Nat.le_refl _) hi,hx]
theorem WrTo.done {α:Type} {n:Nat} {z:α} {g:Nat→α} {l:List α} (h:WrTo n z g n l):l=(List.range n).map g:=by
  have hl:=h.len
  refine List.ext_getElem? fun j=>?_
  rcases Nat.lt_or_ge j n with hj | hj
  · rw [h.don j hj,List.getElem?_map,List.getElem?_range hj];rfl
  · rw [List.getElem?_eq_none za,List.getElem?_eq_none zF]
def J33 (x:XSpan) (need:Int):Int:=
  if x.high < x.low then 0 else if (need≤0∨need≤x.low)∨x.high≤ -need then 1 else if -need < x.low∧x.high < need then -1 else 0
def Jl6 (fl:List XSpan) (f:XFace):Int:=if 0≤f.road∧f.road < fl.length then J33 (fl.getD f.road.toNat default) f.need else 0
def Kdk (fl:List XSpan) (fc:List XFace):List Int:=(List.range fc.length).map fun k=>Jl6 fl (fc.getD k default)
def J74 (fc:List XFace):Prop:=∀f∈fc,-4611686018427387904≤f.need∧f.need≤4611686018427387904
theorem J7r (x:XSpan) (need:Int) (L:List Blk) (R:List Sl) (hn:-4611686018427387904≤need∧need≤4611686018427387904):
    Tri Tryz.prog 275 [x.val,.int .i64 need].toArray L R (fun v L' R'=>v=.int .i64 (J33 x need)∧L=L'∧R=R'):=by
  refine Jad 39 Tryz.call275 Tryz.func275 rfl rfl rfl ?_
  refine Xaf ?_
  intro b2
  refine qad ?_
  refine Ja6 (Jab (Jam (Jbd (Jam (Jah ?_)))))
  refine Xa1 ?_
  refine qa5 ?_
  refine Xap ?_
  refine q_c (fun hc0=>?_) (fun hc0=>?_)
  ·
   refine Xa8 ?_
   refine q_i (L':=L) (R':=R) ?_
   exact ⟨by rw [J33,if_pos hc0],rfl,rfl⟩
  refine Xbc ?_
  refine qbx ?_
  refine qah ?_
  apply Ja7 (G:=[_,_,_,_]) (j:=2) (cj:=14) rfl rfl zb rfl (show _=Value.bool _ from rfl) rfl
  ·
   intro hg3
   replace hg3:=qb hg3
   refine Xal ?_
   refine qbz ?_
   exact qai
  intro junk3
  refine qah ?_
  apply Ja7 (G:=[_,_,_,_,_]) (j:=8) (cj:=20) rfl rfl zb rfl (show _=Value.bool _ from rfl) rfl
  ·
   intro hg9
   replace hg9:=qb hg9
   refine Xal ?_
   refine qcq ?_
   refine qbx ?_
   exact qai
  intro junk9
  refine Xap ?_
  refine q_c (fun hc1=>?_) (fun hc1=>?_)
  ·
   refine Xa8 ?_
   refine q_i (L':=L) (R':=R) ?_
   exact ⟨by rw [J33,if_neg za,if_pos za],rfl,rfl⟩
  refine qae ?_
  refine Xal ?_
  refine qcq ?_
  refine qa5 ?_
  refine qah ?_
  apply Jb7 (G:=[_,_,_,_]) (j:=5) (cj:=33) rfl rfl zb rfl (show _=Value.bool _ from rfl) rfl
  ·
   intro hg6
   replace hg6:=qb hg6
   refine Xal ?_
   refine qaj ?_
   exact qai
  intro junk6
  refine Xap ?_
  refine q_c (fun hc2=>?_) (fun hc2=>?_)
  ·
   refine Xa8 ?_
   refine q_i (L':=L) (R':=R) ?_
   exact ⟨by rw [J33,if_neg za,if_neg za,if_pos za],rfl,rfl⟩
  refine Ja4 (Jag (Jab (Jam (Jah ?_))))
  refine Xah ?_
  refine q_i (L':=L) (R':=R) ?_
  exact ⟨by rw [J33,if_neg za,if_neg za,if_neg za],rfl,rfl⟩
theorem J6c (fl:Arr XSpan) (fc:Arr XFace) (L:List Blk) (R:List Sl) (hfl:InR (J06 fl) R) (hfc:InR (Kdr fc) R) (hn:J74 fc.l) (hlen:fc.l.length≤1000) (hflen:fl.l.length≤1000):
    Tri Tryz.prog 232 [fl.val,fc.val].toArray L R (fun w L' R'=>∃p:OwL Int,w=p.val∧p.ok 1 Jap∧p.l=Kdk fl.l fc.l∧p.L 3 Jap ++ L=L'∧R=R'):=by
  refine Jad 41 Tryz.call232 Tryz.func232 rfl rfl rfl ?_
  refine qae ?_
  refine qc4 ?_
  refine qam ?_
  refine Xao ?_
  refine qc7 ?_
  rintro v L' R' ⟨b10,rfl,rfl,hR10⟩
  replace hR10:=hR10.symm;subst hR10
  refine qc4 ?_
  refine qco ?_
  refine Jcy (Jes (f:=Jap) (x:=0) rfl _) ?_
  refine qay ?_
  refine Xbv ?_
  refine Jan [(0,Value.slice _ _ _),(5,Value.slice _ _ _),(11,Value.slice _ _ _),(12,Value.int _ _),(13,Value.int _ _)] zh fun tq0=>?_
  refine q_p [6,7,13,14,15,16,17,18,19,20,21,22,23,24,25,26,27,28,29,30,31,32,33,34,35,36,37,38,39] ((⟨fun g=>[(13,.int .i64 ((g.1.1:Nat):Int))],fun g=>(⟨.own b10 fc.l.length [],g.1.2⟩:OwL Int).L 3 Jap ++ L,fun _=>R,fun g=>fc.l.length - g.1.1⟩:Head {g:Nat×List Int // g.1≤fc.l.length∧WrTo fc.l.length 0 (fun k=>Jl6 fl.l (fc.l.getD k default)) g.1 g.2})) (⟨(0,List.replicate fc.l.length 0),by dsimp only;omega,.zero⟩) ?_
  rintro ⟨⟨k,l⟩,w1,w2⟩ junk
  try dsimp only
  dsimp only at w1 w2
  have hll:=w2.len
  have hkq:(⟨.own b10 fc.l.length [],l⟩:OwL Int).ok 1 Jap:=by have:=Jfc (f:=Jap) (wd:=1) (b:=b10) (n:=fc.l.length) (x:=0) Jds zG;exact OwL.len_ok Jds this (by simp;exact hll)
  refine Xak ?_
  refine q_c (fun hc0=>?_) (fun hc0=>?_)
  ·
   have hfg:=Jau (l:=fc.l) (k:=k) default za
   have hlg:=w2.non k (Nat.le_refl _) za
   have hnd:=hn _ (List.mem_of_getElem? hfg)
   obtain ⟨f,hf⟩:∃f,f=fc.l.getD k default:=⟨_,rfl⟩
   rw [← hf] at hfg hnd
   refine Xa6 ?_
   refine Jax zC rfl ?_
   refine Xdt ?_
   intro b7
   refine qad ?_
   refine Xb1 ?_
   refine qbz ?_
   refine qah ?_
   apply Jb7 (G:=[_,_,_,_,_]) (j:=3) (cj:=21) rfl rfl zb rfl (show _=Value.bool _ from rfl) rfl
   ·
    intro hg4
    replace hg4:=qb hg4
    refine Xaa ?_
    refine Xao ?_
    refine qaj ?_
    exact qai
   intro junk4
   refine qaf ?_
   refine q_c (fun hc1=>?_) (fun hc1=>?_)
   ·
    have hsg:=Jau (l:=fl.l) (k:=f.road.toNat) default za
    have hfv:J33 (fl.l.getD f.road.toNat default) f.need=(fun k=>Jl6 fl.l (fc.l.getD k default)) k:=by dsimp only;rw [← hf,Jl6,if_pos za]
    refine Jbk tb [] [0,1,2,3,4,5,6,7,8,9,10] [11] ([Blk.mk b7 _ _]) _ Jby zc zi (List.nil_sublist _) ?_
    refine Xc7 ?_
    refine Xct ?_
    refine Jbv (by first | exact Jae tb rfl rfl rfl rfl zt (i:=f.road.toNat) zj za | exact Jak tb rfl rfl rfl rfl (i:=f.road.toNat) zj za) rfl rfl rfl rfl ?_
    refine qd1 ?_
    refine Xar ?_
    refine Jdf rfl (J7r (fl.l.getD f.road.toNat default) f.need _ _ hnd) rfl rfl ?_
    rintro v L' R' ⟨rfl,rfl,rfl⟩
    refine ⟨zi,zx,?_⟩
    refine Jbv (Jat tb ((⟨.own b10 fc.l.length [],l⟩:OwL Int)) _ rfl rfl ((show _=Value.slice _ _ _ from rfl).trans (Jcs hll)) rfl zg (i:=k) zj zu) rfl rfl rfl rfl ?_
    refine qba ?_
    refine Jmm (Jar tb ((⟨.own b10 fc.l.length [],l⟩:OwL Int)) (J33 (fl.l.getD f.road.toNat default) f.need) rfl rfl rfl rfl zk zg (fun _=>rfl) zg ze zb zb) rfl rfl ?_
    rintro v L' R' ⟨rfl,rfl⟩
    refine qa1 ?_
    refine Xc3 ?_
    exact q_k ⟨(k + 1,l.set k (J33 (fl.l.getD f.road.toNat default) f.need)),by dsimp only;omega,w2.next za hfv⟩
   have hfv:(0:Int)=(fun k=>Jl6 fl.l (fc.l.getD k default)) k:=by dsimp only;rw [← hf,Jl6,if_neg za]
   refine Xay ?_
   exact q_k ⟨(k + 1,l),by dsimp only;omega,w2.stay za hfv⟩
  obtain rfl:k=fc.l.length:=by omega
  refine Xc9 ?_
  refine Xde ?_
  refine q_r (L':=(⟨.own b10 fc.l.length [],l⟩:OwL Int).L 3 Jap ++ L) (R':=R) (Jec rfl (Jaf (show _=Value.slice _ _ _ from rfl))) ?_
  exact ⟨(⟨.own b10 fc.l.length [],l⟩:OwL Int),by simp only [OwL.val,Ow.addr,Ow.cap,hll],hkq,w2.done,rfl,rfl⟩
end Go.Proofs.YtchfclmokpbldaaGreat
end
section
/-
  What a change does to the air; the search for an order of steps. Plain. By an AI agent; no person has read it.
-/
namespace Go.Proofs.YtchfclmokpbldaaGreat
open Go.Aw Go
end Go.Proofs.YtchfclmokpbldaaGreat
end
section
/-
  The search for an order of steps. Plain. By an AI agent; no person has read it.
-/
namespace Go.Proofs.YtchfclmokpbldaaGreat
open Go.Aw Go
abbrev Sts:=List Int×List Int
def mkS (s:Sts):XSetting:=⟨⟨none,0,s.1⟩,⟨none,0,s.2⟩⟩
abbrev Jqd (s:XSetting):Sts:=(s.fans.l,s.doors.l)
def flS (a:XAir) (A:List Bool) (s:Sts):List XSpan:=(Jns a (mkS s) A).2
end Go.Proofs.YtchfclmokpbldaaGreat
end
section
/-
  What is known of the air does not hang on where its lists lie. Plain. By an AI agent; no person has read it.
-/
namespace Go.Proofs.YtchfclmokpbldaaGreat
open Go.Aw Go
def Jvp (f:XFan):XFan:=⟨f.road,f.back,f.aux,⟨none,0,f.curve.l⟩⟩
def Jkj (d:XDoor):XDoor:=⟨d.road,d.other,⟨none,0,d.rests.l⟩⟩
def Jt7 (m:XMine):XMine:=⟨⟨none,0,m.places.l⟩,⟨none,0,m.roads.l⟩⟩
def Jem (a:XAir):XAir:=⟨Jt7 a.mine,⟨none,0,a.fans.l.map Jvp⟩,⟨none,0,a.doors.l.map Jkj⟩⟩
abbrev Juy (s:XSetting):XSetting:=mkS (Jqd s)
theorem Jn4 {α β:Type} {f:α→β} {l:List α} {k:Nat} {d:α} {e:β} (h:f d=e):(l.map f).getD k e=f (l.getD k d):=by
  rw [List.getD_eq_getElem?_getD,List.getD_eq_getElem?_getD,List.getElem?_map]
  cases l[k]? with
  | none=>exact h.symm
  | some x=>rfl
theorem J6f (a:XAir) (k:Nat):(Jem a).fans.l.getD k default=Jvp (a.fans.l.getD k default):=Jn4 rfl
theorem Joc (a:XAir) (k:Nat):(Jem a).doors.l.getD k default=Jkj (a.doors.l.getD k default):=Jn4 rfl
theorem Jos (a : XAir) (s : XSetting) (r : Int) : ∀ k, Jdd (Jem a) (Juy s) r k = Jdd a s r k
  | 0=>rfl
  | k + 1=>by rw [Jdd,Jdd,Jos a s r k,Joc];rfl
theorem Jm1 (a : XAir) (s : XSetting) (r q : Int) : ∀ k, innerTo (Jem a) (Juy s) r q k = innerTo a s r q k
  | 0=>by rw [innerTo,innerTo,Jos,show (Jem a).doors.l.length=a.doors.l.length from List.length_map _];rfl
  | k + 1=>by rw [innerTo,innerTo,Jm1 a s r q k,J6f];rfl
theorem Jzw (a:XAir) (s:XSetting):Jcg (Jem a) (Juy s)=Jcg a s:=by
  funext r q
  rw [Jcg,Jcg,Jm1,show (Jem a).fans.l.length=a.fans.l.length from List.length_map _]
theorem Juw (l:List XDoor):Jfu (l.map Jkj)=Jfu l:=by
  funext i
  rw [Jfu,Jfu,List.getElem?_map]
  cases l[i]? with
  | none=>rfl
  | some d=>
    have hp:Jmi (l.map Jkj) i (Jkj d)↔Jmi l i d:=by
      unfold Jmi
      simp only [List.length_map,Jn4 (f:=Jkj) (l:=l) (d:=default) (e:=default) rfl]
      exact Iff.rfl
    simp only [Option.map_some,hp]
    rfl
theorem Jtc (l:List XDoor):Jdq (l.map Jkj)=Jdq l:=by rw [Jdq,Jdq,Juw,List.length_map]
theorem Jo3 (a:XAir):Jbx (Jem a)=Jbx a:=by
  have h1:(Jem a).fans.l=a.fans.l.map Jvp:=rfl
  have h2:(Jem a).doors.l=a.doors.l.map Jkj:=rfl
  have h3:(Jem a).mine=Jt7 a.mine:=rfl
  have h4:Jdc (Jt7 a.mine)=Jdc a.mine:=rfl
  rw [Jbx,Jbx,h1,h2,h3,h4,Jtc,List.length_map,List.findSome?_map,List.findSome?_map]
  rfl
theorem J2q (a:XAir) (s:XSetting):Jjb (Jem a) (Juy s)=Jjb a s:=by
  have h1:(Jem a).fans.l.length=a.fans.l.length:=List.length_map _
  have h2:(Jem a).doors.l.length=a.doors.l.length:=List.length_map _
  have h3:Jek (Jem a).doors.l (Juy s).doors.l=Jek a.doors.l s.doors.l:=by
    funext i
    show Jek (a.doors.l.map Jkj) s.doors.l i=_
    rw [Jek,Jek,List.getElem?_map]
    cases s.doors.l[i]? <;> cases a.doors.l[i]? <;> rfl
  rw [Jjb,Jjb,h1,h2,h3]
  rfl
section
variable {a a':XAir} {s s':XSetting}
structure AirE (a a':XAir) (s s':XSetting):Prop where
  mine:a.mine.places.l=a'.mine.places.l∧a.mine.roads.l=a'.mine.roads.l
  inner:Jcg a s=Jcg a' s'
  err:Jbx a=Jbx a'
  fit:Jjb a s=Jjb a' s'
variable (h:AirE a a' s s')
include h
theorem AirE.term (F G:(Int→XSpan)→Int→Int):Jke F G a s=Jke F G a' s':=by
  funext ps v k
  rw [Jke,Jke,Jha,Jha,h.inner,h.mine.2]
theorem AirE.sum (F G : (Int → XSpan) → Int → Int) (ps : List Int) (v : Int) : ∀ k, Jvu F G a s ps v k = Jvu F G a' s' ps v k
  | 0=>rfl
  | k + 1=>by rw [Jvu,Jvu,AirE.sum F G ps v k,h.term]
theorem AirE.low:Jtm a s=Jtm a' s':=by
  funext ps v
  rw [Jtm,Jtm,h.sum,h.mine.2]
theorem AirE.high:Ji1 a s=Ji1 a' s':=by
  funext ps v
  rw [Ji1,Ji1,h.sum,h.mine.2]
theorem AirE.test (up:Bool) (l:List Int):Jsi a s up l=Jsi a' s' up l:=by
  funext v q
  rw [Jsi,Jsi]
  unfold J8b Jx4
  rw [h.low,h.high]
theorem AirE.next (up:Bool):Jg8 a s up=Jg8 a' s' up:=by
  funext l k
  rw [Jg8,Jg8,h.test]
theorem AirE.fix (A:List Bool):Jp1 a A=Jp1 a' A:=by
  funext k
  rw [Jp1,Jp1,h.mine.1]
theorem AirE.sweep (A : List Bool) (up : Bool) (l : List Int) : ∀ k, Jcm a s A up l k = Jcm a' s' A up l k
  | 0=>rfl
  | k + 1=>by rw [Jcm,Jcm,AirE.sweep A up l k,h.fix,h.next]
theorem AirE.rounds (A : List Bool) (up : Bool) : ∀ n l, Jcz a s A up n l = Jcz a' s' A up n l
  | 0,_=>rfl
  | n + 1,l=>by
    rw [Jcz,Jcz,h.sweep,h.mine.1]
    cases Jcm a' s' A up l a'.mine.places.l.length with
    | none=>rfl
    | some m=>dsimp only;rw [AirE.rounds A up n m]
theorem AirE.start (ps:List Int) (A:List Bool):Jc8 a s ps A=Jc8 a' s' ps A:=by
  have e:Jd3 a ps A=Jd3 a' ps A:=by
    funext i
    rw [Jd3,Jd3,h.fix]
  rw [Jc8,Jc8,h.err,h.fit,h.mine.1,e]
theorem AirE.relax (A:List Bool) (up:Bool) (ps:List Int):Jb4 a s A up ps=Jb4 a' s' A up ps:=by
  rw [Jb4,Jb4,h.start,h.rounds]
theorem AirE.solve (A:List Bool):Jd8 a s A=Jd8 a' s' A:=by
  have e:Jb4 a s A=Jb4 a' s' A:=by
    funext up ps
    exact h.relax A up ps
  rw [Jd8,Jd8,e,h.mine.1]
theorem AirE.check (b:XBounds) (A:List Bool):Jeg a s b A=Jeg a' s' b A:=by
  have e:Jc0 a s b A=Jc0 a' s' b A:=by
    funext i
    rw [Jc0,Jc0,h.low,h.high,h.mine.1]
  rw [Jeg,Jeg,h.err,h.fit,h.mine.1,e]
theorem AirE.flows (b:XBounds) (A:List Bool):Jcr a s b A=Jcr a' s' b A:=by
  have e:Jcw a s b A=Jcw a' s' b A:=by
    funext k
    rw [Jcw,Jcw,h.inner,h.mine.2]
  rw [Jcr,Jcr,h.check,h.mine.2,e]
theorem AirE.ana (A:List Bool):Jns a s A=Jns a' s' A:=by
  have e:Jg0 a=Jg0 a':=by
    funext k
    rw [Jg0,Jg0,h.mine.2]
  rw [Jns,Jns,h.err,h.fit,Jlt,Jlt,h.solve,h.flows,h.mine.2,e]
end
theorem AirE.bare (a:XAir) (s:XSetting):AirE (Jem a) a (Juy s) s:=⟨⟨rfl,rfl⟩,Jzw a s,Jo3 a,J2q a s⟩
theorem AirE.symm {a a':XAir} {s s':XSetting} (h:AirE a a' s s'):AirE a' a s' s:=⟨⟨h.mine.1.symm,h.mine.2.symm⟩,h.inner.symm,h.err.symm,h.fit.symm⟩
theorem AirE.trans {a a' a'':XAir} {s s' s'':XSetting} (h:AirE a a' s s') (k:AirE a' a'' s' s''):AirE a a'' s s'':=⟨⟨h.mine.1.trans k.mine.1,h.mine.2.trans k.mine.2⟩,h.inner.trans k.inner,h.err.trans k.err,h.fit.trans k.fit⟩
theorem AirE.of {a a':XAir} {s s':XSetting} (h1:Jem a=Jem a') (h2:Jqd s=Jqd s'):AirE a a' s s':=by
  have e1:=(AirE.bare a s).symm
  have e2:=AirE.bare a' s'
  rw [h1,show Juy s=Juy s' from congrArg mkS h2] at e1
  exact e1.trans e2
theorem J8c (a:XAir) {s s':XSetting} (A:List Bool) (h:Jqd s=Jqd s'):Jns a s A=Jns a s' A:=(AirE.of rfl h).ana A
theorem J70 (a:XAir) {s s':XSetting} (h:Jqd s=Jqd s'):Jjb a s=Jjb a s':=(AirE.of rfl h).fit
theorem Kcr (a:XAir) (s:XSetting) (A:List Bool):flS a A (Jqd s)=(Jns a s A).2:=by rw [flS,J8c a (s:=mkS (Jqd s)) (s':=s) A rfl]
end Go.Proofs.YtchfclmokpbldaaGreat
end
