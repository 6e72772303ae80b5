/-
  Texts of one chapter, merged. By an AI agent; no person has read it.
-/
import Derived.Test.YtchfclmokpbldaaGreatRel
import Derived.Test.YtchfclmokpbldaaGreatAnal
import Derived.Test.YtchfclmokpbldaaGreatCflowR
import Derived.Test.YtchfclmokpbldaaGreatFits
set_option linter.unusedVariables false
set_option linter.unusedSimpArgs false
set_option maxRecDepth 20000
namespace Go.Proofs.YtchfclmokpbldaaGreat
open Go.Aw Go
section
section
variable {a:XAir} {s:XSetting} {A:List Bool} {l m:List Int} {k:Nat} {v:Int}
theorem Zzd (h0:PresOk l) (h:Kaa a s true l k=some v):l.getD k 0≤v∧0≤K4c a s (l.set k v) (k:Int)∧∀w,l.getD k 0≤w→w < v→K4c a s (l.set k w) (k:Int) < 0:=by
  obtain ⟨d,d0,d1,dv,dg,dj⟩:=(Zra (Vmb (h0.get k)).1 h).yes rfl
  have e:∀x,Jmc a s true l (k:Int) x=Zpe a s l (k:Int) x:=fun x=>by rw [Jmc,if_pos rfl]
  rw [e,decide_eq_true_eq,Int.toNat_natCast] at dg
  have es:sgn true=1:=rfl
  rw [es] at dv dj
  refine ⟨by omega,dg,fun w w1 w2=>?_⟩
  have:=dj (w - l.getD k 0) za za
  rw [show l.getD k 0 + 1 * (w - l.getD k 0)=w by omega,e,decide_eq_false_iff_not,Int.toNat_natCast] at this
  omega
theorem Uyc (h0:PresOk l) (h:Kaa a s false l k=some v):v≤l.getD k 0∧Vfa a s (l.set k v) (k:Int)≤0∧∀w,w≤l.getD k 0→v < w→0 < Vfa a s (l.set k w) (k:Int):=by
  obtain ⟨d,d0,d1,dv,dg,dj⟩:=(Zra (Vmb (h0.get k)).1 h).yes rfl
  have e:∀x,Jmc a s false l (k:Int) x=Zkc a s l (k:Int) x:=fun x=>by rw [Jmc,if_neg zc]
  rw [e,decide_eq_true_eq,Int.toNat_natCast] at dg
  have es:sgn false= -1:=rfl
  rw [es] at dv dj
  refine ⟨by omega,dg,fun w w1 w2=>?_⟩
  have:=dj (l.getD k 0 - w) za za
  rw [show l.getD k 0 + -1 * (l.getD k 0 - w)=w by omega,e,decide_eq_false_iff_not,Int.toNat_natCast] at this
  omega
end
theorem Zpa {a : XAir} {s : XSetting} {A : List Bool} {up : Bool} {l : List Int} : ∀ {n : Nat} {m : List Int}, Un a s A up l n = some m → ∀ k, k ≤ n → ∃ mk, Un a s A up l k = some mk ∧ ∀ j : Nat, j < k → m[j]? = mk[j]?
  | 0,m,h,k,hk=>by
    obtain rfl:k=0:=by omega
    exact ⟨m,h,fun j hj=>by omega⟩
  | n + 1,m,h,k,hk=>by
    rcases Nat.lt_or_ge n k with h1 | h1
    · obtain rfl : k = n + 1 := by omega
      exact ⟨m,h,fun _ _=>rfl⟩
    · have h' := h
      rw [Un,Option.bind_eq_some_iff] at h'
      obtain ⟨m1,e1,e2⟩:=h'
      obtain ⟨mk,f1,f2⟩:=Zpa e1 k h1
      refine ⟨mk,f1,fun j hj=>?_⟩
      rw [← f2 j hj]
      split at e2
      · cases e2;rfl
      · obtain ⟨v, _, rfl⟩ := Option.map_eq_some_iff.1 e2
        rw [List.getElem?_set_ne za]
theorem Ysd {a:XAir} {s:XSetting} {A:List Bool} {up:Bool} {l:List Int} (hl:PresOk l) (hn:l.length=a.mine.places.l.length) (h:Un a s A up l a.mine.places.l.length=some l) {k:Nat} (hk:k < a.mine.places.l.length) (hf:¬ Yib a A k=true):Kaa a s up l k=some (l.getD k 0):=by
  obtain ⟨m1,e1,e2⟩:=Zpa h (k + 1) za
  have e1':=e1
  rw [Un,Option.bind_eq_some_iff] at e1'
  obtain ⟨m0,f1,f2⟩:=e1'
  obtain ⟨m0',g1,g2⟩:=Zpa h k za
  rw [f1] at g1
  cases g1
  have hS:=Zf hl f1
  have em:m0=l:=List.ext_getElem? fun j=>by
    rcases Nat.lt_or_ge j k with h1 | h1
    · exact (g2 j h1).symm
    · exact hS.rest j h1
  subst em
  rw [if_neg hf] at f2
  obtain ⟨v,hv,rfl⟩:=Option.map_eq_some_iff.1 f2
  have:=e2 k za
  rw [List.getElem?_set_self za,Jw (l:=m0) (k:=k) 0 za] at this
  rw [hv,Option.some.inj this]
structure Moved (a:XAir) (A:List Bool) (up:Bool) (l m:List Int):Prop where
  len:m.length=l.length
  le:∀j:Nat,if up=true then l.getD j 0≤m.getD j 0 else m.getD j 0≤l.getD j 0
  fix:∀j:Nat,Yib a A j=true→m.getD j 0=l.getD j 0
theorem Moved.refl {a:XAir} {A:List Bool} {up:Bool} {l:List Int}:Moved a A up l l:=⟨rfl,fun j=>by split <;> exact Int.le_refl _,fun _ _=>rfl⟩
theorem Moved.trans {a:XAir} {A:List Bool} {up:Bool} {l m n:List Int} (h:Moved a A up l m) (k:Moved a A up m n):Moved a A up l n:=by
  refine ⟨k.len.trans h.len,fun j=>?_,fun j hj=>(k.fix j hj).trans (h.fix j hj)⟩
  have h1:=h.le j
  have h2:=k.le j
  split at h1
  · rename_i e;rw [if_pos e] at h2;rw [if_pos e];omega
  · rename_i e;rw [if_neg e] at h2;rw [if_neg e];omega
theorem Vvb {a : XAir} {s : XSetting} {A : List Bool} {up : Bool} {l : List Int} (hl : PresOk l) : ∀ {n : Nat} {m : List Int}, n ≤ l.length → Un a s A up l n = some m → Moved a A up l m
  | 0,m,_,h=>by cases h;exact .refl
  | n + 1,m,hn,h=>by
    have h':=h
    rw [Un,Option.bind_eq_some_iff] at h'
    obtain ⟨m0,e1,e2⟩:=h'
    have ih:=Vvb hl za e1
    have hS:=Zf hl e1
    have hlen:=hS.len
    split at e2
    · cases e2;exact ih
    · rename_i hf
      obtain ⟨v,hv,rfl⟩:=Option.map_eq_some_iff.1 e2
      refine ih.trans ⟨by simp,fun j=>?_,fun j hj=>?_⟩
      · rw [K9a za]
        cases up with
        | true=>
          have:=(Zzd hS.pres hv).1
          simp only [if_true]
          split
          · rename_i e;subst e;exact this
          · exact Int.le_refl _
        | false=>
          have:=(Uyc hS.pres hv).1
          simp only [Bool.false_eq_true,if_false]
          split
          · rename_i e;subst e;exact this
          · exact Int.le_refl _
      · rw [K9a za,if_neg (fun e=>hf (by rw [← e];exact hj))]
theorem Vna {a : XAir} {s : XSetting} {A : List Bool} {up : Bool} : ∀ {n : Nat} {l m : List Int}, PresOk l → l.length = a.mine.places.l.length → U1 a s A up n l = some m → Moved a A up l m
  | 0,l,m,_,_,h=>by cases h
  | n + 1,l,m,hl,hn,h=>by
    rw [U1] at h
    split at h
    · cases h
    · rename_i m1 h1
      have hs:=Zf hl h1
      have hm:=Vvb hl za h1
      split at h
      · cases h;exact hm
      · exact hm.trans (Vna hs.pres (hs.len.trans hn) h)
theorem Zfb {a:XAir} {s:XSetting} {A:List Bool} {n:Nat} {l m:List Int} {up:Bool} (hl:PresOk l) (hn:l.length=a.mine.places.l.length) (h:U1 a s A up n l=some m) {k:Nat} (hk:k < a.mine.places.l.length) (hf:¬ Yib a A k=true):
    if up=true then 0≤K4c a s m (k:Int) else Vfa a s m (k:Int)≤0:=by
  obtain ⟨h1,h2,h3⟩:=Vxa hl h
  have hx:=Ysd h2 (h1.trans hn) h3 hk hf
  cases up with
  | true=>
    have:=(Zzd h2 hx).2.1
    rw [Yja] at this
    simpa using this
  | false=>
    have:=(Uyc h2 hx).2.1
    rw [Yja] at this
    simpa using this
theorem Vla {a:XAir} {s:XSetting} {A:List Bool} {up:Bool} {ps:List Int} (h:StartOk a s ps A):(K5 a s A up ps).1=0∨(K5 a s A up ps).1=2:=by
  rw [K5,if_neg (by rw [V5a.2 h];decide)]
  split
  · exact .inr rfl
  · exact .inl rfl
theorem StartOk.moved {a:XAir} {s:XSetting} {A:List Bool} {up:Bool} {l:List Int} (h:StartOk a s l A) {n:Nat} {m:List Int} (hm:U1 a s A up n l=some m):StartOk a s m A:=by
  obtain ⟨h1,h2,_⟩:=Vxa h.hp hm
  have h3:=Vna h.hp h.hl hm
  exact ⟨h.h0,h.hf,h1.trans h.hl,h2,fun i hi hf=>(h3.fix i hf).trans (h.fix i hi hf)⟩
theorem Ujd {a:XAir} {s:XSetting} {A:List Bool} (h0:Ky a=0) (hf:Vja a s=true):StartOk a s (List.replicate a.mine.places.l.length 0) A:=by
  refine ⟨h0,hf,by simp,fun p hp=>?_,fun i hi _=>?_⟩
  · rw [(List.mem_replicate.1 hp).2];decide
  · rw [List.getD_eq_getElem?_getD, List.getElem?_replicate]
    split <;> rfl
structure Solved (a:XAir) (s:XSetting) (A:List Bool) (lo hi:List Int):Prop where
  lok:StartOk a s lo A
  hok:StartOk a s hi A
  le:∀i:Nat,lo.getD i 0≤hi.getD i 0
  low:∀i:Nat,i < a.mine.places.l.length→¬ Yib a A i=true→Vfa a s lo (i:Int)≤0
  high:∀i:Nat,i < a.mine.places.l.length→¬ Yib a A i=true→0≤K4c a s hi (i:Int)
theorem Ztc {a:XAir} {s:XSetting} {A:List Bool} (h0:Ky a=0) (hf:Vja a s=true):((Yb a s A).1=0∧Solved a s A (Yb a s A).2.1 (Yb a s A).2.2)∨(Yb a s A).1=2:=by
  have s0:=Ujd (A:=A) h0 hf
  rw [Yb]
  dsimp only
  rcases Vla (up:=false) s0 with e1 | e1
  · rw [if_neg za]
    obtain ⟨_,r1⟩:=U2b e1
    have s1:=s0.moved r1
    rcases Vla (up:=true) s1 with e2 | e2
    · rw [if_neg za]
      obtain ⟨_,r2⟩:=U2b e2
      have s2:=s1.moved r2
      rcases Vla (up:=false) s2 with e3 | e3
      · rw [if_neg za]
        obtain ⟨_,r3⟩:=U2b e3
        have s3:=s2.moved r3
        left
        refine ⟨rfl,s3,s2,fun i=>?_,fun i hi hn=>?_,fun i hi hn=>?_⟩
        · have := (Vna s2.hp s2.hl r3).le i
          simpa using this
        · have := Zfb s2.hp s2.hl r3 hi hn
          simpa using this
        · have := Zfb s1.hp s1.hl r2 hi hn
          simpa using this
      · rw [if_pos za]
        exact .inr e3
    · rw [if_pos za]
      exact .inr e2
  · rw [if_pos za]
    exact .inr e1
theorem Solved.accept {a:XAir} {s:XSetting} {A:List Bool} {lo hi:List Int} (h:Solved a s A lo hi) {b:XBounds} (e1:b.low.l=lo) (e2:b.high.l=hi):Accept a s b A:=by
  refine ⟨⟨h.lok.h0,h.lok.hf,by rw [e1];exact h.lok.hl,by rw [e2];exact h.hok.hl,by rw [e1];exact h.lok.hp,by rw [e2];exact h.hok.hp⟩,fun i hi2 hf=>?_,fun i hi2 hf=>?_⟩
  · rw [e1,e2];exact ⟨h.lok.fix i hi2 hf,h.hok.fix i hi2 hf⟩
  · rw [e1,e2];exact ⟨h.high i hi2 hf,h.low i hi2 hf⟩
end
section
theorem U5f {a:XAir} {s:XSetting} {A:List Bool} (h0:Ky a=0) (hf:Vja a s=true) (hA:AiryIs a.mine A):
    (Umb a s A).1=0∧((Accept a s (Zya a s A) A∧(∀i:Nat,(Zya a s A).low.l.getD i 0≤(Zya a s A).high.l.getD i 0)∧(Umb a s A).2=(List.range a.mine.roads.l.length).map (Ux a s (Zya a s A) A))∨(Umb a s A).2=(List.range a.mine.roads.l.length).map (Kea a)):=by
  have hfn:¬ Vja a s=false:=by rw [hf];decide
  rw [Umb,if_neg (by rw [h0];decide),if_neg hfn]
  rcases Ztc (A:=A) h0 hf with h | h
  · have hac : Accept a s (Zya a s A) A := h.2.accept rfl rfl
    rw [if_pos h.1,Uq,if_pos (Vnd.2 hac)]
    exact ⟨rfl,.inl ⟨hac,h.2.le,rfl⟩⟩
  · rw [if_neg (by rw [h]; decide)]
    exact ⟨rfl,.inr rfl⟩
theorem V5d {a:XAir} {s:XSetting} {A:List Bool} (h0:Ky a=0) (hf:Vja a s=true) (hA:AiryIs a.mine A):(Umb a s A).2.length=a.mine.roads.l.length:=by
  rcases (U5f h0 hf hA).2 with ⟨_,_,e⟩ | e <;> rw [e] <;> simp
end
section
attribute [local irreducible] CJ LJ DJ Tri YV Gives Ui J0 Ke Uh RV J2 OwL.L
abbrev Vzd (x:Arr XSpan):Sl:=x.sl 2 XSpan.cells []
end
section
attribute [local irreducible] CJ LJ DJ Tri YV Gives Ui J0 Ke Uh RV J2 OwL.L
structure XFace where
  road:Int
  need:Int
  deriving Inhabited
def XFace.cells (s:XFace):List Value:=[.int .i64 s.road,.int .i64 s.need]
abbrev Ylf (x:Arr XFace):Sl:=x.sl 2 XFace.cells []
structure WrTo {α:Type} (n:Nat) (z:α) (g:Nat→α) (i:Nat) (l:List α):Prop where
  len:l.length=n
  don:∀j:Nat,j < i→l[j]?=some (g j)
  non:∀j:Nat,i≤j→j < n→l[j]?=some z
theorem WrTo.zero {α:Type} {n:Nat} {z:α} {g:Nat→α}:WrTo n z g 0 (List.replicate n z):=⟨by simp,fun j hj=>by omega,fun j _ hj=>by rw [List.getElem?_replicate,if_pos hj]⟩
theorem WrTo.next {α:Type} {n:Nat} {z:α} {g:Nat→α} {i:Nat} {l:List α} (h:WrTo n z g i l) (hi:i < n) {x:α} (hx:x=g i):WrTo n z g (i + 1) (l.set i x):=by
  have hl:=h.len
  refine ⟨by simp [hl],fun j hj=>?_,fun j h1 h2=>?_⟩
  · rw [List.getElem?_set]
    split
    · rename_i e;rw [if_pos za,hx,e]
    · exact h.don j za
  · rw [List.getElem?_set_ne za]
    exact h.non j za h2
theorem WrTo.stay {α:Type} {n:Nat} {z:α} {g:Nat→α} {i:Nat} {l:List α} (h:WrTo n z g i l) (hi:i < n) (hx:z=g i):WrTo n z g (i + 1) l:=by
  refine ⟨h.len,fun j hj=>?_,fun j h1 h2=>h.non j za h2⟩
  rcases Nat.lt_or_ge j i with h1 | h1
  · exact h.don j h1
  · obtain rfl : j = i := by omega
    rw [h.non j (Nat.le_refl _) hi,hx]
theorem WrTo.done {α:Type} {n:Nat} {z:α} {g:Nat→α} {l:List α} (h:WrTo n z g n l):l=(List.range n).map g:=by
  have hl:=h.len
  refine List.ext_getElem? fun j=>?_
  rcases Nat.lt_or_ge j n with hj | hj
  · rw [h.don j hj,List.getElem?_map,List.getElem?_range hj];rfl
  · rw [List.getElem?_eq_none za,List.getElem?_eq_none zD]
def Jze (x:XSpan) (need:Int):Int:=
  if x.high < x.low then 0 else if (need≤0∨need≤x.low)∨x.high≤ -need then 1 else if -need < x.low∧x.high < need then -1 else 0
def Jib (fl:List XSpan) (f:XFace):Int:=if 0≤f.road∧f.road < fl.length then Jze (fl.getD f.road.toNat default) f.need else 0
def Yef (fl:List XSpan) (fc:List XFace):List Int:=(List.range fc.length).map fun k=>Jib fl (fc.getD k default)
def Zke (fc:List XFace):Prop:=∀f∈fc,-4611686018427387904≤f.need∧f.need≤4611686018427387904
theorem Z8e (x:XSpan) (need:Int) (L:List Blk) (R:List Sl) (hn:-4611686018427387904≤need∧need≤4611686018427387904):
    Tri Tryz.prog 275 [x.val,.int .i64 need].toArray L R (fun v L' R'=>v=.int .i64 (Jze x need)∧L=L'∧R=R'):=by
  refine Jg 39 Tryz.call275 Tryz.func275 rfl rfl rfl ?_
  refine Xag ?_
  intro b2
  refine qad ?_
  refine J6 (Jb (Jn (Kg (Jn (Jh ?_)))))
  refine Xaa ?_
  refine Xa1 ?_
  refine Xao ?_
  refine q_c (fun hc0=>?_) (fun hc0=>?_)
  ·
   refine Xa6 ?_
   refine q_i (L':=L) (R':=R) ?_
   exact ⟨by rw [Jze,if_pos hc0],rfl,rfl⟩
  refine Xbc ?_
  refine qbx ?_
  refine qah ?_
  apply J9 (G:=[_,_,_,_]) (j:=2) (cj:=14) rfl rfl zb rfl zdb rfl
  ·
   intro hg3
   replace hg3:=qb hg3
   refine Xam ?_
   exact zid
  intro junk3
  refine qah ?_
  apply J9 (G:=[_,_,_,_,_]) (j:=8) (cj:=20) rfl rfl zb rfl zdb rfl
  ·
   intro hg9
   replace hg9:=qb hg9
   refine Xam ?_
   refine qcq ?_
   refine qbx ?_
   exact qai
  intro junk9
  refine Xao ?_
  refine q_c (fun hc1=>?_) (fun hc1=>?_)
  ·
   refine Xa6 ?_
   refine q_i (L':=L) (R':=R) ?_
   exact ⟨by rw [Jze,if_neg za,if_pos za],rfl,rfl⟩
  refine qae ?_
  refine Xam ?_
  refine qcq ?_
  refine qa5 ?_
  refine qah ?_
  apply Ur (G:=[_,_,_,_]) (j:=5) (cj:=33) rfl rfl zb rfl zdb rfl
  ·
   intro hg6
   replace hg6:=qb hg6
   refine Xam ?_
   exact zyd
  intro junk6
  refine Xao ?_
  refine q_c (fun hc2=>?_) (fun hc2=>?_)
  ·
   refine Xa6 ?_
   refine q_i (L':=L) (R':=R) ?_
   exact ⟨by rw [Jze,if_neg za,if_neg za,if_pos za],rfl,rfl⟩
  refine J5 (Ji (Jb (Jn (Jh ?_))))
  refine Xah ?_
  refine q_i (L':=L) (R':=R) ?_
  exact ⟨by rw [Jze,if_neg za,if_neg za,if_neg za],rfl,rfl⟩
theorem Koe (fl:Arr XSpan) (fc:Arr XFace) (L:List Blk) (R:List Sl) (hfl:InR (Vzd fl) R) (hfc:InR (Ylf fc) R) (hn:Zke fc.l) (hlen:fc.l.length≤1000) (hflen:fl.l.length≤1000):
    Tri Tryz.prog 232 [fl.val,fc.val].toArray L R (fun w L' R'=>∃p:OwL Int,w=p.val∧p.ok 1 Jp∧p.l=Yef fl.l fc.l∧p.L 3 Jp ++ L=L'∧R=R'):=by
  refine Jg 41 Tryz.call232 Tryz.func232 rfl rfl rfl ?_
  refine Xcw ?_
  refine qam ?_
  refine Xap ?_
  refine qc7 ?_
  rintro v L' R' ⟨b10,rfl,rfl,hR10⟩
  replace hR10:=hR10.symm;subst hR10
  refine qc4 ?_
  refine qco ?_
  refine Uv (Y3 (f:=Jp) (x:=0) rfl _) ?_
  refine qay ?_
  refine Xbt ?_
  refine Jo [(0,Value.slice _ _ _),(5,Value.slice _ _ _),(11,Value.slice _ _ _),(12,Value.int _ _),(13,Value.int _ _)] zg fun tq0=>?_
  refine q_p [6,7,13,14,15,16,17,18,19,20,21,22,23,24,25,26,27,28,29,30,31,32,33,34,35,36,37,38,39] ((⟨fun g=>[(13,.int .i64 ((g.1.1:Nat):Int))],fun g=>(⟨.own b10 fc.l.length [],g.1.2⟩:OwL Int).L 3 Jp ++ L,fun _=>R,fun g=>fc.l.length - g.1.1⟩:Head {g:Nat×List Int // g.1≤fc.l.length∧WrTo fc.l.length 0 (fun k=>Jib fl.l (fc.l.getD k default)) g.1 g.2})) (⟨(0,List.replicate fc.l.length 0),by dsimp only;omega,.zero⟩) ?_
  rintro ⟨⟨k,l⟩,w1,w2⟩ junk
  try dsimp only
  dsimp only at w1 w2
  have hll:=w2.len
  have hkq:(⟨.own b10 fc.l.length [],l⟩:OwL Int).ok 1 Jp:=by have:=Ze (f:=Jp) (wd:=1) (b:=b10) (n:=fc.l.length) (x:=0) Vx zE;exact OwL.len_ok Vx this (by simp;exact hll)
  refine Xak ?_
  refine q_c (fun hc0=>?_) (fun hc0=>?_)
  ·
   have hfg:=Jw (l:=fc.l) (k:=k) default za
   have hlg:=w2.non k (Nat.le_refl _) za
   have hnd:=hn _ (List.mem_of_getElem? hfg)
   obtain ⟨f,hf⟩:∃f,f=fc.l.getD k default:=⟨_,rfl⟩
   rw [← hf] at hfg hnd
   refine Xa2 ?_
   refine Jx zB rfl ?_
   refine Xdq ?_
   intro b7
   refine qad ?_
   refine Xb2 ?_
   refine qbz ?_
   refine qah ?_
   apply Ur (G:=[_,_,_,_,_]) (j:=3) (cj:=21) rfl rfl zb rfl zdb rfl
   ·
    intro hg4
    replace hg4:=qb hg4
    refine Xaa ?_
    refine Xap ?_
    exact zyd
   intro junk4
   refine qaf ?_
   refine q_c (fun hc1=>?_) (fun hc1=>?_)
   ·
    have hsg:=Jw (l:=fl.l) (k:=f.road.toNat) default za
    have hfv:Jze (fl.l.getD f.road.toNat default) f.need=(fun k=>Jib fl.l (fc.l.getD k default)) k:=by dsimp only;rw [← hf,Jib,if_pos za]
    refine Kj tb [] [0,1,2,3,4,5,6,7,8,9,10] [11] ([Blk.mk b7 _ _]) _ K1 ze zi (List.nil_sublist _) ?_
    refine Xc9 ?_
    refine Xcu ?_
    refine Kx (by first | exact Jf tb rfl rfl rfl rfl zt (i:=f.road.toNat) zk za | exact Jk tb rfl rfl rfl rfl (i:=f.road.toNat) zk za) rfl rfl rfl rfl ?_
    refine qd1 ?_
    refine Xar ?_
    refine Vi rfl (Z8e (fl.l.getD f.road.toNat default) f.need _ _ hnd) rfl rfl ?_
    rintro v L' R' ⟨rfl,rfl,rfl⟩
    refine ⟨zi,zw,?_⟩
    refine Kx (Ju tb ((⟨.own b10 fc.l.length [],l⟩:OwL Int)) _ rfl rfl ((show _=Value.slice _ _ _ from rfl).trans (Us hll)) rfl zh (i:=k) zk zu) rfl rfl rfl rfl ?_
    refine qba ?_
    refine Kcb (Jr tb ((⟨.own b10 fc.l.length [],l⟩:OwL Int)) (Jze (fl.l.getD f.road.toNat default) f.need) rfl rfl rfl rfl zj zh (fun _=>rfl) zh zc zb zb) rfl rfl ?_
    rintro v L' R' ⟨rfl,rfl⟩
    refine qa1 ?_
    refine Xc7 ?_
    exact q_k ⟨(k + 1,l.set k (Jze (fl.l.getD f.road.toNat default) f.need)),by dsimp only;omega,w2.next za hfv⟩
   have hfv:(0:Int)=(fun k=>Jib fl.l (fc.l.getD k default)) k:=by dsimp only;rw [← hf,Jib,if_neg za]
   refine Xax ?_
   exact q_k ⟨(k + 1,l),by dsimp only;omega,w2.stay za hfv⟩
  obtain rfl:k=fc.l.length:=by omega
  refine Xcp ?_
  refine Xcq ?_
  refine q_r (L':=(⟨.own b10 fc.l.length [],l⟩:OwL Int).L 3 Jp ++ L) (R':=R) zSc ?_
  exact ⟨(⟨.own b10 fc.l.length [],l⟩:OwL Int),by simp only [OwL.val,Ow.addr,Ow.cap,hll],hkq,w2.done,rfl,rfl⟩
end
section
end
section
abbrev Sts:=List Int×List Int
def mkS (s:Sts):XSetting:=⟨⟨none,0,s.1⟩,⟨none,0,s.2⟩⟩
abbrev Ynb (s:XSetting):Sts:=(s.fans.l,s.doors.l)
def flS (a:XAir) (A:List Bool) (s:Sts):List XSpan:=(Umb a (mkS s) A).2
end
section
def Vuc (f:XFan):XFan:=⟨f.road,f.back,f.aux,⟨none,0,f.curve.l⟩⟩
def Yya (d:XDoor):XDoor:=⟨d.road,d.other,⟨none,0,d.rests.l⟩⟩
def K5c (m:XMine):XMine:=⟨⟨none,0,m.places.l⟩,⟨none,0,m.roads.l⟩⟩
def Yv (a:XAir):XAir:=⟨K5c a.mine,⟨none,0,a.fans.l.map Vuc⟩,⟨none,0,a.doors.l.map Yya⟩⟩
abbrev Uwc (s:XSetting):XSetting:=mkS (Ynb s)
theorem Ueb {α β:Type} {f:α→β} {l:List α} {k:Nat} {d:α} {e:β} (h:f d=e):(l.map f).getD k e=f (l.getD k d):=by
  rw [List.getD_eq_getElem?_getD,List.getD_eq_getElem?_getD,List.getElem?_map]
  cases l[k]? with
  | none=>exact h.symm
  | some x=>rfl
theorem Vee (a:XAir) (k:Nat):(Yv a).fans.l.getD k default=Vuc (a.fans.l.getD k default):=Ueb rfl
theorem U3b (a:XAir) (k:Nat):(Yv a).doors.l.getD k default=Yya (a.doors.l.getD k default):=Ueb rfl
theorem Vtb (a : XAir) (s : XSetting) (r : Int) : ∀ k, Vh (Yv a) (Uwc s) r k = Vh a s r k
  | 0=>rfl
  | k + 1=>by rw [Vh,Vh,Vtb a s r k,U3b];rfl
theorem Kob (a : XAir) (s : XSetting) (r q : Int) : ∀ k, innerTo (Yv a) (Uwc s) r q k = innerTo a s r q k
  | 0=>by rw [innerTo,innerTo,Vtb,show (Yv a).doors.l.length=a.doors.l.length from List.length_map _];rfl
  | k + 1=>by rw [innerTo,innerTo,Kob a s r q k,Vee];rfl
theorem Uld (a:XAir) (s:XSetting):Uk (Yv a) (Uwc s)=Uk a s:=by
  funext r q
  rw [Uk,Uk,Kob,show (Yv a).fans.l.length=a.fans.l.length from List.length_map _]
theorem Yec (l:List XDoor):Z7 (l.map Yya)=Z7 l:=by
  funext i
  rw [Z7,Z7,List.getElem?_map]
  cases l[i]? with
  | none=>rfl
  | some d=>
    have hp:Khb (l.map Yya) i (Yya d)↔Khb l i d:=by
      unfold Khb
      simp only [List.length_map,Ueb (f:=Yya) (l:=l) (d:=default) (e:=default) rfl]
      exact Iff.rfl
    simp only [Option.map_some,hp]
    rfl
theorem Jtc (l:List XDoor):Vt (l.map Yya)=Vt l:=by rw [Vt,Vt,Yec,List.length_map]
theorem Vrb (a:XAir):Ky (Yv a)=Ky a:=by
  have h1:(Yv a).fans.l=a.fans.l.map Vuc:=rfl
  have h2:(Yv a).doors.l=a.doors.l.map Yya:=rfl
  have h3:(Yv a).mine=K5c a.mine:=rfl
  have h4:Vf (K5c a.mine)=Vf a.mine:=rfl
  rw [Ky,Ky,h1,h2,h3,h4,Jtc,List.length_map,List.findSome?_map,List.findSome?_map]
  rfl
theorem Y3d (a:XAir) (s:XSetting):Vja (Yv a) (Uwc s)=Vja a s:=by
  have h1:(Yv a).fans.l.length=a.fans.l.length:=List.length_map _
  have h2:(Yv a).doors.l.length=a.doors.l.length:=List.length_map _
  have h3:Yx (Yv a).doors.l (Uwc s).doors.l=Yx a.doors.l s.doors.l:=by
    funext i
    show Yx (a.doors.l.map Yya) s.doors.l i=_
    rw [Yx,Yx,List.getElem?_map]
    cases s.doors.l[i]? <;> cases a.doors.l[i]? <;> rfl
  rw [Vja,Vja,h1,h2,h3]
  rfl
section
variable {a a':XAir} {s s':XSetting}
structure AirE (a a':XAir) (s s':XSetting):Prop where
  mine:a.mine.places.l=a'.mine.places.l∧a.mine.roads.l=a'.mine.roads.l
  inner:Uk a s=Uk a' s'
  err:Ky a=Ky a'
  fit:Vja a s=Vja a' s'
variable (h:AirE a a' s s')
include h
theorem AirE.term (F G:(Int→XSpan)→Int→Int):Yqa F G a s=Yqa F G a' s':=by
  funext ps v k
  rw [Yqa,Yqa,Kka,Kka,h.inner,h.mine.2]
theorem AirE.sum (F G : (Int → XSpan) → Int → Int) (ps : List Int) (v : Int) : ∀ k, V4c F G a s ps v k = V4c F G a' s' ps v k
  | 0=>rfl
  | k + 1=>by rw [V4c,V4c,AirE.sum F G ps v k,h.term]
theorem AirE.low:K4c a s=K4c a' s':=by
  funext ps v
  rw [K4c,K4c,h.sum,h.mine.2]
theorem AirE.high:Vfa a s=Vfa a' s':=by
  funext ps v
  rw [Vfa,Vfa,h.sum,h.mine.2]
theorem AirE.test (up:Bool) (l:List Int):Jmc a s up l=Jmc a' s' up l:=by
  funext v q
  rw [Jmc,Jmc]
  unfold Zpe Zkc
  rw [h.low,h.high]
theorem AirE.next (up:Bool):Kaa a s up=Kaa a' s' up:=by
  funext l k
  rw [Kaa,Kaa,h.test]
theorem AirE.fix (A:List Bool):Yib a A=Yib a' A:=by
  funext k
  rw [Yib,Yib,h.mine.1]
theorem AirE.sweep (A : List Bool) (up : Bool) (l : List Int) : ∀ k, Un a s A up l k = Un a' s' A up l k
  | 0=>rfl
  | k + 1=>by rw [Un,Un,AirE.sweep A up l k,h.fix,h.next]
theorem AirE.rounds (A : List Bool) (up : Bool) : ∀ n l, U1 a s A up n l = U1 a' s' A up n l
  | 0,_=>rfl
  | n + 1,l=>by
    rw [U1,U1,h.sweep,h.mine.1]
    cases Un a' s' A up l a'.mine.places.l.length with
    | none=>rfl
    | some m=>dsimp only;rw [AirE.rounds A up n m]
theorem AirE.start (ps:List Int) (A:List Bool):Vb a s ps A=Vb a' s' ps A:=by
  have e:V6 a ps A=V6 a' ps A:=by
    funext i
    rw [V6,V6,h.fix]
  rw [Vb,Vb,h.err,h.fit,h.mine.1,e]
theorem AirE.relax (A:List Bool) (up:Bool) (ps:List Int):K5 a s A up ps=K5 a' s' A up ps:=by
  rw [K5,K5,h.start,h.rounds]
theorem AirE.solve (A:List Bool):Yb a s A=Yb a' s' A:=by
  have e:K5 a s A=K5 a' s' A:=by
    funext up ps
    exact h.relax A up ps
  rw [Yb,Yb,e,h.mine.1]
theorem AirE.check (b:XBounds) (A:List Bool):Ys a s b A=Ys a' s' b A:=by
  have e:U0 a s b A=U0 a' s' b A:=by
    funext i
    rw [U0,U0,h.low,h.high,h.mine.1]
  rw [Ys,Ys,h.err,h.fit,h.mine.1,e]
theorem AirE.flows (b:XBounds) (A:List Bool):Uq a s b A=Uq a' s' b A:=by
  have e:Ux a s b A=Ux a' s' b A:=by
    funext k
    rw [Ux,Ux,h.inner,h.mine.2]
  rw [Uq,Uq,h.check,h.mine.2,e]
theorem AirE.ana (A:List Bool):Umb a s A=Umb a' s' A:=by
  have e:Kea a=Kea a':=by
    funext k
    rw [Kea,Kea,h.mine.2]
  rw [Umb,Umb,h.err,h.fit,Zya,Zya,h.solve,h.flows,h.mine.2,e]
end
theorem AirE.bare (a:XAir) (s:XSetting):AirE (Yv a) a (Uwc s) s:=⟨⟨rfl,rfl⟩,Uld a s,Vrb a,Y3d a s⟩
theorem AirE.symm {a a':XAir} {s s':XSetting} (h:AirE a a' s s'):AirE a' a s' s:=⟨⟨h.mine.1.symm,h.mine.2.symm⟩,h.inner.symm,h.err.symm,h.fit.symm⟩
theorem AirE.trans {a a' a'':XAir} {s s' s'':XSetting} (h:AirE a a' s s') (k:AirE a' a'' s' s''):AirE a a'' s s'':=⟨⟨h.mine.1.trans k.mine.1,h.mine.2.trans k.mine.2⟩,h.inner.trans k.inner,h.err.trans k.err,h.fit.trans k.fit⟩
theorem AirE.of {a a':XAir} {s s':XSetting} (h1:Yv a=Yv a') (h2:Ynb s=Ynb s'):AirE a a' s s':=by
  have e1:=(AirE.bare a s).symm
  have e2:=AirE.bare a' s'
  rw [h1,show Uwc s=Uwc s' from congrArg mkS h2] at e1
  exact e1.trans e2
theorem Yke (a:XAir) {s s':XSetting} (A:List Bool) (h:Ynb s=Ynb s'):Umb a s A=Umb a s' A:=(AirE.of rfl h).ana A
theorem Y9e (a:XAir) {s s':XSetting} (h:Ynb s=Ynb s'):Vja a s=Vja a s':=(AirE.of rfl h).fit
theorem J9f (a:XAir) (s:XSetting) (A:List Bool):flS a A (Ynb s)=(Umb a s A).2:=by rw [flS,Yke a (s:=mkS (Ynb s)) (s':=s) A rfl]
end
end Go.Proofs.YtchfclmokpbldaaGreat
